/-
  ScanBlanks: part 5 of what the proof rests on (a value semantics for a part of the language, sound against the model; the walks).
-/
import Derived.Below
import Derived.Test.YthaolbkjkigllaaDoorW4
/-
  What an operation looks at, and what it changes.
-/
set_option linter.unusedSimpArgs false
set_option linter.unusedVariables false
open Bool renaming false_eq_true → qz0, and_self → qz1, or_true → qz7, or_self → qAd, and_eq_true → qAf, cond_eq_ite → qAh, or_false → qAl, not_true → qAm, not_false → qAr
open List renaming getElem?_cons_zero → qz2, map_cons → qz3, length_cons → qz4, getElem?_cons_succ → qz5, length_nil → qz8, map_nil → qz9, set_cons_zero → qAa, set_cons_succ → qAc, take_succ_cons → qAi, drop_zero → qAn, take_zero → qAp, getElem?_eq_getElem → qAt
open Nat renaming zero_add → qz6, le_refl → qAe, beq → qAk, eq_of_beq_eq_true → qAo, min_self → qAs, add_zero → qAu
open Option renaming map_some → qAb, bind_eq_some_iff → qAg, bind_eq_bind → qAj, pure_def → qAq
open Int renaming cast_ofNat_Int → qAv
namespace W
open Go (IntKind BinOp UnOp)
structure Fr (k : OpK) (st st2 : St) (r r2 : Or) : Prop where
  pan : r2.pan = r.pan
  same : r2.same = r.same
  v : r2.v = r.v
  inn : ∀ s, s ∈ k.boxW → get s r2.st.env = get s r.st.env
  out1 : ∀ s, s ∉ k.boxW → get s r.st.env = get s st.env
  out2 : ∀ s, s ∉ k.boxW → get s r2.st.env = get s st2.env
  H1 : k.free = true → r.same = true → r.st.H = st.H ∧ r2.st.H = st2.H
  H2 : st2.H = st.H → r2.st.H = r.st.H
  lp : ∀ n, qb0 n r.st.env = qb0 n st.env
  lp2 : ∀ n, qb0 n r2.st.env = qb0 n st2.env
def qzd (k : OpK) (e e2 : Env) : Prop := ∀ s, s ∈ yl k.rds ∨ s ∈ k.boxR → get s e2 = get s e
theorem qgM {e e2 : Env} {x : O} (h : ∀ s, s ∈ yl [x] → get s e2 = get s e) : rd e2 x = rd e x := by
  cases x with
  | t n => simp only [rd]; rw [h n (by simp [yl])]
  | mv n => simp only [rd]; rw [h n (by simp [yl])]
  | c x => rfl
  | f i => rfl
  | g i x => rfl
theorem qb4 (a b : List O) : yl (a ++ b) = yl a ++ yl b := by
  induction a with
  | nil => rfl
  | cons x l ih => cases x <;> simp [yl, ih]
theorem qaO (x : O) (l : List O) : yl (x :: l) = yl [x] ++ yl l := qb4 [x] l
theorem qfQ {e e2 : Env} : ∀ {l : List O}, (∀ s, s ∈ yl l → get s e2 = get s e) → l.map (rd e2) = l.map (rd e)
  | [], _ => rfl
  | x :: l, h => by
    rw [qaO] at h
    simp only [qz3]
    rw [qgM (fun s hs => h s (by simp [hs])), qfQ (fun s hs => h s (by simp [hs]))]
theorem qct {e e2 : Env} {x : Option O} (h : ∀ s, s ∈ yl x.toList → get s e2 = get s e) : jT e2 x = jT e x := by
  cases x with
  | none => rfl
  | some x => simp only [jT]; rw [qgM (x := x) (by simpa using h)]
theorem qqQ (n m : Nat) (e : Env) : qb0 n ((m, .undef) :: e) = qb0 n e := rfl
theorem qhI (n : Nat) (x : O) (e : Env) : qb0 n (spent x e) = qb0 n e := by cases x <;> rfl
theorem qdd (n : Nat) : ∀ (l : List O) (e : Env), qb0 n (spentAll l e) = qb0 n e
  | [], _ => rfl
  | x :: l, e => by simp only [spentAll]; rw [qdd n l, qhI]
theorem qeT (x : O) (e : Env) (k : Nat) : get k (spent x e) = if k ∈ qav [x] then .undef else get k e := yE [x] e k
variable {st st2 : St} {r : Or}
theorem qlO {k : OpK} (hst : r.st = st) {r2 : Or} (h2 : r2 = { r with st := st2 }) (hW : ∀ s, s ∈ k.boxW → get s st2.env = get s st.env) : Fr k st st2 r r2 := by
  subst h2
  refine ⟨rfl, rfl, rfl, fun s hs => (by rw [hst]; exact hW s hs), fun s _ => (by rw [hst]), fun s _ => rfl, fun _ _ => ⟨by rw [hst], rfl⟩, fun h => (by rw [hst]; exact h), fun n => (by rw [hst]), fun n => rfl⟩
theorem qfK {k : OpK} {l : List O} {v : V} (hW : k.boxW = qav l) {same : Bool} {pan : Bool} {H' H2' : List Obj} {lo lo2 : Nat} (h1 : k.free = true → same = true → H' = st.H ∧ H2' = st2.H) (h2 : st2.H = st.H → H2' = H') :
    Fr k st st2 ⟨pan, same, v, { env := spentAll l st.env, H := H', lo := lo }⟩ ⟨pan, same, v, { env := spentAll l st2.env, H := H2', lo := lo2 }⟩ := by
  refine ⟨rfl, rfl, rfl, fun s hs => ?_, fun s hs => ?_, fun s hs => ?_, h1, h2, fun n => qdd n l _, fun n => qdd n l _⟩
  · rw [hW] at hs; simp only [yE, hs, if_true]
  · rw [hW] at hs; simp only [yE, hs, if_false]
  · rw [hW] at hs; simp only [yE, hs, if_false]
theorem ja {v : V} (h : ok v st = some r) : r.st = st ∧ ok v st2 = some { r with st := st2 } := by
  simp only [ok, Option.some.injEq] at h; subst h; exact ⟨rfl, rfl⟩
theorem qu5 {c a b : O} (h : qgh c a b st = some r) (e1 : rd st2.env c = rd st.env c) (e2 : rd st2.env a = rd st.env a) (e3 : rd st2.env b = rd st.env b) : r.st = st ∧ qgh c a b st2 = some { r with st := st2 } := by
  unfold qgh at h ⊢; rw [e1, e2, e3]
  split at h
  · rename_i hz; (try simp only [hz]); exact ja h
  · cases h
theorem qtA {z : List D} {p : List (Nat × Nat × O)} (h : qd4 z p st = some r) (e : (p.map fun (o, s, x) => (o, s, rd st2.env x)) = (p.map fun (o, s, x) => (o, s, rd st.env x))) : r.st = st ∧ qd4 z p st2 = some { r with st := st2 } := by
  unfold qd4 at h ⊢; rw [e]
  cases hk : qde (p.map fun (o, s, x) => (o, s, rd st.env x)) with
  | false => rw [hk] at h; simp at h
  | true =>
    rw [hk] at h
    simp only [qAm, cond_false] at h ⊢
    split at h
    · rename_i hz; (try simp only [hz]); exact ja h
    · cases h
theorem qlJ {z : D} {n : Nat} {p : List (Nat × O)} (h : qaR z n p st = some r) (e : (p.map fun (j, x) => (j, rd st2.env x)) = (p.map fun (j, x) => (j, rd st.env x))) : r.st = st ∧ qaR z n p st2 = some { r with st := st2 } := by
  unfold qaR at h ⊢; rw [e]
  split at h
  · rename_i hz; (try simp only [hz])
    split at h
    · rename_i hw; (try simp only [hw, if_true]); exact ja h
    · cases h
  · cases h
theorem qoI {x : O} (h : qcc x st = some r) (e1 : rd st2.env x = rd st.env x) : r.st = st ∧ qcc x st2 = some { r with st := st2 } := by
  unfold qcc at h ⊢; rw [e1]
  split at h
  · rename_i hz; (try simp only [hz]); exact ja h
  · rename_i hz; (try simp only [hz]); exact ja h
  · rename_i hz; (try simp only [hz]); exact ja h
  · cases h
theorem qxb {op : BinOp} {kd : Kd} {x y : O} (h : qjk op kd x y st = some r) (e1 : rd st2.env x = rd st.env x) (e2 : rd st2.env y = rd st.env y) : r.st = st ∧ qjk op kd x y st2 = some { r with st := st2 } := by
  unfold qjk at h ⊢; rw [e1, e2]
  split at h
  · rename_i hz; (try simp only [hz]); exact ja h
  · cases h
theorem qzv {op : UnOp} {x : O} (h : eUn op x st = some r) (e1 : rd st2.env x = rd st.env x) : r.st = st ∧ eUn op x st2 = some { r with st := st2 } := by
  unfold eUn at h ⊢; rw [e1]
  split at h
  · rename_i hz; (try simp only [hz])
    split at h
    · rename_i hw; (try simp only [hw]); exact ja h
    · cases h
  · cases h
theorem quq {k : IntKind} {x : O} (h : qgl k x st = some r) (e1 : rd st2.env x = rd st.env x) : r.st = st ∧ qgl k x st2 = some { r with st := st2 } := by
  unfold qgl at h ⊢; rw [e1]
  split at h
  · rename_i hz; (try simp only [hz]); exact ja h
  · cases h
theorem qs7 {x : O} (h : qe8 x st = some r) (e1 : rd st2.env x = rd st.env x) : r.st = st ∧ qe8 x st2 = some { r with st := st2 } := by
  unfold qe8 at h ⊢; rw [e1]
  split at h
  · rename_i hz; (try simp only [hz]); exact ja h
  · cases h
theorem qu0 {x : O} (h : qgp x st = some r) (e1 : rd st2.env x = rd st.env x) (hH : st2.H = st.H) : r.st = st ∧ qgp x st2 = some { r with st := st2 } := by
  unfold qgp at h ⊢; rw [e1, hH]
  simp only [qAh] at h ⊢
  split at h
  · rename_i hz; (try simp only [hz]); exact ja h
  · rename_i hz; (try simp only [hz])
    split at h
    · rename_i hw; (try simp only [hw]); exact ja h
    · cases h
  · rename_i hz; (try simp only [hz])
    split at h
    · rename_i hw; (try simp only [hw])
      split at h
      · rename_i hw2; (try simp only [hw2, if_true])
        split at h
        · rename_i hw3; (try simp only [hw3])
          split at h
          · rename_i hw4; (try simp only [hw4]); exact ja h
          · cases h
        · cases h
      · cases h
    · cases h
  · cases h
theorem quJ {x : O} (h : qgP x st = some r) (e1 : rd st2.env x = rd st.env x) : r.st = st ∧ qgP x st2 = some { r with st := st2 } := by
  unfold qgP at h ⊢; rw [e1]
  split at h
  · rename_i hz; (try simp only [hz]); exact ja h
  · cases h
theorem qty {t : Nat} {x : O} (h : qga t x st = some r) (e1 : rd st2.env x = rd st.env x) : r.st = st ∧ qga t x st2 = some { r with st := st2 } := by
  unfold qga at h ⊢; rw [e1]
  split at h
  · rename_i hz; (try simp only [hz, if_true]); exact ja h
  · cases h
theorem qob {t : Nat} {z : D} {x : O} (h : qcg t z x st = some r) (e1 : rd st2.env x = rd st.env x) : r.st = st ∧ qcg t z x st2 = some { r with st := st2 } := by
  unfold qcg at h ⊢; rw [e1]
  split at h
  · rename_i t' v hz
    (try simp only [hz])
    cases hb : qAk t' t with
    | true => simp only [hb, cond_true] at h ⊢; exact ja h
    | false => simp only [hb, cond_false] at h ⊢; exact ja h
  · rename_i hz; (try simp only [hz]); exact ja h
  · cases h
theorem qvk {f : Nat} {a b : List O} (h : qij f a b st = some r) (e1 : a.map (rd st2.env) = a.map (rd st.env)) (e2 : b.map (rd st2.env) = b.map (rd st.env)) : r.st = st ∧ qij f a b st2 = some { r with st := st2 } := by
  unfold qij at h ⊢; rw [e1, e2]
  split at h
  · rename_i hz; (try simp only [hz, if_true]); exact ja h
  · cases h
theorem qsb {x : O} {a b : Option O} (h : qdA x a b st = some r) (e1 : rd st2.env x = rd st.env x) (e2 : jT st2.env a = jT st.env a) (e3 : jT st2.env b = jT st.env b) : r.st = st ∧ qdA x a b st2 = some { r with st := st2 } := by
  unfold qdA at h ⊢; rw [e1, e2, e3]
  split at h
  · rename_i hz1 hz2; (try simp only [hz1, hz2])
    split at h
    · rename_i hw; (try simp only [hw]); exact ja h
    · cases h
  · cases h
theorem qsy {n : Nat} {x : O} {a b : Option O} (h : qdC n x a b st = some r) (e1 : rd st2.env x = rd st.env x) (e2 : jT st2.env a = jT st.env a) (e3 : jT st2.env b = jT st.env b) : r.st = st ∧ qdC n x a b st2 = some { r with st := st2 } := by
  unfold qdC at h ⊢; rw [e1, e2, e3]
  split at h
  · rename_i hz1 hz2; (try simp only [hz1, hz2])
    split at h
    · rename_i hw; (try simp only [hw]); exact ja h
    · cases h
  · cases h
theorem qsB {n : Nat} {x : O} {a b : Option O} (h : qdI n x a b st = some r) (e1 : rd st2.env x = rd st.env x) (e2 : jT st2.env a = jT st.env a) (e3 : jT st2.env b = jT st.env b) : r.st = st ∧ qdI n x a b st2 = some { r with st := st2 } := by
  unfold qdI at h ⊢; rw [e1, e2, e3]
  split at h
  · rename_i hz1 hz2; (try simp only [hz1, hz2])
    split at h
    · rename_i hw; (try simp only [hw]); exact ja h
    · cases h
  · cases h
theorem qrC {n : Nat} {x : O} {a : Option O} {b m : O} (h : qdz n x a b m st = some r) (e1 : rd st2.env x = rd st.env x) (e2 : jT st2.env a = jT st.env a) (e3 : rd st2.env b = rd st.env b) (e4 : rd st2.env m = rd st.env m) : r.st = st ∧ qdz n x a b m st2 = some { r with st := st2 } := by
  unfold qdz at h ⊢; rw [e1, e2, e3, e4]
  split at h
  · rename_i hz1 hz2 hz3; (try simp only [hz1, hz2, hz3])
    split at h
    · rename_i hw; (try simp only [hw]); exact ja h
    · cases h
  · cases h
theorem qmO {x : O} {o : Nat} {l : L} (h : qaD x o l st = some r) (e1 : rd st2.env x = rd st.env x) : r.st = st ∧ qaD x o l st2 = some { r with st := st2 } := by
  unfold qaD at h ⊢; rw [e1]
  split at h
  · rename_i hz; (try simp only [hz]); exact ja h
  · rename_i hz; (try simp only [hz]); exact ja h
  · rename_i hz; (try simp only [hz])
    split at h
    · rename_i hw; (try simp only [hw])
      split at h
      · rename_i hq; (try simp only [hq, if_true]); exact ja h
      · cases h
    · cases h
  · cases h
theorem qsU {x : O} {o : Nat} {l : L} (h : qfg x o l st = some r) (e1 : rd st2.env x = rd st.env x) : r.st = st ∧ qfg x o l st2 = some { r with st := st2 } := by
  unfold qfg at h ⊢; rw [e1]
  split at h
  · rename_i hz; (try simp only [hz])
    split at h
    · rename_i hw; (try simp only [hw]); exact ja h
    · cases h
  · rename_i hz; (try simp only [hz])
    split at h
    · rename_i hw; (try simp only [hw]); exact ja h
    · cases h
  · cases h
theorem qnW {x i : O} {n : Nat} {arr : Option Nat} (h : qaf x i n arr st = some r) (e1 : rd st2.env x = rd st.env x) (e2 : rd st2.env i = rd st.env i) : r.st = st ∧ qaf x i n arr st2 = some { r with st := st2 } := by
  unfold qaf at h ⊢; rw [e2]
  split at h
  · rename_i hz; (try simp only [hz])
    cases arr with
    | some len =>
      simp only [qcN, qAh, e1] at h ⊢
      split at h
      · rename_i hw; (try simp only [hw, if_true])
        split at h
        · rename_i hq; (try simp only [hq]); exact ja h
        · rename_i hq; (try simp only [hq]); exact ja h
        · rename_i hq; (try simp only [hq])
          split at h
          · rename_i hq1; (try simp only [hq1, if_true])
            split at h
            · rename_i hq2; (try simp only [hq2])
              split at h
              · rename_i hq3; (try simp only [hq3, if_true]); exact ja h
              · cases h
            · cases h
          · cases h
        · cases h
      · cases h
    | none =>
      simp only [qcL, qAh, e1] at h ⊢
      split at h
      · rename_i hw; (try simp only [hw, if_true])
        split at h
        · rename_i hq; (try simp only [hq])
          split at h
          · rename_i hq2; (try simp only [hq2])
            split at h
            · rename_i hq3; (try simp only [hq3, if_true]); exact ja h
            · cases h
          · cases h
        · rename_i hq; (try simp only [hq])
          split at h
          · rename_i hq3; (try simp only [hq3, if_true]); exact ja h
          · cases h
        · cases h
      · cases h
  · cases h
theorem qsZ {x i : O} (h : qe2 x i st = some r) (e1 : rd st2.env x = rd st.env x) (e2 : rd st2.env i = rd st.env i) : r.st = st ∧ qe2 x i st2 = some { r with st := st2 } := by
  unfold qe2 at h ⊢; rw [e1, e2]
  split at h
  · rename_i hz1 hz2; (try simp only [hz1, hz2, qAh] at h ⊢)
    split at h
    · rename_i hw; (try simp only [hw, if_true])
      split at h
      · rename_i hq; (try simp only [hq]); exact ja h
      · cases h
    · cases h
  · cases h
theorem qrA {kk : Nat} {z : D} {m k : O} {c : Bool} (h : qdL kk z m k c st = some r) (e1 : rd st2.env m = rd st.env m) (e2 : rd st2.env k = rd st.env k) (eH : st2.H = st.H) : r.st = st ∧ qdL kk z m k c st2 = some { r with st := st2 } := by
  unfold qdL at h ⊢; rw [e1, e2]
  split at h
  · rename_i hz1 hz2; (try simp only [hz1, hz2])
    split at h
    · rename_i hw; (try simp only [hw, if_true]); exact ja h
    · cases h
  · rename_i hz1 hz2; (try simp only [hz1, hz2, eH])
    split at h
    · rename_i hw; (try simp only [hw])
      split at h
      · rename_i hq; (try simp only [hq, if_true])
        split at h
        · rename_i hq2; (try simp only [hq2]); exact ja h
        · rename_i hq2; (try simp only [hq2]); exact ja h
        · cases h
      · cases h
    · cases h
  · cases h
theorem qp6 {x : O} {i : Nat} (h : qcT x i st = some r) (e : ∀ s, s ∈ yl [x] → get s st2.env = get s st.env) : r.st = st ∧ qcT x i st2 = some { r with st := st2 } := by
  unfold qcT at h ⊢
  split at h
  · rename_i n
    rw [e n (by simp [yl])]
    split at h
    · rename_i hz; (try simp only [hz])
      split at h
      · rename_i hw; (try simp only [hw]); exact ja h
      · cases h
    · cases h
  · cases h
end W

/-
  What an operation looks at, and what it changes: those that change something.
-/
set_option linter.unusedSimpArgs false
set_option linter.unusedVariables false
namespace W
open Go (IntKind BinOp UnOp)
variable {st st2 : St} {r : Or}
theorem qqD {v : V} (h : ∀ m o, v ≠ .lp m o) (n k : Nat) (e : Env) : qb0 n ((k, v) :: e) = qb0 n e := by
  cases v <;> first | rfl | exact absurd rfl (h _ _)
theorem qwV {x : O} (h : qlY x st = some r) (e1 : rd st2.env x = rd st.env x) : ∃ r2, qlY x st2 = some r2 ∧ Fr (.mov x) st st2 r r2 := by
  simp only [qlY, ok, Option.some.injEq] at h ⊢
  subst h
  refine ⟨_, rfl, ?_⟩
  rw [e1]
  exact qfK (l := [x]) rfl (fun _ _ => ⟨rfl, rfl⟩) (fun h => h)
theorem qsJ {loc : Bool} {z : List D} (h : qfA loc z st = some r) (eH : (!loc) = true → st2.H = st.H) : ∃ r2, qfA loc z st2 = some r2 ∧ Fr (.alloc loc z) st st2 r r2 := by
  cases loc with
  | true =>
    simp only [qfA, cond_true] at h ⊢
    obtain ⟨h1, h2⟩ := ja (st2 := st2) h
    exact ⟨_, h2, qlO h1 rfl (fun s hs => by cases hs)⟩
  | false =>
    simp only [qfA, cond_false, okH, Option.some.injEq] at h ⊢
    subst h
    have e := eH rfl
    refine ⟨_, rfl, rfl, rfl, by rw [e], fun s hs => (by cases hs), fun s _ => rfl, fun s _ => rfl, fun h => (by cases h), fun _ => by rw [e], fun n => rfl, fun n => rfl⟩
theorem qwN {loc : Bool} {x : O} (h : qkM loc x st = some r) (e1 : rd st2.env x = rd st.env x) (eH : (!loc) = true → st2.H = st.H) : ∃ r2, qkM loc x st2 = some r2 ∧ Fr (.box loc x) st st2 r r2 := by
  simp only [qkM] at h ⊢
  rw [e1]
  split at h
  · cases h
  · rename_i hv
    (try rw [if_neg hv])
    cases loc with
    | true =>
      simp only [cond_true, ok, Option.some.injEq] at h ⊢
      subst h
      exact ⟨_, rfl, qfK (l := [x]) rfl (fun _ _ => ⟨rfl, rfl⟩) (fun h => h)⟩
    | false =>
      simp only [cond_false] at h ⊢
      split at h
      · rename_i hv2
        (try rw [if_pos hv2])
        simp only [okH, Option.some.injEq] at h ⊢
        subst h
        have e := eH rfl
        rw [e]
        exact ⟨_, rfl, qfK (l := [x]) rfl (fun h => by cases h) (fun h => rfl)⟩
      · cases h
theorem qtj (h : qgn st = some r) (eH : st2.H = st.H) : ∃ r2, qgn st2 = some r2 ∧ Fr .mkMap st st2 r r2 := by
  simp only [qgn, okH, Option.some.injEq] at h ⊢
  subst h
  refine ⟨_, rfl, rfl, rfl, by rw [eH], fun s hs => (by cases hs), fun s _ => rfl, fun s _ => rfl, fun h => (by cases h), fun _ => by rw [eH], fun n => rfl, fun n => rfl⟩
theorem qqF {z : D} {a b : O} (h : qdM z a b st = some r) (e1 : rd st2.env a = rd st.env a) (e2 : rd st2.env b = rd st.env b) (eH : st2.H = st.H) : ∃ r2, qdM z a b st2 = some r2 ∧ Fr (.mkSlice z a b) st st2 r r2 := by
  unfold qdM at h ⊢
  rw [e1, e2]
  split at h
  · rename_i hz1 hz2; (try simp only [hz1, hz2])
    split at h
    · rename_i hw; (try simp only [hw])
      split at h
      · rename_i hq; (try simp only [hq, if_true])
        simp only [okH, Option.some.injEq] at h
        subst h
        (try rw [if_pos hw])
        refine ⟨_, rfl, rfl, rfl, by rw [eH, hq], fun s hs => (by cases hs), fun s _ => rfl, fun s _ => rfl, fun h => (by cases h), fun _ => by rw [eH, hq], fun n => rfl, fun n => rfl⟩
      · cases h
    · cases h
  · cases h
theorem qoq {z : D} {n : Nat} {p : List (Nat × O)} (h : qcf z n p st = some r) (e : (p.map fun (j, x) => (j, rd st2.env x)) = (p.map fun (j, x) => (j, rd st.env x))) (eH : st2.H = st.H) : ∃ r2, qcf z n p st2 = some r2 ∧ Fr (.buildRow z n p) st st2 r r2 := by
  unfold qcf at h ⊢
  rw [e]
  split at h
  · rename_i xs hz; (try simp only [hz])
    split at h
    · rename_i hw
      (try rw [if_pos hw])
      simp only [okH, Option.some.injEq] at h
      subst h
      refine ⟨_, rfl, rfl, rfl, by rw [eH], fun s hs => (by cases hs), fun s _ => rfl, fun s _ => rfl, fun h => (by cases h), fun _ => by rw [eH], fun n => rfl, fun n => rfl⟩
    · cases h
  · cases h
theorem qni {kk : Nat} {m k x : O} (h : qbq kk m k x st = some r) (e1 : rd st2.env m = rd st.env m) (e2 : rd st2.env k = rd st.env k) (e3 : rd st2.env x = rd st.env x) (eH : st2.H = st.H) :
    ∃ r2, qbq kk m k x st2 = some r2 ∧ Fr (.mapUpdate kk m k x) st st2 r r2 := by
  unfold qbq at h ⊢
  rw [e1, e2, e3, eH]
  split at h
  · rename_i hz1 hz2; (try simp only [hz1, hz2])
    split at h
    · rename_i hw; (try simp only [hw])
      simp only at h
      split at h
      · rename_i hq
        (try rw [if_pos hq])
        split at h
        · rename_i hq2; (try simp only [hq2])
          simp only [okH, Option.some.injEq] at h
          subst h
          exact ⟨_, rfl, qfK (l := [x]) rfl (fun h => by cases h) (fun _ => rfl)⟩
        · cases h
      · cases h
    · cases h
  · cases h
theorem quG {call : Call} (hc : qaC call) {f : O} {l : List O} (h : qeY call f l st = some r) (e1 : rd st2.env f = rd st.env f) (e2 : l.map (rd st2.env) = l.map (rd st.env)) (eH : st2.H = st.H) :
    ∃ r2, qeY call f l st2 = some r2 ∧ Fr (.call f l) st st2 r r2 := by
  unfold qeY at h ⊢
  rw [e1, e2, eH]
  split at h
  · rename_i hz; (try simp only [hz])
    simp only at h ⊢
    split at h
    · rename_i hw
      (try rw [if_pos hw])
      split at h
      · rename_i q hq; (try simp only [hq])
        simp only [Option.some.injEq] at h
        subst h
        have hs := (hc _ _ _ _ hq).2.2
        exact ⟨_, rfl, qfK (l := l) rfl (fun _ hh => ⟨hs hh, by rw [eH]; exact hs hh⟩) (fun _ => rfl)⟩
      · cases h
    · cases h
  · cases h
theorem qeV : ∀ {l : List O} {s : Nat}, s ∈ qav l → s ∈ yl l
  | .mv n :: l, s, h => by
    simp only [qav, yl, List.mem_cons] at h ⊢
    exact h.imp id qeV
  | .t n :: l, s, h => by
    simp only [yl, List.mem_cons]
    exact .inr (qeV (l := l) h)
  | .c _ :: l, s, h => qeV (l := l) h
  | .f _ :: l, s, h => qeV (l := l) h
  | .g _ _ :: l, s, h => qeV (l := l) h
theorem qmW (x : O) (l : List O) : qav (x :: l) = qav [x] ++ qav l := by cases x <;> rfl
theorem qr9 {size bytes : Nat} {x y : O} (h : qeg size bytes x y st = some r) (e1 : rd st2.env x = rd st.env x) (e2 : rd st2.env y = rd st.env y) (hy : ∀ s, s ∈ qav [y] → get s st2.env = get s st.env) :
    ∃ r2, qeg size bytes x y st2 = some r2 ∧ Fr (.bi (.append size bytes) [x, y]) st st2 r r2 := by
  unfold qeg at h ⊢
  rw [e1, e2]
  split at h
  · rename_i hz; (try simp only [hz])
    simp only [ok, Option.some.injEq] at h
    subst h
    have hW : ∀ s, s ∈ (OpK.bi (.append size bytes) [x, y]).boxW ↔ s ∈ qav [x] ∨ s ∈ qav [y] := fun s => by
      show s ∈ qav [x, y] ↔ _
      rw [qmW]; simp
    refine ⟨_, rfl, rfl, rfl, rfl, fun s hs => ?_, fun s hs => ?_, fun s hs => ?_, fun _ _ => ⟨rfl, rfl⟩, fun h => h, fun n => qhI n x _, fun n => qhI n x _⟩
    · show get s (spent x st2.env) = get s (spent x st.env)
      rw [qeT, qeT]
      split
      · rfl
      · rename_i hx
        exact hy s (((hW s).1 hs).resolve_left hx)
    · rw [hW, not_or] at hs
      show get s (spent x st.env) = _
      rw [qeT, if_neg hs.1]
    · rw [hW, not_or] at hs
      show get s (spent x st2.env) = _
      rw [qeT, if_neg hs.1]
  · cases h
theorem qtE {l : L} {a : O} (h : qfy l a st = some r) (e1 : rd st2.env a = rd st.env a) : r.st = st ∧ qfy l a st2 = some { r with st := st2 } := by
  unfold qfy at h ⊢
  rw [e1]
  split at h
  · rename_i x hx
    split at h
    · rename_i v hv
      have hv2 : qaA l st2 (.cp x) = some v := hv
      simp only [hv2]
      exact ja h
    · cases h
  · cases h
theorem quw {sl : Option Nat} {l : L} {a : O} (h : qc8 false sl l a st = some r) (e1 : rd st2.env a = rd st.env a) (e2 : ∀ s, sl = some s → get s st2.env = get s st.env) (eH : sl.isNone = true → st2.H = st.H) :
    ∃ r2, qc8 false sl l a st2 = some r2 ∧ Fr (.load false sl l a) st st2 r r2 := by
  unfold qc8 at h ⊢
  rw [e1]
  cases hs : yD sl (rd st.env a) with
  | false => rw [hs] at h; simp at h
  | true =>
    rw [hs] at h
    simp only [qAm, cond_false] at h ⊢
    have key : ∀ v, qaA l st (rd st.env a) = some v → qaA l st2 (rd st.env a) = some v := by
      intro v hv
      unfold qaA at hv ⊢
      split at hv
      · rename_i s off hz
        have hsl : sl = some s := by
          rw [hz] at hs
          cases sl with
          | none => simp [yD] at hs
          | some n => exact congrArg some (by simpa [yD] using hs)
        rw [e2 s hsl]; exact hv
      · exact hv
      · rename_i id off hz
        have hsl : sl.isNone = true := by
          rw [hz] at hs
          cases sl with
          | none => rfl
          | some n => simp [yD] at hs
        rw [eH hsl]; exact hv
      · cases hv
    split at h
    · rename_i v hv
      rw [key v hv]
      obtain ⟨h1, h2⟩ := ja (st2 := st2) h
      exact ⟨_, h2, qlO h1 rfl (fun s hs => by cases hs)⟩
    · cases h
theorem qnh {k : OpK} {s : Nat} {l : List O} {cs : List V} {v : V} {same pan : Bool} (hW : ∀ n, n ∈ k.boxW ↔ n = s ∨ n ∈ qav l) :
    Fr k st st2 ⟨pan, same, v, { st with env := (s, .box cs) :: spentAll l st.env }⟩ ⟨pan, same, v, { st2 with env := (s, .box cs) :: spentAll l st2.env }⟩ := by
  refine ⟨rfl, rfl, rfl, fun n hn => ?_, fun n hn => ?_, fun n hn => ?_, fun _ _ => ⟨rfl, rfl⟩, fun h => h, fun n => qdd n l _, fun n => qdd n l _⟩
  · rw [hW] at hn
    simp only [jV, yE]
    rcases hn with h | h
    · simp [h]
    · simp [h]
  · rw [hW, not_or] at hn
    simp only [jV, yE, hn.1, hn.2, if_false]
  · rw [hW, not_or] at hn
    simp only [jV, yE, hn.1, hn.2, if_false]
theorem qru {sl : Option Nat} {l : L} {a : O} (h : qc8 true sl l a st = some r) (e1 : rd st2.env a = rd st.env a) (e2 : ∀ s, sl = some s → get s st2.env = get s st.env) (eH : sl.isNone = true → st2.H = st.H) :
    ∃ r2, qc8 true sl l a st2 = some r2 ∧ Fr (.load true sl l a) st st2 r r2 := by
  unfold qc8 at h ⊢
  rw [e1]
  cases hs : yD sl (rd st.env a) with
  | false => rw [hs] at h; simp at h
  | true =>
    rw [hs] at h
    simp only [qAm, cond_false, cond_true] at h ⊢
    cases hl : l.agg with
    | true => rw [hl] at h; simp at h
    | false =>
      rw [hl] at h
      simp only [cond_false] at h ⊢
      split at h
      · rename_i v st' hst
        unfold qkO at hst ⊢
        split at hst
        · rename_i s off hz
          have hsl : sl = some s := by
            rw [hz] at hs
            cases sl with
            | none => simp [yD] at hs
            | some n => exact congrArg some (by simpa [yD] using hs)
          subst hsl
          rw [e2 s rfl]
          split at hst
          · rename_i cs hb
            split at hst
            · rename_i v' hc
              simp only [Option.some.injEq, Prod.mk.injEq] at hst
              obtain ⟨rfl, rfl⟩ := hst
              simp only [ok, Option.some.injEq] at h ⊢
              subst h
              exact ⟨_, rfl, qnh (l := []) (fun n => by simp [OpK.boxW, qav])⟩
            · cases hst
          · cases hst
        · rename_i id off hz
          have hsl : sl = none := by
            rw [hz] at hs
            cases sl with
            | none => rfl
            | some n => simp [yD] at hs
          subst hsl
          rw [eH rfl]
          split at hst
          · rename_i cs hb
            split at hst
            · rename_i v' hc
              simp only [Option.some.injEq, Prod.mk.injEq] at hst
              obtain ⟨rfl, rfl⟩ := hst
              simp only [okH, Option.some.injEq] at h ⊢
              subst h
              exact ⟨_, rfl, rfl, rfl, rfl, fun s hs => (by cases hs), fun s _ => rfl, fun s _ => rfl, fun h => (by cases h), fun _ => rfl, fun n => rfl, fun n => rfl⟩
            · cases hst
          · cases hst
        · cases hst
      · cases h
theorem qsV {sl : Option Nat} {l : L} {a x : O} (h : qe5 sl l a x st = some r) (e1 : rd st2.env a = rd st.env a) (e3 : rd st2.env x = rd st.env x) (e2 : ∀ s, sl = some s → get s st2.env = get s st.env) (eH : sl.isNone = true → st2.H = st.H) :
    ∃ r2, qe5 sl l a x st2 = some r2 ∧ Fr (.store sl l a x) st st2 r r2 := by
  unfold qe5 at h ⊢
  rw [e1, e3]
  cases hs : yD sl (rd st.env a) with
  | false => rw [hs] at h; simp at h
  | true =>
    rw [hs] at h
    simp only [qAm, cond_false] at h ⊢
    split at h
    · rename_i st' hst
      unfold qef at hst ⊢
      split at hst
      · rename_i s off hz
        have hsl : sl = some s := by
          rw [hz] at hs
          cases sl with
          | none => simp [yD] at hs
          | some n => exact congrArg some (by simpa [yD] using hs)
        subst hsl
        have e4 : get s (spent x st2.env) = get s (spent x st.env) := by rw [qeT, qeT, e2 s rfl]
        simp only [e4]
        split at hst
        · rename_i cs hb
          split at hst
          · rename_i hc
            (try rw [if_pos hc])
            split at hst
            · rename_i cs' hset
              simp only [Option.some.injEq] at hst
              subst hst
              (try simp only [hb, if_pos hc, hset])
              simp only [ok, Option.some.injEq] at h ⊢
              subst h
              exact ⟨_, rfl, qnh (l := [x]) (fun n => by simp [OpK.boxW])⟩
            · cases hst
          · cases hst
        · cases hst
      · rename_i id off hz
        have hsl : sl = none := by
          rw [hz] at hs
          cases sl with
          | none => rfl
          | some n => simp [yD] at hs
        subst hsl
        simp only [eH rfl]
        split at hst
        · rename_i cs hb
          split at hst
          · rename_i hc
            (try rw [if_pos hc])
            split at hst
            · rename_i cs' hset
              simp only [Option.some.injEq] at hst
              subst hst
              (try simp only [hb, if_pos hc, hset])
              simp only [okH, Option.some.injEq] at h ⊢
              subst h
              exact ⟨_, rfl, qfK (l := [x]) rfl (fun h => by cases h) (fun _ => rfl)⟩
            · cases hst
          · cases hst
        · cases hst
      · cases hst
    · cases h
theorem qvc {x : O} (h : qhl x st = some r) (e1 : rd st2.env x = rd st.env x) : r.st = st ∧ qhl x st2 = some { r with st := st2 } := by
  unfold qhl at h ⊢; rw [e1]
  split at h
  · rename_i hz; (try simp only [hz]); exact ja h
  · cases h
theorem quL {x : O} (h : qfm x st = some r) (e1 : rd st2.env x = rd st.env x) : r.st = st ∧ qfm x st2 = some { r with st := st2 } := by
  unfold qfm at h ⊢; rw [e1]
  split at h
  · rename_i hz; (try simp only [hz])
    split at h
    · rename_i hw; (try simp only [hw]); exact ja h
    · cases h
  · rename_i hz; (try simp only [hz]); exact ja h
  · cases h
theorem qvq {x : O} (h : qjh x st = some r) (e1 : rd st2.env x = rd st.env x) (eH : st2.H = st.H) : r.st = st ∧ qjh x st2 = some { r with st := st2 } := by
  unfold qjh at h ⊢; rw [e1, eH]
  split at h
  · rename_i hz; (try simp only [hz]); exact ja h
  · rename_i hz; (try simp only [hz])
    split at h
    · rename_i hw; (try simp only [hw]); exact ja h
    · cases h
  · cases h
theorem qi4 {e e2 : Env} : ∀ {p : List (Nat × Nat × O)}, (∀ s, s ∈ yl (p.map (·.2.2)) → get s e2 = get s e) → (p.map fun (o, s, x) => (o, s, rd e2 x)) = (p.map fun (o, s, x) => (o, s, rd e x))
  | [], _ => rfl
  | (o, n, x) :: l, h => by
    simp only [qz3] at h ⊢
    rw [qaO] at h
    rw [qgM (fun s hs => h s (by simp [hs])), qi4 (fun s hs => h s (by simp [hs]))]
theorem qf1 {e e2 : Env} : ∀ {p : List (Nat × O)}, (∀ s, s ∈ yl (p.map (·.2)) → get s e2 = get s e) → (p.map fun (j, x) => (j, rd e2 x)) = (p.map fun (j, x) => (j, rd e x))
  | [], _ => rfl
  | (o, x) :: l, h => by
    simp only [qz3] at h ⊢
    rw [qaO] at h
    rw [qgM (fun s hs => h s (by simp [hs])), qf1 (fun s hs => h s (by simp [hs]))]
theorem qro {call : Call} (hc : qaC call) {k : OpK} (h : zu call k st = some r) (hs : qzd k st.env st2.env) (hH : k.looks = true → st2.H = st.H) : ∃ r2, zu call k st2 = some r2 ∧ Fr k st st2 r r2 := by
  have s1 : ∀ {x : O} {l l' : List O}, k.rds = l ++ x :: l' → rd st2.env x = rd st.env x := fun {x l l'} e => qgM (fun s hs' => hs s (.inl (by rw [e, qb4, qaO]; simp [hs'])))
  have pure : ∀ {f : St → Option Or}, zu call k = f → (r.st = st ∧ f st2 = some { r with st := st2 }) → (∀ s, s ∈ k.boxW → get s st2.env = get s st.env) → ∃ r2, zu call k st2 = some r2 ∧ Fr k st st2 r r2 := fun hf ⟨h1, h2⟩ hW => ⟨_, by rw [hf]; exact h2, qlO h1 rfl hW⟩
  have nW : ∀ {s : Nat}, s ∈ ([] : List Nat) → get s st2.env = get s st.env := fun h => by cases h
  cases k with
  | mov x => exact qwV h (s1 (l := []) rfl)
  | pick c a b => exact pure rfl (qu5 h (s1 (l := []) rfl) (s1 (l := [c]) rfl) (s1 (l := [c, a]) rfl)) (fun s h => nW h)
  | alloc loc z => exact qsJ h hH
  | box loc x => exact qwN h (s1 (l := []) rfl) hH
  | build z p => exact pure rfl (qtA h (qi4 fun s h => hs s (.inl h))) (fun s h => nW h)
  | buildSlice z n p => exact pure rfl (qlJ h (qf1 fun s h => hs s (.inl h))) (fun s h => nW h)
  | load mv sl l a =>
    have e2 : ∀ s, sl = some s → get s st2.env = get s st.env := fun s e => hs s (.inr (by subst e; simp [OpK.boxR]))
    cases mv with
    | false => exact quw h (s1 (l := []) rfl) e2 hH
    | true => exact qru h (s1 (l := []) rfl) e2 hH
  | loadC l a => exact pure rfl (qtE h (s1 (l := []) rfl)) (fun s h => nW h)
  | store sl l a x => exact qsV h (s1 (l := []) rfl) (s1 (l := [a]) rfl) (fun s e => hs s (.inr (by subst e; simp [OpK.boxR]))) hH
  | nilCheck x => exact pure rfl (qoI h (s1 (l := []) rfl)) (fun s h => nW h)
  | bin op kd x y => exact pure rfl (qxb h (s1 (l := []) rfl) (s1 (l := [x]) rfl)) (fun s h => nW h)
  | un op x => exact pure rfl (qzv h (s1 (l := []) rfl)) (fun s h => nW h)
  | conv k x => exact pure rfl (quq h (s1 (l := []) rfl)) (fun s h => nW h)
  | bytes x => exact pure rfl (qs7 h (s1 (l := []) rfl)) (fun s h => nW h)
  | text x => exact pure rfl (qu0 h (s1 (l := []) rfl) (hH rfl)) (fun s h => nW h)
  | movS x => exact pure rfl (quJ h (s1 (l := []) rfl)) (fun s h => nW h)
  | mkIfc t x => exact pure rfl (qty h (s1 (l := []) rfl)) (fun s h => nW h)
  | mkFn f a b => exact pure rfl (qvk h (qfQ fun s h => hs s (.inl (by show s ∈ yl (a ++ b); rw [qb4]; simp [h]))) (qfQ fun s h => hs s (.inl (by show s ∈ yl (a ++ b); rw [qb4]; simp [h])))) (fun s h => nW h)
  | mkMap => exact qtj h (hH rfl)
  | mkSlice z a b => exact qqF h (s1 (l := []) rfl) (s1 (l := [a]) rfl) (hH rfl)
  | buildRow z n p => exact qoq h (qf1 fun s h => hs s (.inl h)) (hH rfl)
  | assertOk t z x => exact pure rfl (qob h (s1 (l := []) rfl)) (fun s h => nW h)
  | sliceS x a b =>
    have e : ∀ s, s ∈ yl a.toList ∨ s ∈ yl b.toList → get s st2.env = get s st.env := fun s h => hs s (.inl (by
      show s ∈ yl (x :: (a.toList ++ b.toList)); rw [qaO, qb4]; simp only [List.mem_append]; exact .inr h))
    exact pure rfl (qsb h (s1 (l := []) rfl) (qct fun s h => e s (.inl h)) (qct fun s h => e s (.inr h))) (fun s h => nW h)
  | sliceL n x a b =>
    have e : ∀ s, s ∈ yl a.toList ∨ s ∈ yl b.toList → get s st2.env = get s st.env := fun s h => hs s (.inl (by
      show s ∈ yl (x :: (a.toList ++ b.toList)); rw [qaO, qb4]; simp only [List.mem_append]; exact .inr h))
    exact pure rfl (qsy h (s1 (l := []) rfl) (qct fun s h => e s (.inl h)) (qct fun s h => e s (.inr h))) (fun s h => nW h)
  | sliceA n x a b =>
    have e : ∀ s, s ∈ yl a.toList ∨ s ∈ yl b.toList → get s st2.env = get s st.env := fun s h => hs s (.inl (by
      show s ∈ yl (x :: (a.toList ++ b.toList)); rw [qaO, qb4]; simp only [List.mem_append]; exact .inr h))
    exact pure rfl (qsB h (s1 (l := []) rfl) (qct fun s h => e s (.inl h)) (qct fun s h => e s (.inr h))) (fun s h => nW h)
  | sliceM n x a b m =>
    have e : ∀ s, s ∈ yl a.toList → get s st2.env = get s st.env := fun s h => hs s (.inl (by
      show s ∈ yl (m :: b :: x :: a.toList); rw [qaO m, qaO b, qaO x]; simp only [List.mem_append]; exact Or.inr (Or.inr (Or.inr h))))
    exact pure rfl (qrC h (s1 (l := [m, b]) rfl) (qct fun s h => e s h) (s1 (l := [m]) rfl) (s1 (l := []) rfl)) (fun s h => nW h)
  | stuck => cases h
  | fieldAddr x o l => exact pure rfl (qmO h (s1 (l := []) rfl)) (fun s h => nW h)
  | field x o l => exact pure rfl (qsU h (s1 (l := []) rfl)) (fun s h => nW h)
  | indexAddr x i n arr => exact pure rfl (qnW h (s1 (l := []) rfl) (s1 (l := [x]) rfl)) (fun s h => nW h)
  | index x i => exact pure rfl (qsZ h (s1 (l := []) rfl) (s1 (l := [x]) rfl)) (fun s h => nW h)
  | lookup kk z m k c => exact pure rfl (qrA h (s1 (l := []) rfl) (s1 (l := [m]) rfl) (hH rfl)) (fun s h => nW h)
  | mapUpdate kk m k x => exact qni h (s1 (l := []) rfl) (s1 (l := [m]) rfl) (s1 (l := [m, k]) rfl) (hH rfl)
  | extract x i => exact pure rfl (qp6 h (fun s h => hs s (.inl h))) (fun s h => nW h)
  | call f l => exact quG hc h (s1 (l := []) rfl) (qfQ fun s h => hs s (.inl (by show s ∈ yl (f :: l); rw [qaO]; simp [h]))) (hH rfl)
  | panic x =>
    refine pure rfl ?_ (fun s h => nW h)
    have e := s1 (x := x) (l := []) (l' := []) rfl
    simp only [zu] at h
    show r.st = st ∧ qhL x st2 = _
    unfold qhL at h ⊢
    rw [e]
    split at h
    · rename_i hz; (try simp only [hz])
      simp only [Option.some.injEq] at h
      subst h
      exact ⟨rfl, rfl⟩
    · cases h
  | bi b l =>
    have hW : ∀ s, s ∈ qav l → get s st2.env = get s st.env := fun s h => hs s (.inl (qeV h))
    have eL : l.map (rd st2.env) = l.map (rd st.env) := qfQ fun s h => hs s (.inl h)
    simp only [zu, eBi] at h
    cases b with
    | lenS =>
      rcases l with _ | ⟨x, _ | ⟨y, l⟩⟩
      · cases h
      · exact pure rfl (qvc h (s1 (l := []) rfl)) hW
      · cases h
    | lenL =>
      rcases l with _ | ⟨x, _ | ⟨y, l⟩⟩
      · cases h
      · exact pure rfl (quL h (s1 (l := []) rfl)) hW
      · cases h
    | lenM =>
      rcases l with _ | ⟨x, _ | ⟨y, l⟩⟩
      · cases h
      · exact pure rfl (qvq h (s1 (l := []) rfl) (hH rfl)) hW
      · cases h
    | append size bytes =>
      rcases l with _ | ⟨x, _ | ⟨y, _ | ⟨z, l⟩⟩⟩
      · cases h
      · cases h
      · exact qr9 h (s1 (l := []) rfl) (s1 (l := [x]) rfl) (fun s h => hW s (by rw [qmW]; simp [h]))
      · cases h
    | max =>
      refine pure (f := fun st => eBi .max l st) rfl ?_ hW
      have h' : (match qiC (l.map (rd st.env)) with | some v => ok v st | none => none) = some r := by cases l <;> exact h
      have g : eBi .max l st2 = (match qiC (l.map (rd st2.env)) with | some v => ok v st2 | none => none) := by cases l <;> rfl
      show r.st = st ∧ eBi .max l st2 = _
      rw [g, eL]
      split at h'
      · rename_i hz; (try simp only [hz]); exact ja h'
      · cases h'
    | min =>
      refine pure (f := fun st => eBi .min l st) rfl ?_ hW
      have h' : (match qiM (l.map (rd st.env)) with | some v => ok v st | none => none) = some r := by cases l <;> exact h
      have g : eBi .min l st2 = (match qiM (l.map (rd st2.env)) with | some v => ok v st2 | none => none) := by cases l <;> rfl
      show r.st = st ∧ eBi .min l st2 = _
      rw [g, eL]
      split at h'
      · rename_i hz; (try simp only [hz]); exact ja h'
      · cases h'
end W

/-
  Regions whose order is open: whatever the order, the same.
-/
set_option linter.unusedSimpArgs false
set_option linter.unusedVariables false
namespace W
open Go (IntKind BinOp UnOp Oper)
abbrev El := Op × Bool × List Nat
def qfI (call : Call) (x : El) (st : St) : Option St :=
  match wanted x.1.g st.env with
  | some true => match zu call x.1.k st with
    | some r => bif r.pan || !(r.same || x.2.1) then none else qeH (qlL x.1.k) x.2.2 x.1.dst r.v r.st
    | none => none
  | some false => some (put x.1.dst (.tup []) st)
  | none => none
def qig (call : Call) : List El → St → Option St
  | [], st => some st
  | x :: l, st => match qfI call x st with
    | some st' => qig call l st'
    | none => none
theorem qf6 {call : Call} : ∀ {l : List El} {st : St} {e : Ex} {st' : St}, yq call l st = some (e, st') → e = .nrm ∧ qig call l st = some st'
  | [], st, e, st', h => by simp only [yq, Option.some.injEq, Prod.mk.injEq] at h; exact ⟨h.1.symm, by rw [← h.2]; rfl⟩
  | (o, s, no) :: l, st, e, st', h => by
    simp only [yq] at h
    simp only [qig, qfI]
    split at h
    · rename_i hw
      simp only [hw]
      split at h
      · rename_i r hr
        simp only [hr]
        rw [qAh] at h ⊢
        split at h
        · cases h
        · rename_i hp
          rw [if_neg hp]
          split at h
          · rename_i st1 h1
            simp only [h1]
            exact qf6 h
          · cases h
      · cases h
    · rename_i hw
      simp only [hw]
      exact qf6 h
    · cases h
structure Eqv (st st2 : St) : Prop where
  e : ∀ k, get k st2.env = get k st.env
  H : st2.H = st.H
  lp : ∀ n, qb0 n st2.env = qb0 n st.env
theorem Eqv.refl (st : St) : Eqv st st := ⟨fun _ => rfl, rfl, fun _ => rfl⟩
theorem Eqv.trans {a b c : St} (h : Eqv a b) (h' : Eqv b c) : Eqv a c := ⟨fun k => (h'.e k).trans (h.e k), h'.H.trans h.H, fun n => (h'.lp n).trans (h.lp n)⟩
structure FrD (x : El) (st st2 st1 st1' : St) (b : Nat → Bool) : Prop where
  inn : ∀ s, s ∈ x.1.wr → get s st1'.env = get s st1.env
  out1 : ∀ s, s ∉ x.1.wr → get s st1.env = get s st.env
  out2 : ∀ s, s ∉ x.1.wr → get s st1'.env = get s st2.env
  H1 : x.2.1 = false → st1.H = st.H ∧ st1'.H = st2.H
  H2 : st2.H = st.H → st1'.H = st1.H
  lp : ∀ n, qb0 n st1.env = (qb0 n st.env && b n)
  lp2 : ∀ n, qb0 n st1'.env = (qb0 n st2.env && b n)
  no : ∀ n, qdZ n x.2.2 = true → b n = true
theorem qjR {n : Nat} : ∀ {l : List Nat}, n ∈ l → qdZ n l = true
  | m :: l, h => by
    simp only [qdZ, Bool.or_eq_true]
    rcases List.mem_cons.1 h with e | h
    · subst e; exact .inl (by simp)
    · exact .inr (qjR h)
theorem qmw {g : Option (Nat × Bool)} {e e2 : Env} (h : ∀ n w, g = some (n, w) → get n e2 = get n e) : wanted g e2 = wanted g e := by
  cases g with
  | none => rfl
  | some nw => obtain ⟨n, w⟩ := nw; simp only [wanted]; rw [h n w rfl]
theorem qrY {o : Op} {s : Nat} (h : s ∈ yl o.k.rds ∨ s ∈ o.k.boxR) : s ∈ o.re := by
  unfold Op.re
  simp only [List.mem_append]
  rcases h with h | h
  · exact .inr (.inl h)
  · exact .inr (.inr (.inl h))
theorem qnq {o : Op} {s : Nat} (h : s ∈ o.k.boxW) : s ∈ o.re := by
  unfold Op.re
  simp only [List.mem_append]
  exact .inr (.inr (.inr h))
theorem qsD {o : Op} {n : Nat} {w : Bool} (h : o.g = some (n, w)) : n ∈ o.re := by
  unfold Op.re; rw [h]; simp
theorem frD {call : Call} (hc : qaC call) {x : El} {st st2 st1 : St} (h : qfI call x st = some st1) (hfl : x.2.1 = false → x.1.k.free = true) (hs : ∀ s, s ∈ x.1.re → get s st2.env = get s st.env) (hH : x.1.k.looks = true → st2.H = st.H)
    (hbx : ∀ n, n ∈ qgN x.1 → qb0 n st.env = true → qb0 n st2.env = true) : ∃ st1' b, qfI call x st2 = some st1' ∧ FrD x st st2 st1 st1' b := by
  unfold qfI at h ⊢
  rw [qmw (e := st.env) (fun n w hg => hs n (qsD hg))]
  split at h
  · rename_i hw
    (try simp only [hw])
    split at h
    · rename_i r hr
      obtain ⟨r2, hr2, F⟩ := qro hc hr (fun s h => hs s (qrY h)) hH
      simp only [hr2]
      rw [qAh] at h ⊢
      rw [F.pan, F.same]
      split at h
      · cases h
      · rename_i hp
        rw [if_neg hp]
        have hsame : x.2.1 = false → r.same = true := fun hf => by
          simp only [Bool.or_eq_true, not_or, Bool.not_eq_true', hf, qAl] at hp
          simpa using hp.2
        have done : ∀ {v : V} {b : Nat → Bool} {n : Nat}, x.1.dst = some n → (∀ m (e : Env), qb0 m ((n, v) :: e) = (qb0 m e && b m)) → (∀ m, qdZ m x.2.2 = true → b m = true) →
            FrD x st st2 { r.st with env := (n, v) :: r.st.env } { r2.st with env := (n, v) :: r2.st.env } b := by
          intro v b n hdst hb hno
          have hwr : ∀ s, s ∈ x.1.wr ↔ s = n ∨ s ∈ x.1.k.boxW := fun s => by unfold Op.wr; rw [hdst]; simp
          refine ⟨fun s hs => ?_, fun s hs => ?_, fun s hs => ?_, fun hf => F.H1 (hfl hf) (hsame hf), F.H2, fun m => ?_, fun m => ?_, hno⟩
          · show get s ((n, v) :: r2.st.env) = get s ((n, v) :: r.st.env)
            rw [jV, jV]
            split
            · rfl
            · rename_i hne; exact F.inn s (((hwr s).1 hs).resolve_left hne)
          · rw [hwr, not_or] at hs
            show get s ((n, v) :: r.st.env) = _
            rw [jV, if_neg hs.1]; exact F.out1 s hs.2
          · rw [hwr, not_or] at hs
            show get s ((n, v) :: r2.st.env) = _
            rw [jV, if_neg hs.1]; exact F.out2 s hs.2
          · show qb0 m ((n, v) :: r.st.env) = _
            rw [hb, F.lp]
          · show qb0 m ((n, v) :: r2.st.env) = _
            rw [hb, F.lp2]
        unfold qeH at h ⊢
        rw [F.v]
        cases hdst : x.1.dst with
        | none =>
          rw [hdst] at h
          simp only [Option.some.injEq] at h
          subst h
          have hwr : ∀ s, s ∈ x.1.wr ↔ s ∈ x.1.k.boxW := fun s => by unfold Op.wr; rw [hdst]; simp
          exact ⟨_, fun _ => true, rfl, fun s hs => F.inn s ((hwr s).1 hs), fun s hs => F.out1 s (fun h => hs ((hwr s).2 h)), fun s hs => F.out2 s (fun h => hs ((hwr s).2 h)), fun hf => F.H1 (hfl hf) (hsame hf), F.H2,
            fun n => by rw [F.lp]; simp, fun n => by rw [F.lp2]; simp, fun _ _ => rfl⟩
        | some n =>
          rw [hdst] at h
          simp only at h ⊢
          split at h
          · rename_i cs hv
            rw [qAh] at h
            split at h
            · rename_i hb
              simp only [Option.some.injEq] at h
              subst h
              simp only [qAf] at hb
              have hb2 : (qlL x.1.k && qb0 n r2.st.env) = true := by
                rw [qAf]
                refine ⟨hb.1, ?_⟩
                rw [F.lp2]
                exact hbx n (by unfold qgN; rw [hb.1, hdst]; simp) (by rw [← F.lp]; exact hb.2)
              rw [hb2]
              simp only [cond_true]
              exact ⟨_, fun _ => true, rfl, done hdst (fun m e => by simp [qb0]) (fun _ _ => rfl)⟩
            · cases h
          · rename_i m o hv
            rw [qAh] at h
            split at h
            · cases h
            · rename_i hb
              simp only [Option.some.injEq] at h
              subst h
              have hb' : qdZ m x.2.2 = false := by simpa using hb
              simp only [hb', cond_false]
              refine ⟨_, fun k => !Nat.beq m k, rfl, done hdst (fun k e => by simp only [qb0]; rw [Bool.and_comm]) (fun k hk => ?_)⟩
              cases hq : qAk m k with
              | false => rfl
              | true =>
                have := qAo hq
                subst this
                rw [hb'] at hk; cases hk
          · rename_i h1 h2
            simp only [Option.some.injEq] at h
            subst h
            refine ⟨_, fun _ => true, rfl, ?_⟩
            exact done hdst (fun m e => by rw [qqD (fun k o => h2 k o)]; simp) (fun _ _ => rfl)
    · cases h
  · rename_i hw
    (try simp only [hw])
    simp only [Option.some.injEq] at h
    subst h
    cases hdst : x.1.dst with
    | none =>
      refine ⟨_, fun _ => true, rfl, fun s hs' => ?_, fun s _ => rfl, fun s _ => rfl, fun _ => ⟨rfl, rfl⟩, fun h => h, fun n => by simp [put], fun n => by simp [put], fun _ _ => rfl⟩
      unfold Op.wr at hs'
      rw [hdst] at hs'
      exact hs s (qnq (by simpa using hs'))
    | some n =>
      have hwr : ∀ s, s ∈ x.1.wr ↔ s = n ∨ s ∈ x.1.k.boxW := fun s => by unfold Op.wr; rw [hdst]; simp
      refine ⟨_, fun _ => true, rfl, fun s hs' => ?_, fun s hs' => ?_, fun s hs' => ?_, fun _ => ⟨rfl, rfl⟩, fun h => h, fun m => by simp [put, qb0], fun m => by simp [put, qb0], fun _ _ => rfl⟩
      · show get s ((n, .tup []) :: st2.env) = get s ((n, .tup []) :: st.env)
        rw [jV, jV]
        split
        · rfl
        · rename_i hne; exact hs s (qnq (((hwr s).1 hs').resolve_left hne))
      · rw [hwr, not_or] at hs'
        show get s ((n, .tup []) :: st.env) = _
        rw [jV, if_neg hs'.1]
      · rw [hwr, not_or] at hs'
        show get s ((n, .tup []) :: st2.env) = _
        rw [jV, if_neg hs'.1]
  · cases h
theorem qi3 {a b : List Nat} (h : meets a b = false) : ∀ n, n ∈ a → n ∉ b := by
  intro n hn hb
  simp only [meets, List.any_eq_false] at h
  exact h n hn (by simpa using hb)
structure Apart (o o' : Op) : Prop where
  f1 : o.k.free = true ∨ (o'.k.looks = false ∧ o'.k.free = true)
  f2 : o'.k.free = true ∨ (o.k.looks = false ∧ o.k.free = true)
  w1 : ∀ n, n ∈ o.wr → n ∉ o'.wr ∧ n ∉ o'.re
  w2 : ∀ n, n ∈ o'.wr → n ∉ o.wr ∧ n ∉ o.re
theorem qkW {o o' : Op} (h : apart o o' = true) : Apart o o' := by
  simp only [apart, qAf, Bool.not_eq_true', Bool.and_eq_false_iff, Bool.or_eq_false_iff, Bool.not_eq_false'] at h
  obtain ⟨⟨⟨h1, h2⟩, h3⟩, h4⟩ := h
  refine ⟨by rcases h1 with h | h; exact .inl h; exact .inr h, by rcases h2 with h | h; exact .inl h; exact .inr h, fun n hn => ?_, fun n hn => ?_⟩
  · have := qi3 h3 n hn
    simpa [not_or] using this
  · have := qi3 h4 n hn
    simpa [not_or] using this
theorem commute {call : Call} (hc : qaC call) {x y : El} {st st1 st2 : St} (hx : qfI call x st = some st1) (hy : qfI call y st1 = some st2) (lx : x.2.1 = false → x.1.k.free = true) (ly : y.2.1 = false → y.1.k.free = true) (fx : x.2.1 = false ∨ (y.1.k.looks = false ∧ y.2.1 = false)) (fy : y.2.1 = false ∨ (x.1.k.looks = false ∧ x.2.1 = false)) (hap : Apart x.1 y.1)
    (hno : ∀ n, n ∈ qgN x.1 → qdZ n y.2.2 = true) : ∃ st1' st2', qfI call y st = some st1' ∧ qfI call x st1' = some st2' ∧ Eqv st2 st2' := by
  -- x, once more in its own state: what it changes
  obtain ⟨_, bx, hx0, Fx⟩ := frD hc (st2 := st) hx lx (fun _ _ => rfl) (fun _ => rfl) (fun _ _ h => h)
  rw [hx] at hx0
  cases hx0
  -- y ahead
  obtain ⟨st1', by_, hy', Fy⟩ := frD hc (st2 := st) hy ly (fun s hs => (Fx.out1 s (fun h => (hap.w1 s h).2 hs)).symm) (fun hl => by
      rcases fx with h | h
      · exact (Fx.H1 h).1.symm
      · rw [h.1] at hl; cases hl) (fun n hn h => by
      rw [Fx.lp] at h; simp only [qAf] at h; exact h.1)
  -- x behind it
  obtain ⟨st2', b3, hx', Fx'⟩ := frD hc (st2 := st1') hx lx (fun s hs => Fy.out2 s (fun h => (hap.w2 s h).2 hs)) (fun hl => by
      rcases fy with h | h
      · exact (Fy.H1 h).2
      · rw [h.1] at hl; cases hl) (fun n hn h => by
      rw [Fy.lp2, h, Fy.no n (hno n hn)]; rfl)
  refine ⟨st1', st2', hy', hx', fun s => ?_, ?_, fun n => ?_⟩
  · by_cases h1 : s ∈ x.1.wr
    · have h2 : s ∉ y.1.wr := (hap.w1 s h1).1
      rw [Fx'.inn s h1, Fy.out1 s h2]
    · rw [Fx'.out2 s h1]
      by_cases h2 : s ∈ y.1.wr
      · rw [Fy.inn s h2]
      · rw [Fy.out2 s h2, Fy.out1 s h2, Fx.out1 s h1]
  · rcases fx with h | h
    · -- x leaves the objects alone
      rw [(Fx'.H1 h).2]
      exact Fy.H2 (Fx.H1 h).1.symm
    · rw [(Fy.H1 h.2).1]
      exact Fx'.H2 (Fy.H1 h.2).2
  · rw [Fx'.lp2, Fy.lp2, Fy.lp, Fx.lp]
    -- what x adds is the same
    have e : (qb0 n st.env && bx n) = (qb0 n st.env && b3 n) := by rw [← Fx.lp, ← Fx'.lp]
    cases h1 : qb0 n st.env with
    | false => simp
    | true =>
      rw [h1] at e
      simp only [Bool.true_and] at e ⊢
      rw [e, Bool.and_comm]
theorem qqi {call : Call} (hc : qaC call) {x : El} {st st2 st1 : St} (h : qfI call x st = some st1) (lx : x.2.1 = false → x.1.k.free = true) (he : Eqv st st2) : ∃ st1', qfI call x st2 = some st1' ∧ Eqv st1 st1' := by
  obtain ⟨st1', b, h1, F⟩ := frD hc h lx (fun s _ => he.e s) (fun _ => he.H) (fun n _ h => by rw [he.lp]; exact h)
  refine ⟨st1', h1, fun s => ?_, F.H2 he.H, fun n => by rw [F.lp, F.lp2, he.lp]⟩
  by_cases hs : s ∈ x.1.wr
  · exact F.inn s hs
  · rw [F.out2 s hs, F.out1 s hs, he.e]
theorem qny {call : Call} (hc : qaC call) : ∀ {l : List El} {st st2 stF : St}, (∀ x ∈ l, x.2.1 = false → x.1.k.free = true) → qig call l st = some stF → Eqv st st2 → ∃ stF2, qig call l st2 = some stF2 ∧ Eqv stF stF2
  | [], st, st2, stF, _, h, he => by simp only [qig, Option.some.injEq] at h; subst h; exact ⟨st2, rfl, he⟩
  | x :: l, st, st2, stF, hf, h, he => by
    simp only [qig] at h ⊢
    split at h
    · rename_i st1 h1
      obtain ⟨st1', h2, he2⟩ := qqi hc h1 (hf x (by simp)) he
      simp only [h2]
      exact qny hc (fun y hy => hf y (by simp [hy])) h he2
    · cases h
theorem qns {call : Call} (hc : qaC call) {x : El} {post : List El} : ∀ {pre : List El} {st stF : St}, (∀ y ∈ pre ++ x :: post, y.2.1 = false → y.1.k.free = true) → (∀ y ∈ pre, (y.2.1 = false ∨ (x.1.k.looks = false ∧ x.2.1 = false)) ∧ (x.2.1 = false ∨ (y.1.k.looks = false ∧ y.2.1 = false))) → (∀ y ∈ pre, Apart y.1 x.1 ∧ ∀ n, n ∈ qgN y.1 → qdZ n x.2.2 = true) →
    qig call (pre ++ x :: post) st = some stF → ∃ st1 stF', qfI call x st = some st1 ∧ qig call (pre ++ post) st1 = some stF' ∧ Eqv stF stF'
  | [], st, stF, _, hf, _, h => by
    simp only [List.nil_append, qig] at h
    split at h
    · rename_i st1 h1
      exact ⟨st1, stF, h1, h, Eqv.refl _⟩
    · cases h
  | y :: pre, st, stF, hl, hf, ha, h => by
    simp only [List.cons_append, qig] at h
    split at h
    · rename_i sty hy
      obtain ⟨stx, stF1, h1, h2, h3⟩ := qns hc (pre := pre) (fun z hz => hl z (by simp only [List.cons_append, List.mem_cons]; exact .inr hz)) (fun z hz => hf z (by simp [hz])) (fun z hz => ha z (by simp [hz])) h
      obtain ⟨st1', st2', h4, h5, h6⟩ := commute hc hy h1 (hl y (by simp)) (hl x (by simp)) (hf y (by simp)).1 (hf y (by simp)).2 (ha y (by simp)).1 (ha y (by simp)).2
      obtain ⟨stF2, h7, h8⟩ := qny hc (fun z hz => hl z (by
        simp only [List.cons_append, List.mem_cons, List.mem_append] at hz ⊢
        rcases hz with h | h
        · exact .inr (.inl h)
        · exact .inr (.inr (.inr h)))) h2 h6
      refine ⟨st1', stF2, h4, ?_, h3.trans h8⟩
      simp only [List.cons_append, qig, h5]
      exact h7
    · cases h
end W

/-
  Regions whose order is open: simulated.
-/
set_option linter.unusedSimpArgs false
set_option linter.unusedVariables false
namespace W
open Go (World Value Addr IntKind Program TypeId FuncId Operand Act Oper Next Result Sem BinOp UnOp Ending Exit Code Func Fence)
def qcH (acc : Array Nat) (o : Oper) : Array Nat :=
  acc.push (o.after.foldl (fun s e => if Go.Region.binds .any e then s ||| 2 ^ e.on ||| acc.getD e.on 0 else s) 0)
theorem qqk (ops : Array Oper) : Go.Region.before ops = ops.toList.foldl qcH #[] := by
  unfold Go.Region.before
  rw [← Array.foldl_toList]
  rfl
theorem qh1 (acc : Array Nat) : ∀ (l : List Go.Edge) (s j : Nat), (l.foldl (fun s e => if Go.Region.binds .any e then s ||| 2 ^ e.on ||| acc.getD e.on 0 else s) s).testBit j = true →
    s.testBit j = true ∨ ∃ e ∈ l, Go.Region.binds .any e = true ∧ (e.on = j ∨ (acc.getD e.on 0).testBit j = true)
  | [], s, j, h => .inl h
  | e :: l, s, j, h => by
    simp only [List.foldl_cons] at h
    rcases qh1 acc l _ j h with h | ⟨e', he', hb, hj⟩
    · split at h
      · rename_i hb
        simp only [Nat.testBit_or, Bool.or_eq_true] at h
        rcases h with (h | h) | h
        · exact .inl h
        · rw [Nat.testBit_two_pow] at h
          exact .inr ⟨e, by simp, hb, .inl (by simpa using h)⟩
        · exact .inr ⟨e, by simp, hb, .inr h⟩
      · exact .inl h
    · exact .inr ⟨e', by simp [he'], hb, hj⟩
theorem qrS : ∀ (l : List Oper) (acc : Array Nat), (l.foldl qcH acc).size = acc.size + l.length
  | [], acc => by simp
  | o :: l, acc => by simp only [List.foldl_cons, qrS l, qcH, Array.size_push, qz4]; omega
theorem qlX : ∀ (l : List Oper) (acc : Array Nat) (i : Nat), i < acc.size → (l.foldl qcH acc).getD i 0 = acc.getD i 0
  | [], acc, i, _ => rfl
  | o :: l, acc, i, h => by
    simp only [List.foldl_cons]
    rw [qlX l _ i (by simp [qcH]; omega)]
    simp only [qcH, Array.getD_eq_getD_getElem?, Array.getElem?_push]
    rw [if_neg (by omega)]
theorem qps : ∀ (l : List Oper) (acc : Array Nat) (k : Nat) (o : Oper), l[k]? = some o → ∀ j, ((l.foldl qcH acc).getD (acc.size + k) 0).testBit j = true →
    ∃ e ∈ o.after.toList, Go.Region.binds .any e = true ∧ (e.on = j ∨ ((l.foldl qcH acc).getD e.on 0).testBit j = true)
  | [], acc, k, o, h, j, _ => by simp at h
  | o' :: l, acc, 0, o, h, j, hb => by
    simp at h; subst h
    simp only [List.foldl_cons, qAu] at hb
    rw [qlX l _ acc.size (by simp [qcH])] at hb
    have e0 : (qcH acc o').getD acc.size 0 = o'.after.foldl (fun s e => if Go.Region.binds .any e then s ||| 2 ^ e.on ||| acc.getD e.on 0 else s) 0 := by
      simp [qcH]
    rw [e0, ← Array.foldl_toList] at hb
    rcases qh1 acc _ _ j hb with h | ⟨e, he, hbi, hj⟩
    · simp at h
    · refine ⟨e, he, hbi, hj.imp id (fun h => ?_)⟩
      have hlt : e.on < acc.size := by
        rcases Nat.lt_or_ge e.on acc.size with h1 | h1
        · exact h1
        · rw [Array.getD_eq_getD_getElem?, Array.getElem?_eq_none (by omega)] at h
          simp at h
      rw [qlX (o' :: l) acc e.on hlt]
      exact h
  | o' :: l, acc, k + 1, o, h, j, hb => by
    simp only [List.foldl_cons] at hb ⊢
    have hs : (qcH acc o').size = acc.size + 1 := by simp [qcH]
    have := qps l (qcH acc o') k o (by simpa using h) j (by rw [hs, show acc.size + 1 + k = acc.size + (k + 1) by omega]; exact hb)
    exact this
theorem qn5 {ops : Array Oper} {i : Nat} {o : Oper} (h : ops[i]? = some o) {j : Nat} (hb : ((Go.Region.before ops).getD i 0).testBit j = true) :
    ∃ e ∈ o.after.toList, Go.Region.binds .any e = true ∧ (e.on = j ∨ ((Go.Region.before ops).getD e.on 0).testBit j = true) := by
  rw [qqk] at hb ⊢
  exact qps ops.toList #[] i o (by simpa using h) j (by simpa using hb)
section
variable {P : Program} {M : Maps} {call : Call}
theorem qiX {A : Ann} {rid : Nat} {ops : Array Oper} : ∀ {rest : List Oper} {i : Nat} {l : List Op}, qcx M P A rid ops i rest = some l → l.length = rest.length ∧ ∀ k o, rest[k]? = some o → ∃ q, l[k]? = some q ∧ q.dst = o.dst ∧ gOf ops o.guard = some q.g ∧
    q.k = qdg (qbx M P A (fun k' => (mvs A rid (i + k)).contains k') (match o.dst with | some d => A.loc.contains d | none => false) o.op)
  | [], i, l, h => by simp only [qcx, Option.some.injEq] at h; subst h; exact ⟨rfl, fun k o h => by simp at h⟩
  | o' :: rest, i, l, h => by
    simp only [qcx] at h
    split at h
    · rename_i g' r hg hr
      simp only [Option.some.injEq] at h
      subst h
      obtain ⟨h1, h2⟩ := qiX hr
      refine ⟨by simp [h1], fun k o ho => ?_⟩
      cases k with
      | zero =>
        simp at ho
        subst ho
        exact ⟨_, rfl, rfl, hg, rfl⟩
      | succ k =>
        obtain ⟨q, q1, q2, q3, q4⟩ := h2 k o (by simpa using ho)
        exact ⟨q, by simpa using q1, q2, q3, by rw [show i + (k + 1) = i + 1 + k by omega]; exact q4⟩
    · cases h
theorem qoZ {k : OpK} (h : k.looks = false) : k.isCall = false := by cases k <;> first | rfl | cases h
theorem qjV {ops : Array Oper} {l : List Op} {o o' : Op} {i j : Nat} (ha : o.k.free = true ∨ (o'.k.looks = false ∧ o'.k.free = true)) (s1 : qe9 ops l.length i = false) (s2 : qe9 ops l.length j = false) (hc : qge ops l i = true → o'.k.looks = false ∧ o'.k.free = true) :
    qd8 ops l o i = false ∨ (o'.k.looks = false ∧ qd8 ops l o' j = false) := by
  have right : o'.k.looks = false ∧ o'.k.free = true → o'.k.looks = false ∧ qd8 ops l o' j = false := fun h => ⟨h.1, by
    unfold qd8
    rw [h.2, s2, qoZ h.1]; rfl⟩
  rcases ha with ha | ha
  · cases h : qge ops l i with
    | true => exact .inr (right (hc h))
    | false =>
      left
      unfold qd8
      rw [ha, s1, h]; simp
  · exact .inr (right ha)
def qee (ops : Array Oper) (l : List Op) (i : Nat) : El := (l.getD i default, qd8 ops l (l.getD i default) i, qiF ops l i)
theorem qs6 (ops : Array Oper) (l : List Op) : (l.zipIdx.map fun (o, i) => (o, qd8 ops l o i, qiF ops l i)) = (List.range l.length).map (qee ops l) := by
  apply List.ext_getElem?
  intro k
  simp only [List.getElem?_map, List.getElem?_zipIdx, List.getElem?_range']
  by_cases hk : k < l.length
  · rw [List.getElem?_range hk]
    simp [hk, qee]
  · rw [List.getElem?_eq_none (by omega), List.getElem?_eq_none (by simp; omega)]
    rfl
theorem qi9 {n : Nat} : ∀ {e : Env}, qb0 n e = true → qd5 n e = e
  | [], _ => rfl
  | (m, v) :: e, h => by
    have h2 : qb0 n e = true := by
      cases v <;> first | exact h | (simp only [qb0, qAf] at h; exact h.2)
    simp only [qd5, qi9 h2]
    cases v with
    | lp t o =>
      simp only [qb0, qAf, Bool.not_eq_true'] at h
      simp [h.1]
    | _ => rfl
theorem qrv {bx : Bool} {no : List Nat} {dst : Option Nat} {v : V} {st st' : St} (h : qeH bx no dst v st = some st') : put dst v st = st' := by
  unfold qeH at h
  cases dst with
  | none => simpa [put] using h
  | some n =>
    simp only at h
    split at h
    · rw [qAh] at h
      split at h
      · rename_i hb
        simp only [Option.some.injEq] at h
        simp only [qAf] at hb
        rw [← h]
        simp only [put, qi9 hb.2]
      · cases h
    · rw [qAh] at h
      split at h
      · cases h
      · simpa [put] using h
    · rename_i hb _
      simp only [Option.some.injEq] at h
      rw [← h, qbI (fun cs e => hb cs e)]
def rem (n : Nat) (listed : Array Bool) : List Nat := (List.range n).filter fun i => !listed.getD i true
theorem qhQ (n : Nat) (listed : Array Bool) : (rem n listed).Pairwise (· < ·) := (List.pairwise_lt_range).filter _
theorem qeD {n i : Nat} {listed : Array Bool} : i ∈ rem n listed ↔ i < n ∧ listed.getD i true = false := by
  simp [rem, List.mem_filter]
theorem qsH {n i : Nat} {listed : Array Bool} (hs : listed.size = n) {pre post : List Nat} (h : rem n listed = pre ++ i :: post) : rem n (listed.setIfInBounds i true) = pre ++ post := by
  have hi : i < listed.size := by
    have : i ∈ rem n listed := by rw [h]; simp
    rw [hs]; exact (qeD.1 this).1
  have e : rem n (listed.setIfInBounds i true) = (rem n listed).filter (fun k => k != i) := by
    unfold rem
    rw [List.filter_filter]
    apply List.filter_congr
    intro k hk
    by_cases hki : k = i
    · subst hki; simp [hi]
    · have : i ≠ k := fun e => hki e.symm
      simp [Array.getElem?_setIfInBounds_ne this, hki]
  rw [e, h]
  have hp := qhQ n listed
  rw [h] at hp
  rw [List.pairwise_append] at hp
  obtain ⟨_, h2, h3⟩ := hp
  rw [List.pairwise_cons] at h2
  rw [List.filter_append, List.filter_cons]
  simp only [bne_self_eq_false, qz0, if_false]
  congr 1
  · rw [List.filter_eq_self]
    intro k hk
    have := h3 k hk i (by simp)
    simp; omega
  · rw [List.filter_eq_self]
    intro k hk
    have := h2.1 k hk
    simp; omega
theorem qtD (hcs : qbD P M call) (hlo : qaC call) {F : Fence} (hF : WF F) {m : Nat} {A : Ann} {rid nt : Nat} {ops : Array Oper} {l : List Op} (htr : qcx M P A rid ops 0 ops.toList = some l) (hlex : qtM ops = true) (hord : qic ops l = true)
    (hdst : ∀ o ∈ ops.toList, ∀ d, o.dst = some d → d < nt) (hnd : ∀ o ∈ ops.toList, F.round = none ∨ qe6 o.op) : ∀ (fuel : Nat) (listed : Array Bool), listed.size = ops.size → (rem ops.size listed).length = fuel →
      (∀ x, listed.getD x false = true → ∀ j, ((Go.Region.before ops).getD x 0).testBit j = true → listed.getD j false = true) →
    ∀ (st stF : St) (g : Gh) (w : World) (β : Nat → Nat) (a : Act), nt ≤ a.tmps.size → qig call ((rem ops.size listed).map (qee ops l)) st = some stF → Rel M g w β st a.tmps →
    ∀ Q : Exit → Act → World → Prop, (∀ a' w' st', Eqv stF st' → Good True M g w a st' a' w' → Q .normal a' w') → Go.wpAnyIn F m P .any ops Q fuel listed a w := by
  obtain ⟨hlen, hget⟩ := qiX htr
  have hll : l.length = ops.size := by simpa using hlen
  -- the least that is left is ready
  have noReady : ∀ {listed : Array Bool}, listed.size = ops.size → Go.Region.ready .any ops listed = [] → rem ops.size listed = [] := by
    intro listed hs hr
    cases hq : rem ops.size listed with
    | nil => rfl
    | cons i t =>
      exfalso
      have hi : i ∈ rem ops.size listed := by rw [hq]; simp
      obtain ⟨h1, h2⟩ := qeD.1 hi
      have : i ∈ Go.Region.ready .any ops listed := by
        rw [Go.mem_ready]
        refine ⟨h2, ops[i], by simp [h1], fun e he hb => ?_⟩
        simp only [qtM, List.all_eq_true] at hlex
        have h3 := hlex (ops[i], i) (by rw [List.mem_zipIdx_iff_getElem?]; simp [h1]) e (by simpa using he)
        simp only [hb, qAm, Bool.false_or, Nat.blt_eq] at h3
        -- it's smaller: listed
        cases hl : listed.getD e.on false with
        | true => rfl
        | false =>
          exfalso
          have : e.on ∈ rem ops.size listed := qeD.2 ⟨by omega, by
            have hlt : e.on < listed.size := by omega
            simp only [Array.getD_eq_getD_getElem?, Array.getElem?_eq_getElem hlt, Option.getD_some] at hl ⊢
            exact hl⟩
          have hp := qhQ ops.size listed
          rw [hq] at this hp
          rcases List.mem_cons.1 this with h | h
          · omega
          · have := (List.pairwise_cons.1 hp).1 _ h; omega
      rw [hr] at this
      cases this
  intro fuel
  induction fuel with
  | zero =>
    intro listed hs hf hcl st stF g w β a hnt hrun hR Q hQ
    have hrem : rem ops.size listed = [] := List.eq_nil_of_length_eq_zero hf
    rw [hrem] at hrun
    simp only [qz9, qig, Option.some.injEq] at hrun
    subst hrun
    refine ⟨?_, hQ a w st (Eqv.refl _) ⟨⟨g, β, hR, Evo.refl g w, .refl⟩, rfl, fun _ => rfl⟩⟩
    cases hq : Go.Region.ready .any ops listed with
    | nil => rfl
    | cons i t =>
      exfalso
      have hi : i ∈ Go.Region.ready .any ops listed := by rw [hq]; simp
      rw [Go.mem_ready] at hi
      obtain ⟨h1, o, ho, _⟩ := hi
      have : i ∈ rem ops.size listed := qeD.2 ⟨(Array.getElem?_eq_some_iff.1 ho).1, h1⟩
      rw [hrem] at this; cases this
  | succ fuel ih =>
    intro listed hs hf hcl st stF g w β a hnt hrun hR Q hQ
    refine ⟨fun hr => ?_, fun i hi => ?_⟩
    · have := noReady hs hr
      rw [this] at hf; simp at hf
    · rw [Go.mem_ready] at hi
      obtain ⟨h1, o, ho, hpre⟩ := hi
      have hilt := (Array.getElem?_eq_some_iff.1 ho).1
      have him : i ∈ rem ops.size listed := qeD.2 ⟨hilt, h1⟩
      obtain ⟨pre, post, hrem⟩ := List.append_of_mem him
      -- what stands before i is listed
      have hbef : ∀ j, ((Go.Region.before ops).getD i 0).testBit j = true → listed.getD j false = true := fun j hj => by
        obtain ⟨e, he, hb, hj⟩ := qn5 ho hj
        have hl := hpre e (by simpa using he) hb
        rcases hj with rfl | hj
        · exact hl
        · exact hcl _ hl j hj
      have hwhole : (rem ops.size listed).map (qee ops l) = pre.map (qee ops l) ++ qee ops l i :: post.map (qee ops l) := by rw [hrem]; simp
      rw [hwhole] at hrun
      obtain ⟨q, hq1, hq2, hq3, hq4⟩ := hget i o (by simpa using ho)
      have hel : (qee ops l i).1 = q := by simp [qee, hq1]
      have hsorted := qhQ ops.size listed
      obtain ⟨st1, stF', hstep, hrest, heqv⟩ := qns hlo (x := qee ops l i) (pre := pre.map (qee ops l)) (post := post.map (qee ops l)) (fun y hy => by
          have : ∃ k, y = qee ops l k := by
            simp only [List.mem_append, List.mem_map, List.mem_cons] at hy
            rcases hy with ⟨k, _, h⟩ | h | ⟨k, _, h⟩
            · exact ⟨k, h.symm⟩
            · exact ⟨i, h⟩
            · exact ⟨k, h.symm⟩
          obtain ⟨k, rfl⟩ := this
          intro hf
          have hf : qd8 ops l (l.getD k default) k = false := hf
          unfold qd8 at hf
          simp only [Bool.or_eq_false_iff, Bool.not_eq_false'] at hf
          exact hf.1.1) (fun y hy => by
          obtain ⟨k, hk, rfl⟩ := List.mem_map.1 hy
          have hkm : k ∈ rem ops.size listed := by rw [hrem]; simp [hk]
          have hki : k < i := by
            rw [hrem, List.pairwise_append] at hsorted
            exact hsorted.2.2 k hk i (by simp)
          have hnb : ((Go.Region.before ops).getD i 0).testBit k = false := by
            cases hq : ((Go.Region.before ops).getD i 0).testBit k with
            | false => rfl
            | true =>
              have := hbef k hq
              have h2 := (qeD.1 hkm).2
              have hlt : k < listed.size := by rw [hs]; exact (qeD.1 hkm).1
              simp only [Array.getD_eq_getD_getElem?, Array.getElem?_eq_getElem hlt, Option.getD_some] at this h2
              rw [this] at h2; cases h2
          have s1 : qe9 ops l.length i = false := by
            unfold qe9
            rw [List.all_eq_false]
            refine ⟨k, by rw [List.mem_range]; omega, ?_⟩
            have b1 : qAk k i = false := by
              cases hq : qAk k i with
              | false => rfl
              | true => have := qAo hq; omega
            have b2 : Nat.blt k i = true := by simpa using hki
            rw [b1, b2, cond_true, hnb]; simp
          have s2 : qe9 ops l.length k = false := by
            unfold qe9
            rw [List.all_eq_false]
            refine ⟨i, by rw [List.mem_range]; omega, ?_⟩
            have b1 : qAk i k = false := by
              cases hq : qAk i k with
              | false => rfl
              | true => have := qAo hq; omega
            have b2 : Nat.blt i k = false := by
              cases hq : Nat.blt i k with
              | false => rfl
              | true => have : i < k := by simpa using hq
                        omega
            rw [b1, b2, cond_false, hnb]; simp
          have hkl : k < l.length := by rw [hll]; omega
          have hil : i < l.length := by rw [hll]; omega
          have ek : (qee ops l k).1 = l[k] := by simp [qee, hkl]
          have ei : (qee ops l i).1 = l[i] := by simp [qee, hil]
          have fk : (qee ops l k).2.1 = qd8 ops l l[k] k := by simp [qee, hkl]
          have fi : (qee ops l i).2.1 = qd8 ops l l[i] i := by simp [qee, hil]
          have hbl : Nat.blt k i = true := by simpa using hki
          have hbl2 : Nat.blt i k = false := by
            cases hq : Nat.blt i k with
            | false => rfl
            | true => have : i < k := by simpa using hq
                      omega
          have hne1 : qAk i k = false := by
            cases hq : qAk i k with
            | false => rfl
            | true => have := qAo hq; omega
          have hne2 : qAk k i = false := by
            cases hq : qAk k i with
            | false => rfl
            | true => have := qAo hq; omega
          have hap : Apart l[k] l[i] := by
            simp only [qic, List.all_eq_true] at hord
            have := hord (l[k], k) (by rw [List.mem_zipIdx_iff_getElem?]; simp [hkl]) (l[i], i) (by rw [List.mem_zipIdx_iff_getElem?]; simp [hil])
            simp only [Bool.or_eq_true, Bool.not_eq_true', hnb, qz0, or_false] at this
            refine qkW (this.resolve_left ?_)
            rw [hbl]; simp
          have c1 : qge ops l k = true → l[i].k.looks = false ∧ l[i].k.free = true := fun h => by
            simp only [qge, List.all_eq_true] at h
            have := h (l[i], i) (by rw [List.mem_zipIdx_iff_getElem?]; simp [hil])
            rw [hne1, hbl2, cond_false, hnb] at this
            simpa using this
          have c2 : qge ops l i = true → l[k].k.looks = false ∧ l[k].k.free = true := fun h => by
            simp only [qge, List.all_eq_true] at h
            have := h (l[k], k) (by rw [List.mem_zipIdx_iff_getElem?]; simp [hkl])
            rw [hne2, hbl, cond_true, hnb] at this
            simpa using this
          have e1 : (qee ops l k).1.k = l[k].k := by rw [ek]
          have e2 : (qee ops l i).1.k = l[i].k := by rw [ei]
          rw [e1, e2, fk, fi]
          exact ⟨qjV hap.f1 s2 s1 c1, qjV hap.f2 s1 s2 c2⟩) (fun y hy => by
          obtain ⟨k, hk, rfl⟩ := List.mem_map.1 hy
          have hkm : k ∈ rem ops.size listed := by rw [hrem]; simp [hk]
          have hki : k < i := by
            rw [hrem, List.pairwise_append] at hsorted
            exact hsorted.2.2 k hk i (by simp)
          have hnb : ((Go.Region.before ops).getD i 0).testBit k = false := by
            cases hq : ((Go.Region.before ops).getD i 0).testBit k with
            | false => rfl
            | true =>
              have := hbef k hq
              have h2 := (qeD.1 hkm).2
              have hlt : k < listed.size := by rw [hs]; exact (qeD.1 hkm).1
              simp only [Array.getD_eq_getD_getElem?, Array.getElem?_eq_getElem hlt, Option.getD_some] at this h2
              rw [this] at h2; cases h2
          have hkl : k < l.length := by rw [hll]; omega
          have hil : i < l.length := by rw [hll]; omega
          have ek : (qee ops l k).1 = l[k] := by simp [qee, hkl]
          have ei : (qee ops l i).1 = l[i] := by simp [qee, hil]
          refine ⟨?_, fun n hn => ?_⟩
          · simp only [qic, List.all_eq_true] at hord
            have := hord (l[k], k) (by rw [List.mem_zipIdx_iff_getElem?]; simp [hkl]) (l[i], i) (by rw [List.mem_zipIdx_iff_getElem?]; simp [hil])
            simp only [Bool.or_eq_true, Bool.not_eq_true', hnb, qz0, or_false] at this
            rw [ek, ei]
            refine qkW (this.resolve_left ?_)
            have hbl : Nat.blt k i = true := by simpa using hki
            rw [hbl]; simp
          · refine qjR ?_
            show n ∈ qiF ops l i
            unfold qiF
            rw [List.mem_flatMap]
            refine ⟨(l[k], k), by rw [List.mem_zipIdx_iff_getElem?]; simp [hkl], ?_⟩
            simp only [hnb, qz0, if_false]
            rw [ek] at hn
            exact hn) hrun
      have hrem' := qsH hs hrem
      have hf' : (rem ops.size (listed.setIfInBounds i true)).length = fuel := by
        rw [hrem'] ; rw [hrem] at hf; simp at hf ⊢; omega
      have hcl' : ∀ x, (listed.setIfInBounds i true).getD x false = true → ∀ j, ((Go.Region.before ops).getD x 0).testBit j = true → (listed.setIfInBounds i true).getD j false = true := by
        intro x hx j hj
        by_cases hxi : i = x
        · subst hxi; exact Go.getD_set_true (hbef j hj)
        · rw [Go.getD_set_ne false hxi] at hx
          exact Go.getD_set_true (hcl x hx j hj)
      have go : ∀ {g1 : Gh} {w1 : World} {β1 : Nat → Nat} {a1 : Act}, a1.tmps.size = a.tmps.size → DefOk g1 w w1 a.defers a1.defers → a1.defers = a.defers → Rel M g1 w1 β1 st1 a1.tmps → Evo g w g1 w1 → Go.wpAnyIn F m P .any ops Q fuel (listed.setIfInBounds i true) a1 w1 := by
        intro g1 w1 β1 a1 hs1 hd1 hq1 hR1 hE1
        refine ih _ (by simpa using hs) hf' hcl' st1 stF' g1 w1 β1 a1 (by rw [hs1]; exact hnt) (by rw [hrem', List.map_append]; exact hrest) hR1 Q (fun a' w' st' he hg => ?_)
        exact hQ a' w' st' (heqv.trans he) (hg.trans hE1 hs1 hd1 (fun _ => hq1) id)
      have hd : jC o a := fun n hn => Nat.lt_of_lt_of_le (hdst o (by
        have := Array.mem_of_getElem? ho
        simpa using this) n hn) hnt
      unfold Go.wpOpIn
      simp only [ho]
      unfold qfI at hstep
      rw [hel] at hstep
      split at hstep
      · rename_i hw
        rw [qdY hR hq3 hw]
        simp only [if_true]
        refine qkL hF (hnd o (by
          have := Array.mem_of_getElem? ho
          simpa using this)) ?_
        split at hstep
        · rename_i r hr
          rw [qAh] at hstep
          split at hstep
          · cases hstep
          · rename_i hp
            have hpan : r.pan = false := by
              simp only [Bool.or_eq_true, not_or] at hp
              simpa using hp.1
            have hput := qrv hstep
            have hq5 := hr
            rw [hq4] at hq5
            have hq6 := qfZ hq5
            rw [← hq4] at hq6
            refine qrX hcs hd hR hq6 (fun hloc hn => ?_) hr ⟨fun _ c w1 g1 β1 hR1 hE1 => ?_, fun hp2 => ?_⟩
            · rw [hn] at hloc; simp at hloc
            · rw [← hq2, hput, hq2] at hR1
              exact go (qbu _ _ _) (qha _ _ _) (qbw _ _ _) hR1 hE1
            · rw [hpan] at hp2; cases hp2
        · cases hstep
      · rename_i hw
        rw [qdY hR hq3 hw]
        simp only [qz0, if_false]
        simp only [Option.some.injEq] at hstep
        subst hstep
        refine ⟨fun f _ => hF.fn f, ?_⟩
        exact go (qbu _ _ _) (qha _ _ _) (qbw _ _ _) (by rw [hq2]; exact qj2 hR hd) (Evo.refl g w)
      · cases hstep
theorem qpi (hm : P.follows .mixedOrders = true) (hcs : qbD P M call) (hlo : qaC call) : qpv P M call := by
  intro A rid ops l htr hlex hord st e st' hrun g w β a nt hdst hnt hR F m hF hnd Q hQ
  obtain ⟨rfl, hrunD⟩ := qf6 hrun
  have hll : l.length = ops.size := by simpa using (qiX htr).1
  refine Go.wpIn_region_any hm ?_
  have hall : ∀ i, i < ops.size → (Array.replicate ops.size false).getD i true = false := fun i hi => by simp [hi]
  have hrem : rem ops.size (Array.replicate ops.size false) = List.range ops.size := by
    unfold rem
    rw [List.filter_eq_self]
    intro i hi
    rw [hall i (by simpa using hi)]; rfl
  have hsm : SameMem w { w with drawn := w.drawn + 1 } := ⟨rfl, rfl, rfl⟩
  refine qtD hcs hlo hF htr hlex hord hdst (quh hnd) ops.size _ (by simp) (by rw [hrem]; simp) (fun x hx => ?_) st st' g { w with drawn := w.drawn + 1 } β a hnt (by rw [hrem, ← hll, ← qs6]; exact hrunD) (hR.sameMem hsm) Q (fun a' w' st2 he hg => ?_)
  · exfalso
    simp only [Array.getD_eq_getD_getElem?] at hx
    by_cases hlt : x < ops.size
    · simp [hlt] at hx
    · rw [Array.getElem?_eq_none (by simp; omega)] at hx; simp at hx
  · refine hQ .normal a' w' (show Post True M g w a .nrm st' .normal a' w' from ?_)
    obtain ⟨⟨g1, β1, hR1, hE1, hd1⟩, hs1, hq1⟩ := hg
    refine ⟨⟨g1, β1, ⟨?_, fun k => ?_, fun id o ho => ?_, hR1.fresh, hR1.gl⟩, (hsm.evo g).trans hE1, hd1.imp (fun ms h => ⟨h.1, MarksOk.base (w0 := { w with drawn := w.drawn + 1 }) (w0' := w) (qAe _) h.2⟩)⟩, hs1, hq1⟩
    · rw [hR1.n, he.H]
    · rw [← he.e k]; exact hR1.e k
    · exact hR1.h id o (by rw [he.H]; exact ho)
theorem sound {pg : Pg} (hm : P.follows .mixedOrders = true) (hT : Tab P M pg) (hx : qbD P M pg.ext) (hxlo : qaC pg.ext) (n : Nat) : qbD P M (qcP pg n) := by
  have key : ∀ n, qfw P M (exec pg n) := qnn (fun n h => qfX hT hx (qeG hxlo n) h (qg0 n)) (fun n hcs => qpi hm hcs (qfo hxlo (qeG hxlo n))) (fun n h => qnG hT.2 h)
  exact qfX hT hx (qeG hxlo n) (key n) (qg0 n)
theorem qnd {pg : Pg} (hm : P.follows .mixedOrders = true) (hT : Tab P M pg) (hx : qbD P M pg.ext) (hxlo : qaC pg.ext) {n i : Nat} {vs : List V} {H : List Obj} {r : Cr} (hcall : qcP pg n i vs H = some r) {f' : FuncId} (hlook : look M.fm f' = some i) (hext : pg.fn i ≠ none)
    {g : Gh} {w : World} {argv : List Value} (hargs : ArgsRep M g w 0 vs argv) (hH : RelH M g w H) : Go.Calls P f' argv.toArray w (yc M g w r) := by
  have key : ∀ n, qfw P M (exec pg n) := qnn (fun n h => qfX hT hx (qeG hxlo n) h (qg0 n)) (fun n hcs => qpi hm hcs (qfo hxlo (qeG hxlo n))) (fun n h => qnG hT.2 h)
  exact (qgu hT (qeG hxlo n) (key n) (qg0 n) hcall hlook hext hargs hH).1
end
end W

/-
  What the kernel works out of a call on closed data, as a fact about the call.
-/
set_option linter.unusedSimpArgs false
set_option linter.unusedVariables false
namespace W
open Go (IntKind BinOp UnOp)
mutual
def eqD : D → D → Bool
  | .b x, .b y => x == y
  | .i k x, .i k' y => eqK k k' && eqI x y
  | .s x, .s y => eqT x y
  | .nil, .nil => true
  | .sl x, .sl y => qnz x y
  | .agg x, .agg y => qnz x y
  | .np, .np => true
  | .nf, .nf => true
  | .ni, .ni => true
  | .nm, .nm => true
  | _, _ => false
def qnz : List D → List D → Bool
  | [], [] => true
  | x :: l, y :: r => eqD x y && qnz l r
  | _, _ => false
end
theorem quV {k k' : IntKind} (h : eqK k k' = true) : k = k' := by cases k <;> cases k' <;> first | rfl | cases h
theorem quy {x y : Int} (h : eqI x y = true) : x = y := by
  cases x <;> cases y <;> first | (have := qAo h; subst this; rfl) | cases h
theorem qqW : ∀ {x y : List Nat}, eqT x y = true → x = y
  | [], [], _ => rfl
  | a :: x, b :: y, h => by
    simp only [eqT, qAf] at h
    rw [qAo h.1, qqW h.2]
  | [], _ :: _, h => by cases h
  | _ :: _, [], h => by cases h
mutual
theorem qo0 : ∀ {x y : D}, eqD x y = true → x = y
  | .b x, y, h => by cases y <;> simp only [eqD] at h <;> first | cases h | skip; rw [eq_of_beq h]
  | .i k x, y, h => by
    cases y <;> simp only [eqD] at h <;> first | cases h | skip
    simp only [qAf] at h
    rw [quV h.1, quy h.2]
  | .s x, y, h => by cases y <;> simp only [eqD] at h <;> first | cases h | skip; rw [qqW h]
  | .nil, y, h => by cases y <;> simp only [eqD] at h <;> first | rfl | (cases h; done) | (cases h; rfl)
  | .sl x, y, h => by cases y <;> simp only [eqD] at h <;> first | cases h | skip; rw [qjs h]
  | .agg x, y, h => by cases y <;> simp only [eqD] at h <;> first | cases h | skip; rw [qjs h]
  | .np, y, h => by cases y <;> simp only [eqD] at h <;> first | rfl | (cases h; done) | (cases h; rfl)
  | .nf, y, h => by cases y <;> simp only [eqD] at h <;> first | rfl | (cases h; done) | (cases h; rfl)
  | .ni, y, h => by cases y <;> simp only [eqD] at h <;> first | rfl | (cases h; done) | (cases h; rfl)
  | .nm, y, h => by cases y <;> simp only [eqD] at h <;> first | rfl | (cases h; done) | (cases h; rfl)
theorem qjs : ∀ {x y : List D}, qnz x y = true → x = y
  | [], [], _ => rfl
  | a :: x, b :: y, h => by
    simp only [qnz, qAf] at h
    rw [qo0 h.1, qjs h.2]
  | [], _ :: _, h => by simp [qnz] at h
  | _ :: _, [], h => by simp [qnz] at h
end
def qp0 : List V → List D → Bool
  | [], [] => true
  | .d x :: l, y :: r => eqD x y && qp0 l r
  | _, _ => false
theorem qpd : ∀ {l : List V} {r : List D}, qp0 l r = true → l = r.map .d
  | [], [], _ => rfl
  | v :: l, y :: r, h => by
    cases v with
    | d x =>
      simp only [qp0, qAf] at h
      rw [qo0 h.1, qpd h.2]; rfl
    | _ => cases h
  | [], _ :: _, h => by simp [qp0] at h
  | v :: _, [], h => by cases v <;> simp [qp0] at h
def isD (r : Option Cr) (x : D) : Bool := match r with
  | some ⟨false, true, .d y, _, _⟩ => eqD y x
  | _ => false
def qt5 (r : Option Cr) (x : List D) : Bool := match r with
  | some ⟨false, true, .osl y, _, _⟩ => qnz y x
  | _ => false
def quk (r : Option Cr) (x : List D) : Bool := match r with
  | some ⟨false, true, .tup y, _, _⟩ => qp0 y x
  | _ => false
theorem qiK {pg : Pg} (hx : qaC pg.ext) {f : Nat} {vs : List V} {H H' : List Obj} {v : V} {lo : Nat} (h : zC pg f vs H = some ⟨false, true, v, H', lo⟩) : zC pg f vs H = some ⟨false, true, v, H, lo⟩ := by
  obtain ⟨n, hn⟩ := qdo.1 h
  have hlo := (qfo hx (qeG hx n) _ _ _ _ hn).2.2 rfl
  simp only at hlo
  rw [hlo] at h
  exact h
theorem qmY {pg : Pg} (hx : qaC pg.ext) {N f : Nat} {vs : List V} {H : List Obj} {x : D} (h : isD (qfF pg N f vs H) x = true) : ∃ lo, zC pg f vs H = some ⟨false, true, .d x, H, lo⟩ := by
  unfold isD at h
  split at h
  · rename_i y H' lo hr
    rw [qo0 h] at hr
    exact ⟨lo, qiK hx (qiH hr)⟩
  · cases h
theorem quD {pg : Pg} (hx : qaC pg.ext) {N f : Nat} {vs : List V} {H : List Obj} {x : List D} (h : qt5 (qfF pg N f vs H) x = true) : ∃ lo, zC pg f vs H = some ⟨false, true, .osl x, H, lo⟩ := by
  unfold qt5 at h
  split at h
  · rename_i y H' lo hr
    rw [qjs h] at hr
    exact ⟨lo, qiK hx (qiH hr)⟩
  · cases h
theorem qvi {pg : Pg} (hx : qaC pg.ext) {N f : Nat} {vs : List V} {H : List Obj} {x : List D} (h : quk (qfF pg N f vs H) x = true) : ∃ lo, zC pg f vs H = some ⟨false, true, .tup (x.map .d), H, lo⟩ := by
  unfold quk at h
  split at h
  · rename_i y H' lo hr
    rw [qpd h] at hr
    exact ⟨lo, qiK hx (qiH hr)⟩
  · cases h
theorem qxu {fn : Nat → Option Fn} : qaC (Pg.mk fn fun _ _ _ => none).ext := fun _ _ _ _ h => by cases h
end W

/- Where all below the heap's end is as it was. -/
set_option linter.unusedSimpArgs false
set_option linter.unusedVariables false
namespace W
open Go (World Value Addr IntKind Program TypeId FuncId Operand Act Oper Next Result Sem BinOp UnOp Ending Exit Code Func Calls)
open Go.RowKit (Below)
theorem qqv {M : Maps} {g : Gh} {w w' : World} {H : List Obj} (hH : RelH M g w H) (h : Below w.heap.size w w') : RelH M g w' H ∧ Evo g w g w' := by
  have hg : Grow g w g w' := ⟨h.size, fun _ => qAe _, fun b o ho => by
    have hb : b < w.heap.size := by
      rcases Nat.lt_or_ge b w.heap.size with h1 | h1
      · exact h1
      · rw [(hH.fresh b h1).2] at ho; omega
    simp only [World.cell?, h.block b hb]⟩
  have hk : ∀ ℓ, Kept g w g w' ℓ := fun ℓ => ⟨fun b hb => by
    have : b < w.heap.size := by
      rcases Nat.lt_or_ge b w.heap.size with h1 | h1
      · exact h1
      · rw [(hH.fresh b h1).1] at hb; cases hb
    exact ⟨hb, h.block b this, rfl⟩⟩
  exact ⟨⟨hH.n, fun id o ho => (hH.h id o ho).mono hg (qAe _) (fun _ _ => rfl) (by rw [hH.n]; exact (List.getElem?_eq_some_iff.1 ho).1) (hk _) (fun i => hk _), fun b hb => hH.fresh b (Nat.le_trans h.size hb), hH.gl.mono hg⟩,
    ⟨hg, qAe _, fun _ _ => rfl, fun b hb _ => ⟨rfl, h.block b hb, rfl⟩, h.os, h.output⟩⟩
end W

set_option linter.unusedSimpArgs false
set_option linter.unusedVariables false
namespace W
open Go (IntKind BinOp UnOp)
set_option maxRecDepth 20000
def ixN (c : Nat) : List Nat → Int
  | [] => -1
  | x :: l => bif qAk x c then 0 else (match ixN c l with | .ofNat n => .ofNat (n + 1) | .negSucc _ => -1)
def ixX (vs : List V) (H : List Obj) : Option Cr :=
  match vs with
  | [.d (.s t), .d (.i .u8 c)] => some ⟨false, true, .d (.i .i64 (ixN (c.toNat % 256) t)), H, H.length⟩
  | _ => none
def teX (vs : List V) (H : List Obj) : Option Cr :=
  match vs with
  | [.d (.s _), .d (.s t), .d (.i .i64 _), .d (.i .i64 _), .ifc 110 (.d (.i .i64 e))] => bif (eqI e 1 || eqI e 2) && Nat.ble t.length 1000000000000 then some ⟨false, true, .ifc 112 .undef, H, H.length⟩ else none
  | _ => none
def KW : List (List Nat) := [[65, 82, 82, 65, 89], [66, 69, 71, 73, 78], [66, 89], [67, 65, 83, 69], [67, 79, 78, 83, 84], [68, 73, 86], [68, 79], [69, 76, 83, 69], [69, 76, 83, 73, 70], [69, 78, 68], [70, 65, 76, 83, 69], [70, 79, 82], [73, 70], [73, 77, 80, 79, 82, 84], [73, 78], [73, 83], [77, 79, 68], [77, 79, 68, 85, 76, 69], [78, 73, 76], [79, 70], [79, 82], [80, 79, 73, 78, 84, 69, 82], [80, 82, 79, 67, 69, 68, 85, 82, 69], [82, 69, 67, 79, 82, 68], [82, 69, 80, 69, 65, 84], [82, 69, 84, 85, 82, 78], [84, 72, 69, 78], [84, 79], [84, 82, 85, 69], [84, 89, 80, 69], [85, 78, 84, 73, 76], [86, 65, 82], [87, 72, 73, 76, 69]]
def kwX (vs : List V) (H : List Obj) : Option Cr :=
  match vs with
  | [] => some ⟨false, true, .d (.sl (KW.map D.s)), H, H.length⟩
  | _ => none
def pgA : Pg := ⟨fun n => bif qAk n 58 then none else bif qAk n 76 then none else prog n, fun i vs H => bif qAk i 58 then ixX vs H else bif qAk i 76 then teX vs H else none⟩
def pg : Pg := ⟨fun n => bif qAk n 58 then none else bif qAk n 76 then none else bif qAk n 17 then none else prog n, fun i vs H => bif qAk i 58 then ixX vs H else bif qAk i 76 then teX vs H else bif qAk i 17 then kwX vs H else none⟩
theorem qkH {H : List Obj} {v : V} {r : Cr} (h : some (⟨false, true, v, H, H.length⟩ : Cr) = some r) : H.length ≤ r.H.length ∧ (∀ id, id < r.lo → id < H.length → r.H[id]? = H[id]?) ∧ (r.same = true → r.H = H) := by
  cases h
  exact ⟨qAe _, fun _ _ _ => rfl, fun _ => rfl⟩
theorem qst {vs : List V} {H : List Obj} {r : Cr} (h : ixX vs H = some r) : H.length ≤ r.H.length ∧ (∀ id, id < r.lo → id < H.length → r.H[id]? = H[id]?) ∧ (r.same = true → r.H = H) := by
  unfold ixX at h
  split at h
  · exact qkH h
  · cases h
theorem qsa {vs : List V} {H : List Obj} {r : Cr} (h : teX vs H = some r) : H.length ≤ r.H.length ∧ (∀ id, id < r.lo → id < H.length → r.H[id]? = H[id]?) ∧ (r.same = true → r.H = H) := by
  unfold teX at h
  split at h
  · rw [qAh] at h
    split at h
    · exact qkH h
    · cases h
  · cases h
theorem qpz : qaC pgA.ext := by
  intro i vs H r h
  simp only [pgA, qAh] at h
  split at h
  · exact qst h
  · split at h
    · exact qsa h
    · cases h
theorem qrK : qaC pg.ext := by
  intro i vs H r h
  simp only [pg, qAh] at h
  split at h
  · exact qst h
  · split at h
    · exact qsa h
    · split at h
      · unfold kwX at h
        split at h
        · exact qkH h
        · cases h
      · cases h
theorem qvj : isD (qfF pgA 3000 17 [] []) (.sl (KW.map D.s)) = true := by decide +kernel
theorem qpc {H : List Obj} : zC pg 17 [] H = some ⟨false, true, .d (.sl (KW.map D.s)), H, H.length⟩ := by
  rw [qfG]
  unfold jy
  rw [show pg.fn 17 = none from rfl]
  rfl
theorem qpu {t : List Nat} {c : Nat} (hc : c < 256) {H : List Obj} : zC pg 58 [.d (.s t), .d (.i .u8 c)] H = some ⟨false, true, .d (.i .i64 (ixN c t)), H, H.length⟩ := by
  have : (c : Int).toNat % 256 = c := by simp; omega
  rw [qfG]
  unfold jy
  rw [show pg.fn 58 = none from rfl]
  show ixX [.d (.s t), .d (.i .u8 c)] H = _
  rw [ixX, this]
theorem qsI {f t : List Nat} {b z e : Int} (he : e = 1 ∨ e = 2) (ht : t.length ≤ 1000000000000) {H : List Obj} : zC pg 76 [.d (.s f), .d (.s t), .d (.i .i64 b), .d (.i .i64 z), .ifc 110 (.d (.i .i64 e))] H = some ⟨false, true, .ifc 112 .undef, H, H.length⟩ := by
  rw [qfG]
  have h1 : Nat.ble t.length 1000000000000 = true := by simpa using ht
  unfold jy
  rw [show pg.fn 76 = none from rfl]
  show teX [.d (.s f), .d (.s t), .d (.i .i64 b), .d (.i .i64 z), .ifc 110 (.d (.i .i64 e))] H = _
  rcases he with rfl | rfl <;> simp only [teX, h1] <;> rfl
def pre (t l : List Nat) : Bool := decide (l.take t.length = t)
theorem qtl {l : List Nat} {n : Nat} (h : n ≤ l.length) : qev (.d (.s l)) none (some (n : Int)) = some (.d (.s (l.take n))) := by
  rw [qkd (by simp) (by simp) (by simp; omega)]
  simp
theorem qta {l : List Nat} {n : Nat} (h : n ≤ l.length) : qev (.d (.s l)) (some (n : Int)) none = some (.d (.s (l.drop n))) := by
  rw [qkd (by simp) (by simp; omega) (by simp)]
  simp
theorem qhB {l : List Nat} {a b : Nat} (h : a ≤ b) (h2 : b ≤ l.length) : qev (.d (.s l)) (some (a : Int)) (some (b : Int)) = some (.d (.s ((l.take b).drop a))) := by
  rw [qkd (by simp) (by simp; omega) (by simp; omega)]
  simp
theorem qsA {l t : List Nat} {H : List Obj} : zC pg 77 [.d (.s l), .d (.s t)] H = some ⟨false, true, .d (.b (pre t l)), H, H.length⟩ := by
  rw [qY (fn := jR) rfl rfl]
  by_cases h : t.length ≤ l.length
  · have h1 : ((t.length : Int) ≤ (l.length : Int)) = True := by rw [eq_iff_iff]; simp; omega
    have h2 := qtl h
    simp only [jR, qj, qz6, Nat.reduceAdd, qo, qx, qy, qm, qe, kK, qK, qL, qW, qa, qf, kI, reduceCtorEq, qF, qD, qA, qz, q9, ze, qp, Nat.reduceEqDiff, qk, ke, qAd, z7, h1, decide_true, kT, zn, zh, ↓reduceIte, jY, qi2, yn, qc4, qas, h2, qbN, kw, zt, qO, qJ, qb, qH, kv, qh, qt, qV, qI, jM, yp, kM, pre]
    all_goals rfl
  · have h1 : ((t.length : Int) ≤ (l.length : Int)) = False := by rw [eq_iff_iff]; simp; omega
    have h2 : pre t l = false := by
      simp only [pre, decide_eq_false_iff_not]
      intro e
      have := congrArg List.length e
      simp at this
      omega
    simp only [jR, qj, qz6, Nat.reduceAdd, qo, qx, qy, qm, qe, kK, qK, qL, qW, qa, qf, kI, reduceCtorEq, qF, qD, qA, qz, q9, ze, qp, Nat.reduceEqDiff, qk, ke, qAd, z7, h1, decide_false, kT, zn, zh, qz0, ↓reduceIte, zl, kw, kX, j8, qO, qJ, qb, qH, kv, qh, qt, qV, qI, jM, yp, kM, h2]
    all_goals rfl
theorem qs9 {l t : List Nat} {H : List Obj} : zC pg 65 [.d (.s l), .d (.s t)] H = some ⟨false, true, .d (.b (pre t l)), H, H.length⟩ := by
  rw [qY (fn := qb8) rfl rfl]
  simp only [qb8, qj, qz6, Nat.reduceAdd, qo, qx, qy, qm, qe, kK, qK, qL, qW, qa, qf, zc, reduceCtorEq, qF, qD, kV, qZ, Nat.reduceEqDiff, qs, qz3, qz9, qc, qI, qi, qz1, qT, qsA, qr, qd, qg, qAs, qO, qJ, qb, qH, kv, qh, qt, qV, jM, yp, kM]
  all_goals rfl
abbrev sc (s : List Nat) (a : Nat) : Obj := .cells [.d (.s s), .d (.i .i64 (a : Int))]
theorem qfi {s t : List Nat} {a id : Nat} {H : List Obj} (hH : H[id]? = some (sc s a)) (ha : a ≤ s.length) : zC pg 45 [.ptr id 0, .d (.s t)] H = some ⟨false, true, .d (.b (pre t (s.drop a))), H, H.length⟩ := by
  rw [qY (fn := qcn) rfl rfl]
  have h2 := qta ha
  simp only [qcn, qj, qz6, Nat.reduceAdd, qo, qx, qy, qm, qe, kK, qK, qL, qW, qa, qf, jp, zV, kI, reduceCtorEq, qF, qD, qP, qz, zT, jz, zW, qE, qp, qu, kP, qAu, qQ, kh, hH, kL, qz2, qAb, kq, yu, qz5, jY, Nat.reduceEqDiff, qA, yn, qc4, qi2, qas, h2, zc, kV, qZ, qs, qz3, qz9, qc, qI, qi, qz1, qT, qs9, qr, qd, qg, qAs, zx, zw, qO, qJ, qb, qH, kv, qh, qt, qV, jM, yp, kM]
  all_goals rfl
def cLt (c : Nat) : Bool := (decide (97 ≤ c) && decide (c ≤ 122)) || (decide (65 ≤ c) && decide (c ≤ 90))
def cDg (c : Nat) : Bool := decide (48 ≤ c) && decide (c ≤ 57)
def cHx (c : Nat) : Bool := cDg c || (decide (65 ≤ c) && decide (c ≤ 70))
def cNm (c : Nat) : Bool := cLt c || cDg c
def cTx (c : Nat) : Bool := decide (32 ≤ c) && !decide (c = 34)
theorem qzY {a c : Nat} : ((a : Int) ≤ (c : Int)) = (a ≤ c) := by simp
theorem qjd {c : Nat} {H : List Obj} : zC pg 41 [.d (.i .u8 c)] H = some ⟨false, true, .d (.b (cLt c)), H, H.length⟩ := by
  rw [qY (fn := qeh) rfl rfl]
  have e1 : ((97 : Int) ≤ (c : Int)) = (97 ≤ c) := by rw [eq_iff_iff]; omega
  have e2 : ((c : Int) ≤ 122) = (c ≤ 122) := by rw [eq_iff_iff]; omega
  have e3 : ((65 : Int) ≤ (c : Int)) = (65 ≤ c) := by rw [eq_iff_iff]; omega
  have e4 : ((c : Int) ≤ 90) = (c ≤ 90) := by rw [eq_iff_iff]; omega
  by_cases h1 : 97 ≤ c <;> by_cases h2 : c ≤ 122 <;> by_cases h3 : 65 ≤ c <;> by_cases h4 : c ≤ 90
  all_goals simp only [qeh, qj, qz6, qo, qx, qy, qm, qe, kK, qK, qL, qW, qa, qf, kI, reduceCtorEq, qF, qD, qA, qz, qk, ke, kr, qz7, z7, e1, h1, decide_true, qp, kT, zn, zh, ↓reduceIte, Nat.reduceEqDiff, zr, e2, h2, kw, zt, zO, qAm, qz0, zl, qgb, kX, qbT, qO, qJ, qb, qH, kv, qh, qt, qV, qI, jM, yp, kM, cLt, qz1, h3, h4, qAd, decide_false, Bool.and_false, qAl, Bool.and_true, qAr, e3, e4, j8]
  all_goals rfl
theorem qhw {c : Nat} {H : List Obj} : zC pg 43 [.d (.i .u8 c)] H = some ⟨false, true, .d (.b (cDg c)), H, H.length⟩ := by
  rw [qY (fn := qeS) rfl rfl]
  have e1 : ((48 : Int) ≤ (c : Int)) = (48 ≤ c) := by rw [eq_iff_iff]; omega
  have e2 : ((c : Int) ≤ 57) = (c ≤ 57) := by rw [eq_iff_iff]; omega
  by_cases h1 : 48 ≤ c <;> by_cases h2 : c ≤ 57
  all_goals simp only [qeS, qj, qz6, qo, qx, qy, qm, qe, kK, qK, qL, qW, qa, qf, kI, reduceCtorEq, qF, qD, qA, qz, qk, ke, kr, qz7, z7, e1, h1, decide_true, qp, kT, zn, zh, ↓reduceIte, Nat.reduceEqDiff, zr, e2, h2, kw, zt, qO, qJ, qb, qH, kv, qh, qt, qV, qI, jM, yp, kM, cDg, qz1, decide_false, Bool.and_false, qz0, zl, kX, j8, Bool.and_true]
  all_goals rfl
theorem qrb {c : Nat} {H : List Obj} : zC pg 63 [.d (.i .u8 c)] H = some ⟨false, true, .d (.b (cHx c)), H, H.length⟩ := by
  rw [qY (fn := qfW) rfl rfl]
  have e1 : ((65 : Int) ≤ (c : Int)) = (65 ≤ c) := by rw [eq_iff_iff]; omega
  have e2 : ((c : Int) ≤ 70) = (c ≤ 70) := by rw [eq_iff_iff]; omega
  have hd := qhw (c := c) (H := H)
  cases hq : cDg c <;> rw [hq] at hd <;> by_cases h1 : 65 ≤ c <;> by_cases h2 : c ≤ 70
  all_goals simp only [qfW, qj, qz6, qo, qx, qy, qm, qe, kK, qK, qL, qW, qa, qf, kI, reduceCtorEq, qF, qD, qA, qz, qs, qz3, qz9, qc, qI, qi, qz1, qT, hd, qr, qd, qg, qAs, zc, kV, qZ, kT, zO, qAr, zh, ↓reduceIte, Nat.reduceEqDiff, qk, ke, kr, qz7, z7, e1, h1, decide_true, qp, zn, zr, e2, h2, kw, zt, qz0, qO, qJ, qb, qH, kv, qh, qt, qV, jM, yp, kM, cHx, hq, decide_false, Bool.and_false, qAd, zl, kX, j8, Bool.and_true, qAm, qgb, qbT, qAl]
  all_goals rfl
theorem qn9 {c : Nat} {H : List Obj} : zC pg 61 [.d (.i .u8 c)] H = some ⟨false, true, .d (.b (cNm c)), H, H.length⟩ := by
  rw [qY (fn := qeO) rfl rfl]
  have hl := qjd (c := c) (H := H)
  have hd := qhw (c := c) (H := H)
  cases hq : cDg c <;> rw [hq] at hd <;> cases hr : cLt c <;> rw [hr] at hl
  all_goals simp only [qeO, qj, qz6, qo, qx, qy, qm, qe, kK, qK, qL, qW, qa, qf, kI, reduceCtorEq, qF, qD, qA, qz, qs, qz3, qz9, qc, qI, qi, qz1, qT, hl, qr, qd, qg, qAs, zc, kV, qZ, kT, zO, qAr, zh, ↓reduceIte, Nat.reduceEqDiff, hd, kw, zt, qz0, qp, qO, qJ, qb, qH, kv, qh, qt, qV, jM, yp, kM, cNm, hr, hq, qAd, qAm, zl, kX, qbT, qAl, qz7]
  all_goals rfl
theorem qoz {c : Nat} {H : List Obj} : zC pg 66 [.d (.i .u8 c)] H = some ⟨false, true, .d (.b (cTx c)), H, H.length⟩ := by
  rw [qY (fn := qbE) rfl rfl]
  have e1 : ((32 : Int) ≤ (c : Int)) = (32 ≤ c) := by rw [eq_iff_iff]; omega
  have e2 : ((c : Int) = 34) = (c = 34) := by rw [eq_iff_iff]; omega
  by_cases h1 : 32 ≤ c <;> by_cases h2 : c = 34
  all_goals simp only [qbE, h2, qAv, qj, qz6, qo, qx, qy, qm, qe, kK, qK, qL, qW, qa, qf, kI, reduceCtorEq, qF, qD, qA, qz, qk, ke, kr, qz7, z7, Int.reduceLE, decide_true, qp, kT, zn, zh, ↓reduceIte, Nat.reduceEqDiff, qbC, qAm, kw, zt, qO, qJ, qb, qH, kv, qh, qt, qV, qI, jM, yp, kM, cTx, Nat.reduceLeDiff, Bool.and_false, e1, h1, e2, decide_false, qAr, qz1, qz0, zl, kX, j8, Bool.and_true]
  all_goals rfl
def run (P : Nat → Bool) : List Nat → Nat
  | [] => 0
  | c :: l => bif P c then run P l + 1 else 0
theorem qdD (P : Nat → Bool) : ∀ l, run P l ≤ l.length
  | [] => qAe _
  | c :: l => by simp only [run]; cases P c <;> simp [qdD P l]
theorem qdp {a e : Int} {H : List Obj} : zC pg 59 [.d (.i .i64 a), .d (.i .i64 e)] H = some ⟨true, true, .ifc 66 (.d (.agg [.i .i64 a, .i .i64 e])), H, H.length⟩ := by
  rw [qY (fn := qfs) rfl rfl]
  simp only [qfs, qj, qz6, Nat.reduceAdd, qo, qy, qm, qe, kI, qD, qA, qz, qL, qW, Nat.reduceEqDiff, qF, reduceCtorEq, zf, qz3, qz9, zq, ky, kS, qz4, qz8, Nat.reduceLT, jO, qAa, qAc, zF, zG, zz, jm, zy, kY, zg, qp, qdl, qdW, qz1, Nat.reduceLeDiff, qs5, qAp, List.nil_append, List.drop_succ_cons, qAn, List.append_nil, qet, qgk, qei, qnX, qcE, qrd, qcp, qbV, qjI, qcy, qo7, jM, qoX, kM]
  all_goals rfl
theorem yN {s : List Nat} {a : Nat} (h : a < s.length) : s.drop a = s[a] :: s.drop (a + 1) := by simp
theorem qoN {F : Nat} {P : Nat → Bool} (hF : ∀ c H, zC pg F [.d (.i .u8 ((c : Nat) : Int))] H = some ⟨false, true, .d (.b (P c)), H, H.length⟩) {s : List Nat} (hz : s.length ≤ 1000000000000) {id : Nat} {z : Int} :
    ∀ (k a : Nat) (H : List Obj), s.length - a = k → a ≤ s.length → H[id]? = some (sc s a) → ∀ lo, lo ≤ H.length → ∃ lo', min lo id ≤ lo' ∧ (run P (s.drop a) = 0 ∨ lo' ≤ id) ∧ lo' ≤ lo ∧ j5 0 [0, 5] (qaX pg (.ptr id 0) (.fn F [] []) (.d (.i .i64 z)) H lo) = some (.nrm, ⟨[(0, .ptr id 0), (5, .d (.i .i64 z))], zi H id (sc s (a + run P (s.drop a))), lo'⟩) := by
  intro k
  induction k with
  | zero =>
    intro a H hk ha hH lo hlo
    obtain rfl : a = s.length := by omega
    have h1 : ((s.length : Int) < (s.length : Int)) = False := by simp
    have hr : run P (s.drop s.length) = 0 := by simp [run]
    refine ⟨lo, Nat.min_le_left _ _, .inl hr, qAe _, ?_⟩
    rw [qcJ]
    simp only [yU, kz, qh6, qU, qx, jp, zV, qe, kI, qD, qP, qz, zT, jz, zW, qE, qp, qu, kP, qz6, qQ, kh, hH, kL, qz5, qz2, qAb, kq, yu, reduceCtorEq, qF, qAu, q9, qA, ze, qk, ke, qAd, Nat.reduceEqDiff, zj, h1, decide_false, zx, qd7, zn, qe4, qz0, ↓reduceIte, zl, kw, kX, kK, j8, zw, qf, qw, qC, yB, jH, jx, ql, qn]
    rw [hr, qAu, qal hH]
    all_goals rfl
  | succ k ih =>
    intro a H hk ha hH lo hlo
    have h1 : ((a : Int) < (s.length : Int)) = True := by rw [eq_iff_iff]; simp; omega
    have hlt : a < s.length := by omega
    have hix : ixV (.d (.s s)) (.d (.i .i64 (a : Int))) = some (.d (.i .u8 ((s[a] : Nat) : Int))) := qkJ (by omega) (by simp)
    have hw : wr .i64 ((a : Int) + 1) = ((a + 1 : Nat) : Int) := by rw [jl (by omega) (by omega)]; omega
    have hf := hF s[a] H
    have hdr := yN hlt
    rw [qcJ]
    have hm : min lo H.length = lo := by omega
    cases hp : P s[a] with
    | false =>
      rw [hp] at hf
      have hr : run P (s.drop a) = 0 := by rw [hdr]; simp [run, hp]
      refine ⟨lo, Nat.min_le_left _ _, .inl hr, qAe _, ?_⟩
      simp only [yU, kz, qh6, qU, qx, jp, zV, qe, kI, qD, qP, qz, zT, jz, zW, qE, qp, qu, kP, qz6, qQ, kh, hH, kL, qz5, qz2, qAb, kq, yu, reduceCtorEq, qF, qAu, q9, qA, ze, qk, ke, qAd, Nat.reduceEqDiff, zj, h1, decide_true, zx, qd7, zn, qe4, ↓reduceIte, qnM, qpx, kE, hix, qs, qo6, qz3, qz9, qc, qI, qi, qz1, qno, hf, qr, qd, qg, hm, kw, kK, zt, zw, qf, qw, qC, qz0, yB, jH, jx, ql, qn]
      rw [hr, qAu, qal hH]
      all_goals rfl
    | true =>
      rw [hp] at hf
      have hr : a + run P (s.drop a) = (a + 1) + run P (s.drop (a + 1)) := by rw [hdr]; simp only [run, hp, cond_true]; omega
      have hid : id < H.length := (List.getElem?_eq_some_iff.1 hH).1
      have hH2 : (zi H id (sc s (a + 1)))[id]? = some (sc s (a + 1)) := yd hH
      obtain ⟨lo', g1, g2, g3, ih'⟩ := ih (a + 1) (zi H id (sc s (a + 1))) (by omega) (by omega) hH2 (min lo id) (by simp only [qB]; omega)
      rw [hr]
      rw [kD] at ih'
      refine ⟨lo', by omega, .inr (by omega), by omega, ?_⟩
      simp only [yU, kz, qh6, qU, qx, jp, zV, qe, kI, qD, qP, qz, zT, jz, zW, qE, qp, qu, kP, qz6, qQ, kh, hH, kL, qz5, qz2, qAb, kq, yu, reduceCtorEq, qF, qAu, q9, qA, ze, qk, ke, qAd, Nat.reduceEqDiff, zj, h1, decide_true, zx, qd7, zn, qe4, ↓reduceIte, qnM, qpx, kE, hix, qs, qo6, qz3, qz9, qc, qI, qi, qz1, qno, hf, qr, qd, qg, hm, kw, kK, zt, zw, qf, qw, qC, qS, qq, qy, qm, qL, ki, qW, kr, qz7, kB, hw, qN, kW, zq, ky, qz4, qz8, qX, kS, kl, kf, Nat.reduceAdd, Nat.reduceLT, kn, qAc, qAa, kg, kp, qa, qR, ql, qn, qcQ]
      exact ih'
theorem qhy {F : Nat} {P : Nat → Bool} (hF : ∀ c H, zC pg F [.d (.i .u8 ((c : Nat) : Int))] H = some ⟨false, true, .d (.b (P c)), H, H.length⟩) {s : List Nat} (hz : s.length ≤ 1000000000000) {id a : Nat} {H : List Obj} (ha : a ≤ s.length) (hH : H[id]? = some (sc s a)) :
    ∃ sm lo, id ≤ lo ∧ lo ≤ H.length ∧ (run P (s.drop a) = 0 ∨ lo ≤ id) ∧ zC pg 60 [.ptr id 0, .fn F [] []] H = some ⟨false, sm, .d (.s ((s.drop a).take (run P (s.drop a)))), zi H id (sc s (a + run P (s.drop a))), lo⟩ := by
  have hid : id < H.length := (List.getElem?_eq_some_iff.1 hH).1
  obtain ⟨lo, g1, g2, g3, hl⟩ := qoN hF hz (z := (a : Int)) (s.length - a) a H rfl ha hH H.length (qAe _)
  have hle := qdD P (s.drop a)
  simp only [List.length_drop] at hle
  have hH2 : (zi H id (sc s (a + run P (s.drop a))))[id]? = some (sc s (a + run P (s.drop a))) := yd hH
  have hm := qhB (l := s) (a := a) (b := a + run P (s.drop a)) (by omega) (by omega)
  have hmm : (s.take (a + run P (s.drop a))).drop a = (s.drop a).take (run P (s.drop a)) := by
    rw [List.drop_take]; congr 1; omega
  rw [hmm] at hm
  rw [qY (fn := qbR) rfl rfl]
  have hlv := fun (e : Env) => qfc (pan := false) (v := .d (.s ((s.drop a).take (run P (s.drop a))))) (e := e) (lo := lo) (o := sc s (a + run P (s.drop a))) rfl rfl (fun _ => rfl) (by
    rcases g2 with h | h
    · left; rw [h, qAu]; exact qal hH
    · right; exact h) hid
  simp only [qbR, qj, qz6, Nat.reduceAdd, qo, qx, qy, qm, qe, kK, qK, qL, qW, qa, qf, kI, reduceCtorEq, qF, qD, qP, qz, ki, qE, qp, qu, kP, qQ, kh, hH, kL, qz5, qz2, qAb, kq, qA, qq, qcQ, kz, Nat.reduceEqDiff, qh6, qU]
  rw [hl]
  simp only [qdv, qf, qx, jp, zV, qe, kI, qD, qP, qz, zT, jz, zW, qE, qp, qu, kP, qAu, qQ, kh, hH2, kL, qz2, qAb, kq, yu, Nat.reduceEqDiff, qF, reduceCtorEq, qA, qz6, qz5, jY, yn, qc4, qas, hm, zx, zw, qO, qJ, qb, qH, kv, qh, qt, qV]
  obtain ⟨sm, h⟩ := hlv _
  exact ⟨sm, lo, by omega, by omega, g2, h⟩
end W

set_option linter.unusedSimpArgs false
set_option linter.unusedVariables false
namespace W
open Go (IntKind BinOp UnOp)
set_option maxRecDepth 20000
def blk (c : Nat) : Bool := decide (c = 9) || decide (c = 10) || decide (c = 13) || decide (c = 32)
theorem quU {c : Nat} (hc : c < 256) : ((0 : Int) ≤ ixN c [9, 10, 13, 32]) = (blk c = true) := by
  have h : ∀ c : Fin 256, decide ((0 : Int) ≤ ixN c [9, 10, 13, 32]) = blk c := by decide +kernel
  have := h ⟨c, hc⟩
  simp only at this
  rw [← this]; simp
def sk (deep frm a : Nat) : List Nat → Bool × Nat
  | [] => if deep = 0 then (true, a) else (false, frm)
  | [c] => if deep = 0 then (if blk c then (true, a + 1) else (true, a)) else (false, frm)
  | c :: d :: l =>
    if c = 40 ∧ d = 42 then sk (deep + 1) (if deep = 0 then a else frm) (a + 2) l
    else if 0 < deep ∧ c = 42 ∧ d = 41 then sk (deep - 1) frm (a + 2) l
    else if 0 < deep ∨ blk c = true then sk deep frm (a + 1) (d :: l)
    else (true, a)
theorem qf0 {s : List Nat} {a c : Nat} {l : List Nat} (h : s.drop a = c :: l) : s[a]? = some c ∧ s.drop (a + 1) = l ∧ a < s.length := by
  have hl : a < s.length := by
    rcases Nat.lt_or_ge a s.length with h1 | h1
    · exact h1
    · rw [List.drop_eq_nil_of_le h1] at h; cases h
  rw [yN hl] at h
  injection h with h1 h2
  exact ⟨by rw [← h1]; simp, h2, hl⟩
def SkRes (id : Nat) (s : List Nat) (a : Nat) (H : List Obj) (lo : Nat) (r : Bool × Nat) (X : Option (Ex × St)) : Prop :=
  match r with
  | (true, a') => ∃ x e lo', (x = .nrm ∨ x = .ret) ∧ min lo id ≤ lo' ∧ (a' = a ∨ lo' ≤ id) ∧ lo' ≤ lo ∧ X = some (x, ⟨e, zi H id (sc s a'), lo'⟩)
  | (false, p) => ∃ e lo' a', min lo id ≤ lo' ∧ lo' ≤ lo ∧ (a' = a ∨ lo' ≤ id) ∧ X = some (.pan (.ifc 66 (.d (.agg [.i .i64 (p : Nat), .i .i64 30]))), ⟨e, zi H id (sc s a'), lo'⟩)
theorem SkRes.step {id : Nat} {s : List Nat} {a a2 : Nat} {H : List Obj} {lo : Nat} {r : Bool × Nat} {X : Option (Ex × St)} (h : SkRes id s a2 (zi H id (sc s a2)) (min lo id) r X) : SkRes id s a H lo r X := by
  obtain ⟨b, p⟩ := r
  cases b with
  | true =>
    obtain ⟨x, e, lo', h1, h2, h3, h4, h5⟩ := h
    rw [kD] at h5
    exact ⟨x, e, lo', h1, by omega, .inr (by omega), by omega, h5⟩
  | false =>
    obtain ⟨e, lo', a', h1, h2, h3, h5⟩ := h
    rw [kD] at h5
    exact ⟨e, lo', a', by omega, by omega, .inr (by omega), h5⟩
theorem SkRes.stay {id : Nat} {s : List Nat} {a : Nat} {H : List Obj} {lo : Nat} {X : Option (Ex × St)} (hH : H[id]? = some (sc s a)) (h : ∃ x e, (x = .nrm ∨ x = .ret) ∧ X = some (x, ⟨e, H, lo⟩)) : SkRes id s a H lo (true, a) X := by
  obtain ⟨x, e, hx, h⟩ := h
  exact ⟨x, e, lo, hx, Nat.min_le_left _ _, .inl rfl, qAe _, by rw [qal hH]; exact h⟩
theorem SkRes.bad {id p : Nat} {s : List Nat} {a : Nat} {H : List Obj} {lo : Nat} {X : Option (Ex × St)} (hH : H[id]? = some (sc s a)) (h : ∃ e, X = some (.pan (.ifc 66 (.d (.agg [.i .i64 (p : Nat), .i .i64 30]))), ⟨e, H, lo⟩)) : SkRes id s a H lo (false, p) X := by
  obtain ⟨e, h⟩ := h
  exact ⟨e, lo, a, Nat.min_le_left _ _, qAe _, .inl rfl, by rw [qal hH]; exact h⟩
theorem qtp {x y c d : Nat} {l : List Nat} : pre [x, y] (c :: d :: l) = (decide (c = x ∧ d = y)) := by simp [pre]
theorem qrI {x y c : Nat} : pre [x, y] [c] = false := by simp [pre]
theorem qp7 {s : List Nat} (hs : ∀ c ∈ s, c < 256) (hz : s.length ≤ 1000000000000) {id : Nat} :
    ∀ (k a deep frm : Nat) (H : List Obj) (lo : Nat), s.length - a ≤ k → a ≤ s.length → deep ≤ a → H[id]? = some (sc s a) → lo ≤ H.length →
      SkRes id s a H lo (sk deep frm a (s.drop a)) (yO pg (j5 0 [2, 3] (yi pg (.ptr id 0) (.d (.i .i64 (frm : Nat))) (.d (.i .i64 (deep : Nat))) H lo)) yg) := by
  have endc : ∀ (deep frm : Nat) (H : List Obj) (lo : Nat), H[id]? = some (sc s s.length) → lo ≤ H.length →
      SkRes id s s.length H lo (if deep = 0 then (true, s.length) else (false, frm)) (yO pg (j5 0 [2, 3] (yi pg (.ptr id 0) (.d (.i .i64 (frm : Nat))) (.d (.i .i64 (deep : Nat))) H lo)) yg) := by
    intro deep frm H lo hH hlo
    have h1 : ((s.length : Int) < (s.length : Int)) = False := by simp
    have hm : min lo H.length = lo := by omega
    have hsf := qal hH
    rw [yK]
    by_cases hd : deep = 0
    · subst hd
      have h2 : ((0 : Int) < ((0 : Nat) : Int)) = False := by simp
      rw [if_pos rfl]
      refine .stay hH ⟨.nrm, ?_⟩
      simp only [reduceCtorEq, jq, kz, qU, qAv, qx, jp, zV, qe, kI, qD, qP, qz, zT, jz, zW, qE, qp, qu, kP, qz6, qQ, kh, hH, kL, qz5, qz2, qAb, kq, yu, qF, qAu, q9, qA, ze, qk, ke, qAd, Nat.reduceEqDiff, zj, h1, decide_false, zx, zw, qf, qw, qC, qz0, ↓reduceIte, yB, jH, jx, ql, qn, yg, qy, qm, qL, qW, kr, qz7, kK, je, Int.reduceLT, qa, qS]
      exact ⟨_, by simp, rfl⟩
    · have h2 : ((0 : Int) < ((deep : Nat) : Int)) = True := by rw [eq_iff_iff]; simp; omega
      rw [if_neg hd]
      refine .bad hH ?_
      simp only [jq, kz, qU, qx, jp, zV, qe, kI, qD, qP, qz, zT, jz, zW, qE, qp, qu, kP, qz6, qQ, kh, hH, kL, qz5, qz2, qAb, kq, yu, reduceCtorEq, qF, qAu, q9, qA, ze, qk, ke, qAd, Nat.reduceEqDiff, zj, h1, decide_false, zx, zw, qf, qw, qC, qz0, ↓reduceIte, yB, jH, jx, ql, qn, yg, qy, qm, qL, qW, kr, qz7, kK, je, h2, decide_true, qa, zc, kV, qZ, qs, qz3, qz9, qc, qI, qi, qz1, qT, qdp, qr, qd, qK, qg, hm, qcp]
      exact ⟨_, rfl⟩
  intro k
  induction k with
  | zero =>
    intro a deep frm H lo hk ha hda hH hlo
    obtain rfl : a = s.length := by omega
    rw [List.drop_length]
    exact endc deep frm H lo hH hlo
  | succ k ih =>
    intro a deep frm H lo hk ha hda hH hlo
    have hm : min lo H.length = lo := by omega
    have hid : id < H.length := (List.getElem?_eq_some_iff.1 hH).1
    match hL : s.drop a with
    | [] =>
      have : s.length ≤ a := by simpa using hL
      obtain rfl : a = s.length := by omega
      exact endc deep frm H lo hH hlo
    | c :: L =>
      obtain ⟨hget, hdr, hlt⟩ := qf0 hL
      have h1 : ((a : Int) < (s.length : Int)) = True := by rw [eq_iff_iff]; simp; omega
      have hix : ixV (.d (.s s)) (.d (.i .i64 (a : Int))) = some (.d (.i .u8 ((c : Nat) : Int))) := qkJ (by omega) (by simpa using hget)
      have hw1 : wr .i64 ((a : Int) + 1) = ((a + 1 : Nat) : Int) := by rw [jl (by omega) (by omega)]; omega
      have hw2 : wr .i64 ((a : Int) + 2) = ((a + 2 : Nat) : Int) := by rw [jl (by omega) (by omega)]; omega
      have hd1 : wr .i64 ((deep : Int) + 1) = ((deep + 1 : Nat) : Int) := by rw [jl (by omega) (by omega)]; omega
      have hc : c < 256 := hs c (List.mem_of_getElem? hget)
      have hh1 := qfi (t := [40, 42]) hH (by omega)
      have hh2 := qfi (t := [42, 41]) hH (by omega)
      have hi := fun (t : List Nat) => qpu (t := t) hc (H := H)
      have hb := quU hc
      rw [hL] at hh1 hh2
      -- one byte further
      have go1 : ∀ (h0 : (0 < deep ∨ blk c = true)) (p1 : pre [40, 42] (c :: L) = false) (p2 : 0 < deep → pre [42, 41] (c :: L) = false),
          SkRes id s a H lo (sk deep frm (a + 1) L) (yO pg (j5 0 [2, 3] (yi pg (.ptr id 0) (.d (.i .i64 (frm : Nat))) (.d (.i .i64 (deep : Nat))) H lo)) yg) := by
        intro h0 p1 p2
        have hH2 : (zi H id (sc s (a + 1)))[id]? = some (sc s (a + 1)) := yd hH
        have ih' := ih (a + 1) deep frm (zi H id (sc s (a + 1))) (min lo id) (by omega) (by omega) (by omega) hH2 (by simp only [qB]; omega)
        rw [hdr] at ih'
        refine SkRes.step (a2 := a + 1) ?_
        rw [yK]
        rw [p1] at hh1
        by_cases hd : deep = 0
        · subst hd
          have h2 : ((0 : Int) < ((0 : Nat) : Int)) = False := by simp
          have hbk : ((0 : Int) ≤ ixN c [9, 10, 13, 32]) = True := by rw [hb]; exact eq_true (h0.resolve_left (by omega))
          simp only [jq, kz, qU, qAv, qx, jp, zV, qe, kI, qD, qP, qz, zT, jz, zW, qE, qp, qu, kP, qz6, qQ, kh, hH, kL, qz5, qz2, qAb, kq, yu, reduceCtorEq, qF, qAu, q9, qA, ze, qk, ke, qAd, Nat.reduceEqDiff, zj, h1, decide_true, zx, zw, qf, qw, qC, ↓reduceIte, qS, qq, qy, qm, qL, ki, qs, qz3, kK, qz9, qc, qM, qI, qi, qz1, qT, hh1, qr, qd, qK, qg, hm, qW, zc, kV, qZ, qa, qz0, kr, qz7, je, Int.reduceLT, decide_false, kT, zn, zh, zl, kw, kX, j8, qd7, zO, qAr, qe4, kE, hix, hi, z7, hbk, zt, kB, hw1, qN, kW, zq, ky, qz4, qz8, qX, kS, kl, kf, Nat.reduceAdd, Nat.reduceLT, kn, qAc, qAa, kg, kp, qR, ql, qn, jP]
          exact ih'
        · have h2 : ((0 : Int) < ((deep : Nat) : Int)) = True := by rw [eq_iff_iff]; simp; omega
          rw [p2 (by omega)] at hh2
          simp only [jq, kz, qU, qx, jp, zV, qe, kI, qD, qP, qz, zT, jz, zW, qE, qp, qu, kP, qz6, qQ, kh, hH, kL, qz5, qz2, qAb, kq, yu, reduceCtorEq, qF, qAu, q9, qA, ze, qk, ke, qAd, Nat.reduceEqDiff, zj, h1, decide_true, zx, zw, qf, qw, qC, ↓reduceIte, qS, qq, qy, qm, qL, ki, qs, qz3, kK, qz9, qc, qM, qI, qi, qz1, qT, hh1, qr, qd, qK, qg, hm, qW, zc, kV, qZ, qa, qz0, kr, qz7, je, h2, kT, zn, zh, hh2, kw, zt, qd7, zO, qAm, qe4, zl, kX, qbT, kB, hw1, qN, kW, zq, ky, qz4, qz8, qX, kS, kl, kf, Nat.reduceAdd, Nat.reduceLT, kn, qAc, qAa, kg, kp, qR, ql, qn, jP]
          exact ih'
      -- no further
      have stop : ∀ (h0 : deep = 0) (hbk : blk c = false) (p1 : pre [40, 42] (c :: L) = false),
          SkRes id s a H lo (true, a) (yO pg (j5 0 [2, 3] (yi pg (.ptr id 0) (.d (.i .i64 (frm : Nat))) (.d (.i .i64 (deep : Nat))) H lo)) yg) := by
        intro h0 hbk p1
        subst h0
        have h2 : ((0 : Int) < ((0 : Nat) : Int)) = False := by simp
        have hbk : ((0 : Int) ≤ ixN c [9, 10, 13, 32]) = False := by rw [hb, hbk]; simp
        rw [p1] at hh1
        rw [yK]
        refine .stay hH ⟨.ret, ?_⟩
        simp only [reduceCtorEq, jq, kz, qU, qAv, qx, jp, zV, qe, kI, qD, qP, qz, zT, jz, zW, qE, qp, qu, kP, qz6, qQ, kh, hH, kL, qz5, qz2, qAb, kq, yu, qF, qAu, q9, qA, ze, qk, ke, qAd, Nat.reduceEqDiff, zj, h1, decide_true, zx, zw, qf, qw, qC, ↓reduceIte, qS, qq, qy, qm, qL, ki, qs, qz3, kK, qz9, qc, qM, qI, qi, qz1, qT, hh1, qr, qd, qK, qg, hm, qW, zc, kV, qZ, qa, qz0, kr, qz7, je, Int.reduceLT, decide_false, kT, zn, zh, zl, kw, kX, j8, qd7, zO, qAr, qe4, kE, hix, hi, z7, hbk, zt, qO, kG, ko]
        exact ⟨_, by simp, rfl⟩
      match L, hdr, hh1, hh2 with
      | [], hdr, hh1, hh2 =>
        have p1 : pre [40, 42] [c] = false := qrI
        have p2 : pre [42, 41] [c] = false := qrI
        by_cases hd : deep = 0
        · cases hbk : blk c with
          | true => 
            have := go1 (.inr hbk) p1 (fun _ => p2)
            simpa [sk, hd, hbk] using this
          | false =>
            have := stop hd hbk p1
            simpa [sk, hd, hbk] using this
        · have := go1 (.inl (by omega)) p1 (fun _ => p2)
          simpa [sk, hd] using this
      | d :: l, hdr, hh1, hh2 =>
        obtain ⟨_, hdr2, hlt2⟩ := qf0 hdr
        have hH2 : (zi H id (sc s (a + 2)))[id]? = some (sc s (a + 2)) := yd hH
        by_cases c1 : c = 40 ∧ d = 42
        · have ih' := ih (a + 2) (deep + 1) (if deep = 0 then a else frm) (zi H id (sc s (a + 2))) (min lo id) (by omega) (by omega) (by omega) hH2 (by simp only [qB]; omega)
          rw [hdr2] at ih'
          have p1 : pre [40, 42] (c :: d :: l) = true := by rw [qtp]; simpa using c1
          rw [p1] at hh1
          refine SkRes.step (a2 := a + 2) ?_
          rw [yK, sk, if_pos c1]
          by_cases hd : deep = 0
          · have h2 : (((deep : Nat) : Int) = 0) = True := by rw [eq_iff_iff]; simp; omega
            rw [if_pos hd] at ih' ⊢
            simp only [jq, kz, qU, qx, jp, zV, qe, kI, qD, qP, qz, zT, jz, zW, qE, qp, qu, kP, qz6, qQ, kh, hH, kL, qz5, qz2, qAb, kq, yu, reduceCtorEq, qF, qAu, q9, qA, ze, qk, ke, qAd, Nat.reduceEqDiff, zj, h1, decide_true, zx, zw, qf, qw, qC, ↓reduceIte, qS, qq, qy, qm, qL, ki, qs, qz3, kK, qz9, qc, qM, qI, qi, qz1, qT, hh1, qr, qd, qK, qg, hm, qW, zc, kV, qZ, qa, kr, qz7, kj, h2, kB, hd1, hw2, qN, kW, zq, ky, qz4, qz8, qX, kS, kl, kf, Nat.reduceAdd, Nat.reduceLT, kn, qAc, qAa, kg, kp, qR, ql, qn, jP]
            exact ih'
          · have h2 : (((deep : Nat) : Int) = 0) = False := by rw [eq_iff_iff]; simp; omega
            rw [if_neg hd] at ih' ⊢
            simp only [jq, kz, qU, qx, jp, zV, qe, kI, qD, qP, qz, zT, jz, zW, qE, qp, qu, kP, qz6, qQ, kh, hH, kL, qz5, qz2, qAb, kq, yu, reduceCtorEq, qF, qAu, q9, qA, ze, qk, ke, qAd, Nat.reduceEqDiff, zj, h1, decide_true, zx, zw, qf, qw, qC, ↓reduceIte, qS, qq, qy, qm, qL, ki, qs, qz3, kK, qz9, qc, qM, qI, qi, qz1, qT, hh1, qr, qd, qK, qg, hm, qW, zc, kV, qZ, qa, kr, qz7, kj, h2, decide_false, qz0, kB, hd1, hw2, qN, kW, zq, ky, qz4, qz8, qX, kS, kl, kf, Nat.reduceAdd, Nat.reduceLT, kn, qAc, qAa, kg, kp, qR, ql, qn, jP]
            exact ih'
        · have p1 : pre [40, 42] (c :: d :: l) = false := by rw [qtp]; simpa using c1
          by_cases c2 : 0 < deep ∧ c = 42 ∧ d = 41
          · have ih' := ih (a + 2) (deep - 1) frm (zi H id (sc s (a + 2))) (min lo id) (by omega) (by omega) (by omega) hH2 (by simp only [qB]; omega)
            rw [hdr2] at ih'
            have hd2 : wr .i64 ((deep : Int) - 1) = ((deep - 1 : Nat) : Int) := by rw [jl (by omega) (by omega)]; omega
            have p2 : pre [42, 41] (c :: d :: l) = true := by rw [qtp]; simpa using c2.2
            have h2 : ((0 : Int) < ((deep : Nat) : Int)) = True := by rw [eq_iff_iff]; simp; omega
            rw [p1] at hh1
            rw [p2] at hh2
            refine SkRes.step (a2 := a + 2) ?_
            rw [yK, sk, if_neg c1, if_pos c2]
            simp only [jq, kz, qU, qx, jp, zV, qe, kI, qD, qP, qz, zT, jz, zW, qE, qp, qu, kP, qz6, qQ, kh, hH, kL, qz5, qz2, qAb, kq, yu, reduceCtorEq, qF, qAu, q9, qA, ze, qk, ke, qAd, Nat.reduceEqDiff, zj, h1, decide_true, zx, zw, qf, qw, qC, ↓reduceIte, qS, qq, qy, qm, qL, ki, qs, qz3, kK, qz9, qc, qM, qI, qi, qz1, qT, hh1, qr, qd, qK, qg, hm, qW, zc, kV, qZ, qa, qz0, kr, qz7, je, h2, kT, zn, zh, hh2, kw, zt, zk, hd2, kB, hw2, qN, kW, zq, ky, qz4, qz8, qX, kS, kl, kf, Nat.reduceAdd, Nat.reduceLT, kn, qAc, qAa, kg, kp, qR, ql, qn, jP]
            exact ih'
          · have p2 : 0 < deep → pre [42, 41] (c :: d :: l) = false := fun h => by
              rw [qtp]; simp only [decide_eq_false_iff_not]; exact fun h' => c2 ⟨h, h'⟩
            rw [sk, if_neg c1, if_neg c2]
            by_cases c3 : 0 < deep ∨ blk c = true
            · rw [if_pos c3]
              exact go1 c3 p1 p2
            · rw [if_neg c3]
              exact stop (by omega) (by simpa using fun h => c3 (.inr h)) p1
theorem qqM {s : List Nat} (hs : ∀ c ∈ s, c < 256) (hz : s.length ≤ 1000000000000) {id a : Nat} {H : List Obj} (ha : a ≤ s.length) (hH : H[id]? = some (sc s a)) :
    match sk 0 a a (s.drop a) with
    | (true, a') => ∃ sm lo, id ≤ lo ∧ lo ≤ H.length ∧ (a' = a ∨ lo ≤ id) ∧ zC pg 40 [.ptr id 0] H = some ⟨false, sm, .tup [], zi H id (sc s a'), lo⟩
    | (false, p) => ∃ sm lo a', id ≤ lo ∧ lo ≤ H.length ∧ (a' = a ∨ lo ≤ id) ∧ zC pg 40 [.ptr id 0] H = some ⟨true, sm, .ifc 66 (.d (.agg [.i .i64 (p : Nat), .i .i64 30])), zi H id (sc s a'), lo⟩ := by
  have hid : id < H.length := (List.getElem?_eq_some_iff.1 hH).1
  have hl := qp7 hs hz (s.length - a) a 0 a H H.length (qAe _) ha (by omega) hH (qAe _)
  rw [qY (fn := qbc) rfl rfl]
  generalize hr : sk 0 a a (s.drop a) = r at hl
  obtain ⟨b, p⟩ := r
  have hz0 : ((0 : Nat) : Int) = 0 := rfl
  rw [hz0] at hl
  cases b with
  | true =>
    obtain ⟨x, e, lo', h1, h2, h3, h4, h5⟩ := hl
    obtain ⟨sm, hlv⟩ := qfc (pan := false) (v := .tup []) (e := e) (lo := lo') (o := sc s p) rfl rfl (fun _ => rfl) (by
      rcases h3 with h | h
      · left; rw [h]; exact qal hH
      · right; exact h) hid
    refine ⟨sm, lo', by omega, by omega, h3, ?_⟩
    simp only [qbc, qj, qz6, qo, qx, qy, qm, qe, kI, qD, qP, qz, qL, ki, qE, qp, qu, kP, qQ, kh, hH, kL, qz5, qz2, qAb, kq, qW, qA, kK, qK, qa, qf, qq, jP, reduceCtorEq, qF, kz, Nat.reduceEqDiff, qU]
    rw [h5]
    rcases h1 with rfl | rfl
    · simp only [qh0, qh, qmS]; exact hlv
    · simp only [qJ, qh, qmS]; exact hlv
  | false =>
    obtain ⟨e, lo', a', h1, h2, h3, h5⟩ := hl
    obtain ⟨sm, hlv⟩ := qfc (pan := true) (v := .ifc 66 (.d (.agg [.i .i64 (p : Nat), .i .i64 30]))) (e := e) (lo := lo') (o := sc s a') rfl rfl (fun _ => rfl) (by
      rcases h3 with h | h
      · left; rw [h]; exact qal hH
      · right; exact h) hid
    refine ⟨sm, lo', a', by omega, by omega, h3, ?_⟩
    simp only [qbc, qj, qz6, qo, qx, qy, qm, qe, kI, qD, qP, qz, qL, ki, qE, qp, qu, kP, qQ, kh, hH, kL, qz5, qz2, qAb, kq, qW, qA, kK, qK, qa, qf, qq, jP, reduceCtorEq, qF, kz, Nat.reduceEqDiff, qU]
    rw [h5]
    simp only [qbV]; exact hlv
end W

set_option linter.unusedSimpArgs false
set_option linter.unusedVariables false
namespace W
open Go (IntKind BinOp UnOp)
set_option maxRecDepth 20000
theorem qoo {L : List (List Nat)} {t : List Nat} (hz : L.length ≤ 1000000000000) {H : List Obj} :
    ∀ (k i : Nat), L.length - i = k → i ≤ L.length → (∀ j, j < i → L[j]? ≠ some t) →
      ∃ e x r, (x = .nrm ∨ x = .ret) ∧ (decide ((0 : Int) ≤ r) = decide (t ∈ L)) ∧ get 4 e = .d (.i .i64 r) ∧
        yO pg (j5 0 [] (yk pg (.d (slD D.s L)) (.d (.s t)) (.d (.i .i64 (L.length : Nat))) (.d (.i .i64 (i : Nat))) H H.length)) yh = some (x, ⟨e, H, H.length⟩) := by
  intro k
  induction k with
  | zero =>
    intro i hk hi hno
    obtain rfl : i = L.length := by omega
    have h1 : ((L.length : Int) < (L.length : Int)) = False := by simp
    have hnm : t ∉ L := by
      intro h
      obtain ⟨j, hj⟩ := List.getElem?_of_mem h
      have : j < L.length := (List.getElem?_eq_some_iff.1 hj).1
      exact hno j this hj
    rw [qaT]
    simp only [jE, qU, qx, qy, qm, qk, ke, qAd, kI, reduceCtorEq, qF, Nat.reduceEqDiff, qD, qA, zj, h1, decide_false, qp, qL, qW, qa, qf, qw, qC, qz0, ↓reduceIte, yB, jH, jx, qn, yh, Int.reduceNeg, qe, kK, qK, qO]
    exact ⟨_, _, -1, .inr rfl, by simp [hnm], rfl, rfl⟩
  | succ k ih =>
    intro i hk hi hno
    have h1 : ((i : Int) < (L.length : Int)) = True := by rw [eq_iff_iff]; simp; omega
    have hlt : i < L.length := by omega
    have hia : iaV (.d (slD D.s L)) (.d (.i .i64 (i : Int))) 1 none = some (.cp (.s L[i])) := qhc (fun _ => rfl) (by omega) (by simp)
    have hw : wr .i64 ((i : Int) + 1) = ((i + 1 : Nat) : Int) := by rw [jl (by omega) (by omega)]; omega
    rw [qaT]
    by_cases he : t = L[i]
    · have h2 : (t = L[i]) = True := by simp [he]
      simp only [jE, qU, qx, qy, qm, qk, ke, qAd, kI, reduceCtorEq, qF, Nat.reduceEqDiff, qD, qA, zj, h1, decide_true, qp, qL, qW, qa, qf, qw, qC, ↓reduceIte, qS, qq, qe, qz, kH, hia, yQ, qQ, zX, zN, qbN, h2, qO, kG, ko, yh, Int.reduceNeg]
      exact ⟨_, _, (i : Int), .inr rfl, by rw [he]; simp, rfl, rfl⟩
    · have h2 : (t = L[i]) = False := by simp [he]
      have ih' := ih (i + 1) (by omega) (by omega) (fun j hj => by
        rcases Nat.lt_or_ge j i with h | h
        · exact hno j h
        · obtain rfl : j = i := by omega
          rw [qAt hlt]
          intro h'; exact he (Option.some.inj h').symm)
      simp only [jE, qU, qx, qy, qm, qk, ke, qAd, kI, reduceCtorEq, qF, Nat.reduceEqDiff, qD, qA, zj, h1, decide_true, qp, qL, qW, qa, qf, qw, qC, ↓reduceIte, qS, qq, qe, qz, kH, hia, yQ, qQ, zX, zN, qbN, h2, decide_false, qz0, qR, ql, qn, kr, qz7, kK, kB, hw, qaU]
      exact ih'
theorem qol {L : List (List Nat)} {t : List Nat} (hz : L.length ≤ 1000000000000) {H : List Obj} :
    ∃ r : Int, decide ((0 : Int) ≤ r) = decide (t ∈ L) ∧ zC pg 74 [.d (slD D.s L), .d (.s t)] H = some ⟨false, true, .d (.i .i64 r), H, H.length⟩ := by
  obtain ⟨e, x, r, hx, h1, h2, h3⟩ := qoo (t := t) hz (H := H) L.length 0 rfl (by omega) (by simp)
  refine ⟨r, h1, ?_⟩
  rw [qY (fn := yw) rfl rfl]
  have hz0 : ((0 : Nat) : Int) = 0 := rfl
  rw [hz0] at h3
  simp only [yw, qj, qz6, Nat.reduceAdd, qo, qx, qy, qm, qe, kK, qK, qL, qW, qa, qf, kI, reduceCtorEq, qF, qD, qA, qz, jt, qeW, qp, qq, qaU, qU, Nat.reduceEqDiff]
  rw [h3]
  rcases hx with rfl | rfl
  all_goals simp only [qh0, qb, qH, h2, kv, qh, qt, qV, qI, jM, yp, kM, qJ]
  all_goals rfl
theorem qkZ {t : List Nat} {H : List Obj} : zC pg 62 [.d (.sl (KW.map D.s)), .d (.s t)] H = some ⟨false, true, .d (.b (decide (t ∈ KW))), H, H.length⟩ := by
  obtain ⟨r, h1, h2⟩ := qol (L := KW) (t := t) (by decide) (H := H)
  have hk : slD D.s KW = .sl (KW.map D.s) := rfl
  rw [hk] at h2
  rw [qY (fn := yj) rfl rfl]
  simp only [yj, qj, qz6, Nat.reduceAdd, qo, qx, qy, qm, qe, kK, qK, qL, qW, qa, qf, zc, reduceCtorEq, qF, qD, kV, qZ, Nat.reduceEqDiff, qs, qz3, qz9, qc, qI, qi, qz1, qT, h2, qr, qd, qg, qAs, qk, ke, kr, qz7, kI, qA, z7, h1, qp, qz, qO, qJ, qb, qH, kv, qh, qt, qV, jM, yp, kM]
  all_goals rfl
def tok (k p e : Int) (t : List Nat) (n : Int) : D := .agg [.i .i64 k, .i .i64 p, .i .i64 e, .s t, .i .i32 n]
inductive Sy where
  | ok (k : Int) (t : List Nat) (n : Int) (a : Nat)
  | bad (e : Int)
def MRes (id : Nat) (s : List Nat) (a : Nat) (H : List Obj) (r : Sy) (X : Option Cr) : Prop :=
  match r with
  | .ok k t n a' => ∃ sm lo, id ≤ lo ∧ lo ≤ H.length ∧ (a' = a ∨ lo ≤ id) ∧ X = some ⟨false, sm, .d (tok k 0 0 t n), zi H id (sc s a'), lo⟩
  | .bad e => ∃ sm lo a', id ≤ lo ∧ lo ≤ H.length ∧ (a' = a ∨ lo ≤ id) ∧ X = some ⟨true, sm, .ifc 66 (.d (.agg [.i .i64 (a : Nat), .i .i64 e])), zi H id (sc s a'), lo⟩
theorem MRes.good {id : Nat} {s : List Nat} {a a' : Nat} {H : List Obj} {k n : Int} {t : List Nat} {e : Env} {lo : Nat} {X : Option Cr} (hid : id < H.length) (hH : H[id]? = some (sc s a)) (h1 : id ≤ lo) (h2 : lo ≤ H.length) (h3 : a' = a ∨ lo ≤ id)
    (h : X = leave H false (.d (tok k 0 0 t n)) ⟨e, zi H id (sc s a'), lo⟩) : MRes id s a H (.ok k t n a') X := by
  obtain ⟨sm, hlv⟩ := qfc (pan := false) (v := .d (tok k 0 0 t n)) (e := e) (lo := lo) (o := sc s a') rfl rfl (fun _ => rfl) (by
      rcases h3 with h | h
      · left; rw [h]; exact qal hH
      · right; exact h) hid
  exact ⟨sm, lo, h1, h2, h3, h.trans hlv⟩
theorem MRes.worse {id : Nat} {s : List Nat} {a a' : Nat} {H : List Obj} {x : Int} {e : Env} {lo : Nat} {X : Option Cr} (hid : id < H.length) (hH : H[id]? = some (sc s a)) (h1 : id ≤ lo) (h2 : lo ≤ H.length) (h3 : a' = a ∨ lo ≤ id)
    (h : X = leave H true (.ifc 66 (.d (.agg [.i .i64 (a : Nat), .i .i64 x]))) ⟨e, zi H id (sc s a'), lo⟩) : MRes id s a H (.bad x) X := by
  obtain ⟨sm, hlv⟩ := qfc (pan := true) (v := .ifc 66 (.d (.agg [.i .i64 (a : Nat), .i .i64 x]))) (e := e) (lo := lo) (o := sc s a') rfl rfl (fun _ => rfl) (by
      rcases h3 with h | h
      · left; rw [h]; exact qal hH
      · right; exact h) hid
  exact ⟨sm, lo, a', h1, h2, h3, h.trans hlv⟩
def qiq (s : List Nat) (a : Nat) : Sy :=
  if 32 < run cNm (s.drop a) then .bad 34
  else if (s.drop a).take (run cNm (s.drop a)) ∈ KW then .ok 6 ((s.drop a).take (run cNm (s.drop a))) 0 (a + run cNm (s.drop a))
  else .ok 1 ((s.drop a).take (run cNm (s.drop a))) 0 (a + run cNm (s.drop a))
theorem qqb {s : List Nat} (hz : s.length ≤ 1000000000000) {id a : Nat} {H : List Obj} (ha : a ≤ s.length) (hH : H[id]? = some (sc s a)) : MRes id s a H (qiq s a) (zC pg 42 [.ptr id 0] H) := by
  have hid : id < H.length := (List.getElem?_eq_some_iff.1 hH).1
  obtain ⟨sm, lo, g1, g2, g3, hw⟩ := qhy (F := 61) (P := cNm) (fun c H => qn9) hz ha hH
  have hle := qdD cNm (s.drop a)
  rw [qY (fn := qat) rfl rfl]
  have hm1 : min H.length lo = lo := by omega
  have hm2 : min lo H.length = lo := by omega
  have hlen : ((s.drop a).take (run cNm (s.drop a))).length = run cNm (s.drop a) := by simp only [List.length_take]; omega
  have hc := fun (H : List Obj) => qkZ (t := (s.drop a).take (run cNm (s.drop a))) (H := H)
  have g3' : a + run cNm (s.drop a) = a ∨ lo ≤ id := by omega
  unfold qiq
  by_cases h1 : 32 < run cNm (s.drop a)
  · have e1 : ((32 : Int) < ((run cNm (s.drop a) : Nat) : Int)) = True := by rw [eq_iff_iff]; simp; omega
    rw [if_pos h1]
    refine MRes.worse hid hH g1 g2 g3' ?_ (e := ?_)
    rotate_left
    · simp only [qat, qj, qz6, qo, qx, qy, qm, kx, qz3, qz9, qL, zB, kF, jn, kN, qa, qf, qe, kI, reduceCtorEq, qF, qD, qP, qz, ki, qE, qp, qu, kP, qQ, kh, hH, kL, qz5, qz2, qAb, kq, qW, qA, zc, zH, qZ, qs, qjp, qc, qM, qbJ, zY, qz1, qi, qT, hw, qr, qd, qdh, qg, hm1, kV, qq, q9, ze, hlen, qk, ke, kr, qz7, kK, je, e1, decide_true, qw, qC, ↓reduceIte, Nat.reduceEqDiff, qI, qdp, qB, qK, hm2, qcp, qcI, qbn, qbV]
      rfl
  · have e1 : ((32 : Int) < ((run cNm (s.drop a) : Nat) : Int)) = False := by rw [eq_iff_iff]; simp; omega
    rw [if_neg h1]
    by_cases h2 : (s.drop a).take (run cNm (s.drop a)) ∈ KW
    · rw [if_pos h2]
      refine MRes.good hid hH g1 g2 g3' ?_ (e := ?_)
      rotate_left
      · simp only [qat, qj, qz6, qo, qx, qy, qm, kx, qz3, qz9, qL, zB, kF, jn, kN, qa, qf, qe, kI, reduceCtorEq, qF, qD, qP, qz, ki, qE, qp, qu, kP, qQ, kh, hH, kL, qz5, qz2, qAb, kq, qW, qA, zc, zH, qZ, qs, qjp, qc, qM, qbJ, zY, qz1, qi, qT, hw, qr, qd, qdh, qg, hm1, kV, qq, q9, ze, hlen, qk, ke, kr, qz7, kK, je, e1, decide_false, qw, qC, qz0, ↓reduceIte, qpc, qB, hm2, Nat.reduceEqDiff, qI, hc, h2, decide_true, zf, zq, ky, kS, qz4, qz8, Nat.reduceAdd, Nat.reduceLT, jO, qAa, jg, qAc, zF, zG, zz, jm, zy, kY, zg, qN, zp, zo, zm, qX, kl, kZ, kO, kU, kp, qO, kG, ko, qJ, qb, kQ, zQ, Nat.reduceLeDiff, jA, qAn, qAi, qAp, qh, qt, qV]
        rfl
    · rw [if_neg h2]
      refine MRes.good hid hH g1 g2 g3' ?_ (e := ?_)
      rotate_left
      · simp only [qat, qj, qz6, qo, qx, qy, qm, kx, qz3, qz9, qL, zB, kF, jn, kN, qa, qf, qe, kI, reduceCtorEq, qF, qD, qP, qz, ki, qE, qp, qu, kP, qQ, kh, hH, kL, qz5, qz2, qAb, kq, qW, qA, zc, zH, qZ, qs, qjp, qc, qM, qbJ, zY, qz1, qi, qT, hw, qr, qd, qdh, qg, hm1, kV, qq, q9, ze, hlen, qk, ke, kr, qz7, kK, je, e1, decide_false, qw, qC, qz0, ↓reduceIte, qpc, qB, hm2, Nat.reduceEqDiff, qI, hc, h2, qS, qR, ql, za, qU, qn, zf, zq, ky, kS, qz4, qz8, Nat.reduceAdd, Nat.reduceLT, jO, qAa, jg, qAc, zF, zG, zz, jm, zy, kY, zg, qN, zp, zo, zm, qX, kl, kZ, kO, kU, kp, qO, qJ, qb, kQ, zQ, Nat.reduceLeDiff, jA, qAn, qAi, qAp, qh, qt, qV]
        rfl
end W

set_option linter.unusedSimpArgs false
set_option linter.unusedVariables false
namespace W
open Go (IntKind BinOp UnOp)
set_option maxRecDepth 20000
def dg (c : Nat) : Nat := if c ≤ 57 then c - 48 else c - 55
def pu (b mx : Nat) : Nat → List Nat → Option Nat
  | n, [] => some n
  | n, c :: l => if b ≤ dg c then none else if mx < n * b + dg c then none else pu b mx (n * b + dg c) l
theorem qpE {c : Nat} (h1 : 65 ≤ c) (h2 : c ≤ 70) {H : List Obj} : zC pg 85 [.d (.i .u8 (c : Nat))] H = some ⟨false, true, .d (.i .u8 ((c + 32 : Nat) : Int)), H, H.length⟩ := by
  rw [qY (fn := qaG) rfl rfl]
  have : c = 65 ∨ c = 66 ∨ c = 67 ∨ c = 68 ∨ c = 69 ∨ c = 70 := by omega
  rcases this with rfl | rfl | rfl | rfl | rfl | rfl
  all_goals simp only [qaG, qAv, qj, qz6, qo, qx, qy, qm, qe, kK, qK, qL, qW, qa, qf, kI, reduceCtorEq, qF, qD, qA, qz, qk, ke, kr, qz7, qvg, qp, qO, qJ, qb, qH, kv, qh, qt, qV, qI, jM, yp, kM, Nat.reduceAdd]
  all_goals rfl
def qlb (H : List Obj) (r : Option Nat) (X : Option (Ex × St)) : Prop :=
  match r with
  | some u => ∃ e, get 6 e = .d (.i .u64 (u : Nat)) ∧ get 7 e = .d .ni ∧ X = some (.ret, ⟨e, H, H.length⟩)
  | none => ∃ e z er, (er = 1 ∨ er = 2) ∧ get 6 e = .d (.i .u64 z) ∧ get 7 e = .ifc 110 (.d (.i .i64 er)) ∧ X = some (.ret, ⟨e, H, H.length⟩)
theorem qtv {s s0 : List Nat} (hs : ∀ c ∈ s, cHx c = true) (hz : s.length ≤ 1000000000000) {b mx ct : Nat} (hb : b = 10 ∨ b = 16) (hmx : mx ≤ 4294967295) (hct : mx < ct) {H : List Obj} :
    ∀ (k i n : Nat), s.length - i = k → i ≤ s.length → n ≤ mx →
      qlb H (pu b mx n (s.drop i)) (yO pg (j5 3 [9, 12, 13] (jU pg (.d (.i .i64 (b : Nat))) (.d (.b false)) (.d (.s s0)) (.d (.i .u64 (ct : Nat))) (.d (.i .u64 (mx : Nat))) (.d (.b false)) (.d (.i .u64 (n : Nat))) (slV e8 s) (.d (.i .i64 (s.length : Nat))) (.d (.i .i64 (i : Nat))) H H.length)) yx) := by
  intro k
  induction k with
  | zero =>
    intro i n hk hi hn
    obtain rfl : i = s.length := by omega
    have h1 : ((s.length : Int) < (s.length : Int)) = False := by simp
    rw [List.drop_length, qbA]
    simp only [qlb, pu, zK, qU, yM, qx, qy, qm, qk, ke, qAd, kI, Nat.reduceEqDiff, qF, qD, qA, zj, h1, decide_false, qp, qL, qW, qa, qf, qw, qC, qz0, ↓reduceIte, yB, jH, jx, ql, qn, yx, qe, qz, kT, zn, zh, zl, kw, kX, kK, j8, qS, qK, qO]
    exact ⟨_, rfl, rfl, rfl⟩
  | succ k ih =>
    intro i n hk hi hn
    have h1 : ((i : Int) < (s.length : Int)) = True := by rw [eq_iff_iff]; simp; omega
    have hlt : i < s.length := by omega
    obtain ⟨c, hget⟩ : ∃ c, s[i]? = some c := ⟨s[i], by simp⟩
    have hdr : s.drop i = c :: s.drop (i + 1) := by
      rw [yN hlt]
      congr 1
      have := qAt hlt
      rw [this] at hget
      exact Option.some.inj hget
    have hcx := hs c (List.mem_of_getElem? hget)
    have hcr : (48 ≤ c ∧ c ≤ 57) ∨ (65 ≤ c ∧ c ≤ 70) := by
      simp only [cHx, cDg, Bool.or_eq_true, qAf, decide_eq_true_eq] at hcx
      exact hcx
    have hia : iaV (.d (slD e8 s)) (.d (.i .i64 (i : Int))) 1 none = some (.cp (e8 c)) := qhc (fun _ => rfl) (by omega) (by simpa using hget)
    have hw : wr .i64 ((i : Int) + 1) = ((i + 1 : Nat) : Int) := by rw [jl (by omega) (by omega)]; omega
    have h95 : ((c : Int) = 95) = False := by rw [eq_iff_iff]; simp; omega
    have hd : dg c < 16 := by unfold dg; split <;> omega
    have hb8 : wr .u8 ((b : Nat) : Int) = (b : Int) := qj7 (by omega) (by omega)
    have hb64 : wr .u64 ((b : Nat) : Int) = (b : Int) := qfV (by omega) (by omega)
    have hd64 : wr .u64 ((dg c : Nat) : Int) = (dg c : Int) := qfV (by omega) (by omega)
    have hnb : n * b ≤ 4294967295 * 16 := Nat.mul_le_mul (by omega) (by omega)
    have hm64 : wr .u64 ((n : Int) * (b : Int)) = ((n * b : Nat) : Int) := by
      have e : ((n : Int) * (b : Int)) = ((n * b : Nat) : Int) := by push_cast; rfl
      rw [e]
      exact qfV (by omega) (by omega)
    have ha64 : wr .u64 (((n * b : Nat) : Int) + (dg c : Int)) = ((n * b + dg c : Nat) : Int) := by rw [qfV (by omega) (by omega)]; push_cast; rfl
    have hcut : ((ct : Int) ≤ (n : Int)) = False := by rw [eq_iff_iff]; simp; omega
    have hnn : n ≤ n * b := Nat.le_mul_of_pos_right n (by omega)
    have hlt2 : (((n * b + dg c : Nat) : Int) < ((n * b : Nat) : Int)) = False := by rw [eq_iff_iff]; simp; omega
    rw [hdr, qbA, pu]
    rcases hcr with ⟨g1, g2⟩ | ⟨g1, g2⟩
    · have e1 : ((48 : Int) ≤ (c : Int)) = True := by rw [eq_iff_iff]; simp; omega
      have e2 : ((c : Int) ≤ 57) = True := by rw [eq_iff_iff]; simp; omega
      have e3 : wr .u8 ((c : Int) - 48) = (dg c : Int) := by rw [qj7 (by omega) (by omega)]; simp only [dg, g2, if_true]; omega
      by_cases q1 : b ≤ dg c
      · have f1 : ((b : Int) ≤ (dg c : Int)) = True := by rw [eq_iff_iff]; simp; omega
        rw [if_pos q1]
        simp only [qlb, zK, qU, yM, qx, qy, qm, qk, ke, qAd, kI, Nat.reduceEqDiff, qF, qD, qA, zj, h1, decide_true, qp, qL, qW, qa, qf, qw, qC, ↓reduceIte, qS, qq, kH, qbG, hia, e8, yQ, qQ, zX, qco, qe, qz, kK, qK, kr, qz7, kj, h95, decide_false, kT, zn, zh, qz0, zl, kw, kX, j8, qAl, zr, e1, e2, zt, zk, e3, qR, ql, qn, jI, hb8, z7, f1, qet, qgk, qei, qcE, qO, ko, kG]
        exact ⟨_, 0, 2, .inr rfl, rfl, rfl, rfl⟩
      · have f1 : ((b : Int) ≤ (dg c : Int)) = False := by rw [eq_iff_iff]; simp; omega
        rw [if_neg q1]
        by_cases q2 : mx < n * b + dg c
        · have f2 : ((mx : Int) < ((n * b + dg c : Nat) : Int)) = True := by rw [eq_iff_iff]; simp; omega
          rw [if_pos q2]
          simp only [qlb, zK, qU, yM, qx, qy, qm, qk, ke, qAd, kI, Nat.reduceEqDiff, qF, qD, qA, zj, h1, decide_true, qp, qL, qW, qa, qf, qw, qC, ↓reduceIte, qS, qq, kH, qbG, hia, e8, yQ, qQ, zX, qco, qe, qz, kK, qK, kr, qz7, kj, h95, decide_false, kT, zn, zh, qz0, zl, kw, kX, j8, qAl, zr, e1, e2, zt, zk, e3, qR, ql, qn, jI, hb8, z7, f1, hcut, hb64, qg2, hm64, hd64, kB, ha64, hlt2, zO, qAr, je, f2, qet, qgk, qei, qcE, qO, ko, kG]
          exact ⟨_, _, 1, .inl rfl, rfl, rfl, rfl⟩
        · have f2 : ((mx : Int) < ((n * b + dg c : Nat) : Int)) = False := by rw [eq_iff_iff]; simp; omega
          rw [if_neg q2]
          have ih' := ih (i + 1) (n * b + dg c) (by omega) (by omega) (by omega)
          simp only [zK, qU, yM, qx, qy, qm, qk, ke, qAd, kI, Nat.reduceEqDiff, qF, qD, qA, zj, h1, decide_true, qp, qL, qW, qa, qf, qw, qC, ↓reduceIte, qS, qq, kH, qbG, hia, e8, yQ, qQ, zX, qco, qe, qz, kK, qK, kr, qz7, kj, h95, decide_false, kT, zn, zh, qz0, zl, kw, kX, j8, qAl, zr, e1, e2, zt, zk, e3, qR, ql, qn, jI, hb8, z7, f1, hcut, hb64, qg2, hm64, hd64, kB, ha64, hlt2, zO, qAr, je, f2, hw, jG]
          exact ih'
    · have e1 : ((48 : Int) ≤ (c : Int)) = True := by rw [eq_iff_iff]; simp; omega
      have e2 : ((c : Int) ≤ 57) = False := by rw [eq_iff_iff]; simp; omega
      have lw := fun (H : List Obj) => qpE g1 g2 (H := H)
      have e4 : ((97 : Int) ≤ ((c + 32 : Nat) : Int)) = True := by rw [eq_iff_iff]; simp; omega
      have e5 : (((c + 32 : Nat) : Int) ≤ 122) = True := by rw [eq_iff_iff]; simp; omega
      have e6 : wr .u8 (((c + 32 : Nat) : Int) - 97) = ((c - 65 : Nat) : Int) := by rw [qj7 (by omega) (by omega)]; omega
      have e3 : wr .u8 (((c - 65 : Nat) : Int) + 10) = (dg c : Int) := by
        have : ¬ c ≤ 57 := by omega
        rw [qj7 (by omega) (by omega)]; simp only [dg, this, if_false]; omega
      by_cases q1 : b ≤ dg c
      · have f1 : ((b : Int) ≤ (dg c : Int)) = True := by rw [eq_iff_iff]; simp; omega
        rw [if_pos q1]
        simp only [qlb, zK, qU, yM, qx, qy, qm, qk, ke, qAd, kI, Nat.reduceEqDiff, qF, qD, qA, zj, h1, decide_true, qp, qL, qW, qa, qf, qw, qC, ↓reduceIte, qS, qq, kH, qbG, hia, e8, yQ, qQ, zX, qco, qe, qz, kK, qK, kr, qz7, kj, h95, decide_false, kT, zn, zh, qz0, zl, kw, kX, j8, qAl, zr, e1, e2, zt, qs, qz3, qz9, qc, qI, qi, qz1, qT, lw, qr, qd, qg, qAs, e4, e5, zc, kV, qZ, zk, e6, kB, e3, qR, ql, qn, jI, hb8, z7, f1, qet, qgk, qei, qcE, qO, ko, kG]
        exact ⟨_, 0, 2, .inr rfl, rfl, rfl, rfl⟩
      · have f1 : ((b : Int) ≤ (dg c : Int)) = False := by rw [eq_iff_iff]; simp; omega
        rw [if_neg q1]
        by_cases q2 : mx < n * b + dg c
        · have f2 : ((mx : Int) < ((n * b + dg c : Nat) : Int)) = True := by rw [eq_iff_iff]; simp; omega
          rw [if_pos q2]
          simp only [qlb, zK, qU, yM, qx, qy, qm, qk, ke, qAd, kI, Nat.reduceEqDiff, qF, qD, qA, zj, h1, decide_true, qp, qL, qW, qa, qf, qw, qC, ↓reduceIte, qS, qq, kH, qbG, hia, e8, yQ, qQ, zX, qco, qe, qz, kK, qK, kr, qz7, kj, h95, decide_false, kT, zn, zh, qz0, zl, kw, kX, j8, qAl, zr, e1, e2, zt, qs, qz3, qz9, qc, qI, qi, qz1, qT, lw, qr, qd, qg, qAs, e4, e5, zc, kV, qZ, zk, e6, kB, e3, qR, ql, qn, jI, hb8, z7, f1, hcut, hb64, qg2, hm64, hd64, ha64, hlt2, zO, qAr, je, f2, qet, qgk, qei, qcE, qO, ko, kG]
          exact ⟨_, _, 1, .inl rfl, rfl, rfl, rfl⟩
        · have f2 : ((mx : Int) < ((n * b + dg c : Nat) : Int)) = False := by rw [eq_iff_iff]; simp; omega
          rw [if_neg q2]
          have ih' := ih (i + 1) (n * b + dg c) (by omega) (by omega) (by omega)
          simp only [zK, qU, yM, qx, qy, qm, qk, ke, qAd, kI, Nat.reduceEqDiff, qF, qD, qA, zj, h1, decide_true, qp, qL, qW, qa, qf, qw, qC, ↓reduceIte, qS, qq, kH, qbG, hia, e8, yQ, qQ, zX, qco, qe, qz, kK, qK, kr, qz7, kj, h95, decide_false, kT, zn, zh, qz0, zl, kw, kX, j8, qAl, zr, e1, e2, zt, qs, qz3, qz9, qc, qI, qi, qz1, qT, lw, qr, qd, qg, qAs, e4, e5, zc, kV, qZ, zk, e6, kB, e3, qR, ql, qn, jI, hb8, z7, f1, hcut, hb64, qg2, hm64, hd64, ha64, hlt2, zO, qAr, je, f2, hw, jG]
          exact ih'
theorem qri {c : Nat} {l : List Nat} : (c :: l = ([] : List Nat)) = False := by simp
theorem qj4 {c : Nat} {l : List Nat} : V.osl ((D.i .u8 (c : Nat)) :: l.map fun n : Nat => D.i .u8 n) = slV e8 (c :: l) := rfl
def PuC (H : List Obj) (r : Option Nat) (X : Option Cr) : Prop :=
  match r with
  | some u => X = some ⟨false, true, .tup [.d (.i .u64 (u : Nat)), .d .ni], H, H.length⟩
  | none => ∃ z er, (er = 1 ∨ er = 2) ∧ X = some ⟨false, true, .tup [.d (.i .u64 z), .ifc 110 (.d (.i .i64 er))], H, H.length⟩
theorem qs4 {s : List Nat} (hs : ∀ c ∈ s, cHx c = true) (hne : s ≠ []) (hz : s.length ≤ 1000000000000) {b bits mx : Nat} (hb : b = 10 ∧ bits = 31 ∧ mx = 2147483647 ∨ b = 16 ∧ bits = 32 ∧ mx = 4294967295 ∨ b = 16 ∧ bits = 8 ∧ mx = 255) {H : List Obj} :
    PuC H (pu b mx 0 s) (zC pg 75 [.d (.s s), .d (.i .i64 (b : Nat)), .d (.i .i64 (bits : Nat))] H) := by
  obtain ⟨c, l, rfl⟩ : ∃ c l, s = c :: l := by
    cases s with
    | nil => exact absurd rfl hne
    | cons c l => exact ⟨c, l, rfl⟩
  rw [qY (fn := jQ) rfl rfl]
  have key : ∀ (ct : Nat) X, mx < ct → (b = 10 ∨ b = 16) → mx ≤ 4294967295 → X = qhi H false [.t 6, .t 7] (yO pg (j5 3 [9, 12, 13] (jU pg (.d (.i .i64 (b : Nat))) (.d (.b false)) (.d (.s (c :: l))) (.d (.i .u64 (ct : Nat))) (.d (.i .u64 (mx : Nat))) (.d (.b false)) (.d (.i .u64 0)) (slV e8 (c :: l)) (.d (.i .i64 ((c :: l).length : Nat))) (.d (.i .i64 0)) H H.length)) yx) → PuC H (pu b mx 0 (c :: l)) X := by
    intro ct X hct hb hmx hX
    have hl := qtv (s0 := c :: l) hs hz hb hmx hct (H := H) (c :: l).length 0 0 (by omega) (by omega) (by omega)
    have hz0 : ((0 : Nat) : Int) = 0 := rfl
    rw [qAn, hz0] at hl
    subst hX
    generalize pu b mx 0 (c :: l) = r at hl
    cases r with
    | some u =>
      obtain ⟨e, h1, h2, h3⟩ := hl
      rw [h3]
      simp only [PuC, qJ, qb, qH, h1, kv, h2, qh, qt, z8, zE, jf, qcy, zY, qz1, jN, zU, jM, jo, Nat.max_self, zJ, kM]
      all_goals rfl
    | none =>
      obtain ⟨e, z, er, h0, h1, h2, h3⟩ := hl
      rw [h3]
      refine ⟨z, er, h0, ?_⟩
      simp only [qJ, qb, qH, h1, kv, h2, qmL, qh, qt, z8, zE, jf, qcy, qsE, zY, qz1, jN, zU, jM, qo7, jo, Nat.max_self, zJ, kM]
      all_goals rfl
  rcases hb with ⟨rfl, rfl, rfl⟩ | ⟨rfl, rfl, rfl⟩ | ⟨rfl, rfl, rfl⟩
  · refine key 1844674407370955162 _ (by omega) (by omega) (by omega) ?_
    have w1 : qa3 .shl .num true (.d (.i .u64 1)) (.d (.i .u64 (wr .u64 31))) = some (.d (.i .u64 2147483648)) := rfl
    have w2 : wr .u64 (2147483648 - 1) = 2147483647 := rfl
    simp only [jQ, qAv, qj, qz6, Nat.reduceAdd, qo, qx, qy, qm, qe, kK, qK, qL, qW, qa, qf, kI, reduceCtorEq, qF, qD, qA, qz, qk, ke, kr, qz7, qbN, qri, decide_false, qp, qw, qC, qz0, ↓reduceIte, qS, Nat.reduceEqDiff, kj, Int.reduceEq, qq, qAl, zr, Int.reduceLE, decide_true, kT, zn, zh, kw, zt, qR, ql, qU, qn, zj, Int.reduceLT, zO, qAr, je, jI, w1, zk, Int.reduceSub, qgH, qz3, qiA, qj4, qfp, jt, qbG, qeW, qz4, jG, yM]
    all_goals rfl
  · refine key 1152921504606846976 _ (by omega) (by omega) (by omega) ?_
    have w1 : qa3 .shl .num true (.d (.i .u64 1)) (.d (.i .u64 (wr .u64 32))) = some (.d (.i .u64 4294967296)) := rfl
    have w2 : wr .u64 (4294967296 - 1) = 4294967295 := rfl
    simp only [jQ, qAv, qj, qz6, Nat.reduceAdd, qo, qx, qy, qm, qe, kK, qK, qL, qW, qa, qf, kI, reduceCtorEq, qF, qD, qA, qz, qk, ke, kr, qz7, qbN, qri, decide_false, qp, qw, qC, qz0, ↓reduceIte, qS, Nat.reduceEqDiff, kj, Int.reduceEq, qq, qAl, zr, Int.reduceLE, decide_true, kT, zn, zh, kw, zt, qR, ql, qU, qn, zj, Int.reduceLT, zO, qAr, je, jI, w1, zk, Int.reduceSub, qgH, qz3, qiA, qj4, qfp, jt, qbG, qeW, qz4, jG, yM]
    all_goals rfl
  · refine key 1152921504606846976 _ (by omega) (by omega) (by omega) ?_
    have w1 : qa3 .shl .num true (.d (.i .u64 1)) (.d (.i .u64 (wr .u64 8))) = some (.d (.i .u64 256)) := rfl
    have w2 : wr .u64 (256 - 1) = 255 := rfl
    simp only [jQ, qAv, qj, qz6, Nat.reduceAdd, qo, qx, qy, qm, qe, kK, qK, qL, qW, qa, qf, kI, reduceCtorEq, qF, qD, qA, qz, qk, ke, kr, qz7, qbN, qri, decide_false, qp, qw, qC, qz0, ↓reduceIte, qS, Nat.reduceEqDiff, kj, Int.reduceEq, qq, qAl, zr, Int.reduceLE, decide_true, kT, zn, zh, kw, zt, qR, ql, qU, qn, zj, Int.reduceLT, zO, qAr, je, jI, w1, zk, Int.reduceSub, qgH, qz3, qiA, qj4, qfp, jt, qbG, qeW, qz4, jG, yM]
    all_goals rfl
theorem qhH {s : List Nat} (hs : ∀ c ∈ s, cHx c = true) (hne : s ≠ []) (hz : s.length ≤ 1000000000000) {b bits mx : Nat} (hb : b = 10 ∧ bits = 31 ∧ mx = 2147483647 ∨ b = 16 ∧ bits = 32 ∧ mx = 4294967295 ∨ b = 16 ∧ bits = 8 ∧ mx = 255) {H : List Obj} :
    match pu b mx 0 s with
    | some u => zC pg 64 [.d (.s s), .d (.i .i64 (b : Nat)), .d (.i .i64 (bits : Nat))] H = some ⟨false, true, .tup [.d (.i .u64 (u : Nat)), .d .ni], H, H.length⟩
    | none => ∃ z, zC pg 64 [.d (.s s), .d (.i .i64 (b : Nat)), .d (.i .i64 (bits : Nat))] H = some ⟨false, true, .tup [.d (.i .u64 z), .ifc 112 .undef], H, H.length⟩ := by
  have h := qs4 hs hne hz hb (H := H)
  rw [qY (fn := qa5) rfl rfl]
  generalize pu b mx 0 s = r at h
  cases r with
  | some u =>
    simp only [PuC] at h
    simp only [qa5, qj, qz6, Nat.reduceAdd, qo, qx, qy, qm, qe, kK, qK, qL, qW, qa, qf, kI, reduceCtorEq, qF, qD, qA, qz, Nat.reduceEqDiff, qs, qz3, qz9, qc, qI, qi, qz1, qT, h, qr, qd, qg, qAs, zl, kX, jc, qb3, qbZ, qp, qb1, qk, ke, kr, qz7, qkn, qw, qC, qz0, ↓reduceIte, qS, qO, qJ, qb, qH, kv, qh, qt, z8, zE, jf, qcy, zY, jN, zU, jM, jo, Nat.max_self, zJ, kM]
    all_goals rfl
  | none =>
    obtain ⟨z, er, h0, h⟩ := h
    have ht := fun (f : List Nat) => qsI (f := f) (t := s) (b := (b : Int)) (z := (bits : Int)) h0 hz (H := H)
    refine ⟨z, ?_⟩
    simp only [qa5, qj, qz6, Nat.reduceAdd, qo, qx, qy, qm, qe, kK, qK, qL, qW, qa, qf, kI, reduceCtorEq, qF, qD, qA, qz, Nat.reduceEqDiff, qs, qz3, qz9, qc, qI, qi, qz1, qT, h, qr, qd, qg, qAs, zl, kX, jc, qb3, qbZ, qp, qb1, qhW, qei, qcE, qk, ke, kr, qz7, qh2, qw, qC, ↓reduceIte, zc, kV, qZ, qqL, qjI, qcy, ht, qO, ko, qJ, qb, qH, kv, qmL, qh, qt, z8, zE, jf, qsE, qrW, zY]
    all_goals exact kM rfl rfl rfl
end W

set_option linter.unusedSimpArgs false
set_option linter.unusedVariables false
namespace W
open Go (IntKind BinOp UnOp)
set_option maxRecDepth 20000
theorem qmk (P : Nat → Bool) : ∀ (l : List Nat), ∀ c ∈ l.take (run P l), P c = true
  | [], c, h => by simp at h
  | x :: l, c, h => by
    simp only [run] at h
    cases hp : P x with
    | false => rw [hp] at h; simp at h
    | true =>
      rw [hp] at h
      simp only [cond_true, qAi, List.mem_cons] at h
      rcases h with rfl | h
      · exact hp
      · exact qmk P l c h
theorem quB {x c : Nat} {l : List Nat} : pre [x] (c :: l) = decide (c = x) := by simp [pre]
theorem qxM {x : Nat} : pre [x] [] = false := by simp [pre]
theorem qek {x a : Nat} {s : List Nat} (h : pre [x] (s.drop a) = true) : a < s.length := by
  rcases Nat.lt_or_ge a s.length with h1 | h1
  · exact h1
  · rw [List.drop_eq_nil_of_le h1, qxM] at h; cases h
def qf5 (kind : Int) (b mx : Nat) (t : List Nat) (a' : Nat) : Sy := match pu b mx 0 t with
  | none => .bad 30
  | some u => .ok kind [] (wr .i32 (wr .u32 (u : Nat))) a'
def qkh (s : List Nat) (a : Nat) : Sy :=
  if pre [72] (s.drop (a + run cHx (s.drop a))) then qf5 2 16 4294967295 ((s.drop a).take (run cHx (s.drop a))) (a + run cHx (s.drop a) + 1)
  else if pre [88] (s.drop (a + run cHx (s.drop a))) then qf5 3 16 255 ((s.drop a).take (run cHx (s.drop a))) (a + run cHx (s.drop a) + 1)
  else qf5 2 10 2147483647 ((s.drop a).take (run cHx (s.drop a))) (a + run cHx (s.drop a))
theorem qn2 {s : List Nat} (hz : s.length ≤ 1000000000000) {id a c : Nat} {l : List Nat} {H : List Obj} (hL : s.drop a = c :: l) (hc : cDg c = true) (hH : H[id]? = some (sc s a)) : MRes id s a H (qkh s a) (zC pg 44 [.ptr id 0] H) := by
  have hid : id < H.length := (List.getElem?_eq_some_iff.1 hH).1
  have ha : a ≤ s.length := by have := (qf0 hL).2.2; omega
  obtain ⟨sm, lo, g1, g2, g3, hw⟩ := qhy (F := 63) (P := cHx) (fun c H => qrb) hz ha hH
  have hle := qdD cHx (s.drop a)
  have hk : 0 < run cHx (s.drop a) := by rw [hL]; simp [run, cHx, hc]
  have hall := qmk cHx (s.drop a)
  have hlen : ((s.drop a).take (run cHx (s.drop a))).length = run cHx (s.drop a) := by simp only [List.length_take]; omega
  simp only [List.length_drop] at hle
  unfold qkh
  generalize run cHx (s.drop a) = k at *
  generalize (s.drop a).take k = t at *
  have hne : t ≠ [] := by intro h; rw [h] at hlen; simp at hlen; omega
  have hm1 : min H.length lo = lo := by omega
  have hm2 : min lo H.length = lo := by omega
  have hm3 : min lo id = id := by omega
  have hm4 : min id H.length = id := by omega
  have hH1 : (zi H id (sc s (a + k)))[id]? = some (sc s (a + k)) := yd hH
  have hh1 := qfi (t := [72]) hH1 (by omega)
  have hh2 := qfi (t := [88]) hH1 (by omega)
  have hw1 : wr .i64 (((a + k : Nat) : Int) + 1) = ((a + k + 1 : Nat) : Int) := by rw [jl (by omega) (by omega)]; omega
  rw [qY (fn := jJ) rfl rfl]
  have e10 : ((10 : Nat) : Int) = 10 := rfl
  have e16 : ((16 : Nat) : Int) = 16 := rfl
  have e31 : ((31 : Nat) : Int) = 31 := rfl
  have e32 : ((32 : Nat) : Int) = 32 := rfl
  have e8 : ((8 : Nat) : Int) = 8 := rfl
  cases hp1 : pre [72] (s.drop (a + k)) with
  | true =>
    rw [hp1] at hh1
    rw [if_pos rfl]
    have hlt := qek hp1
    have hn := fun (H : List Obj) => qhH (b := 16) (bits := 32) (mx := 4294967295) hall hne (by omega) (by omega) (H := H)
    unfold qf5
    generalize pu 16 4294967295 0 t = r at hn
    simp only [e16, e32] at hn
    cases r with
    | some u =>
      simp only at hn ⊢
      refine MRes.good hid hH (lo := id) (qAe _) (by omega) (.inr (qAe _)) ?_ (e := ?_)
      rotate_left
      · simp only [jJ, qj, qz6, qo, qx, qy, qm, kx, qz3, qz9, qL, zB, kF, jn, kN, qa, qf, qe, kI, reduceCtorEq, qF, qD, qP, qz, ki, qE, qp, qu, kP, qQ, kh, hH, kL, qz5, qz2, qAb, kq, qW, qA, qs, qjp, qc, qM, qbJ, zY, qz1, qi, qT, hw, qr, qd, qdh, qg, hm1, zc, kV, qZ, kK, qK, qq, qI, hh1, qB, hm2, qw, qC, ↓reduceIte, hH1, qk, ke, kr, qz7, kB, hw1, Nat.reduceEqDiff, qN, kW, zq, ky, qz4, qz8, qX, kS, kl, kf, Nat.reduceAdd, Nat.reduceLT, kn, qAc, qAa, kg, kD, hm3, kp, qR, ql, za, qU, qn, hn, hm4, zl, kX, jc, qb3, qbZ, qb1, qkn, qz0, qS, jI, zf, jO, zF, zG, zz, jm, zy, kY, zg, zp, zo, zm, jg, kZ, kO, kU, qO, qJ, qb, kQ, zQ, Nat.reduceLeDiff, jA, qAn, qAi, qAp, qh, qt, qV]
        rfl
    | none =>
      obtain ⟨z, hn1⟩ := hn (zi H id (sc s (a + k + 1)))
      simp only
      refine MRes.worse hid hH (lo := id) (a' := a + k + 1) (qAe _) (by omega) (.inr (qAe _)) ?_ (e := ?_)
      rotate_left
      · simp only [jJ, qj, qz6, qo, qx, qy, qm, kx, qz3, qz9, qL, zB, kF, jn, kN, qa, qf, qe, kI, reduceCtorEq, qF, qD, qP, qz, ki, qE, qp, qu, kP, qQ, kh, hH, kL, qz5, qz2, qAb, kq, qW, qA, qs, qjp, qc, qM, qbJ, zY, qz1, qi, qT, hw, qr, qd, qdh, qg, hm1, zc, kV, qZ, kK, qK, qq, qI, hh1, qB, hm2, qw, qC, ↓reduceIte, hH1, qk, ke, kr, qz7, kB, hw1, Nat.reduceEqDiff, qN, kW, zq, ky, qz4, qz8, qX, kS, kl, kf, Nat.reduceAdd, Nat.reduceLT, kn, qAc, qAa, kg, kD, hm3, kp, qR, ql, za, qU, qn, hn1, hm4, zl, kX, jc, qb3, qbZ, qb1, qhW, qei, qcE, qh2, qdp, qcp, qbn, qbV]
        rfl
  | false =>
    rw [hp1] at hh1
    rw [if_neg (by simp)]
    cases hp2 : pre [88] (s.drop (a + k)) with
    | true =>
      rw [hp2] at hh2
      rw [if_pos rfl]
      have hlt := qek hp2
      have hn := fun (H : List Obj) => qhH (b := 16) (bits := 8) (mx := 255) hall hne (by omega) (by omega) (H := H)
      unfold qf5
      generalize pu 16 255 0 t = r at hn
      simp only [e16, e8] at hn
      cases r with
      | some u =>
        simp only at hn ⊢
        refine MRes.good hid hH (lo := id) (qAe _) (by omega) (.inr (qAe _)) ?_ (e := ?_)
        rotate_left
        · simp only [jJ, qj, qz6, qo, qx, qy, qm, kx, qz3, qz9, qL, zB, kF, jn, kN, qa, qf, qe, kI, reduceCtorEq, qF, qD, qP, qz, ki, qE, qp, qu, kP, qQ, kh, hH, kL, qz5, qz2, qAb, kq, qW, qA, qs, qjp, qc, qM, qbJ, zY, qz1, qi, qT, hw, qr, qd, qdh, qg, hm1, zc, kV, qZ, kK, qK, qq, qI, hh1, qB, hm2, qw, qC, qz0, ↓reduceIte, hh2, hH1, qk, ke, kr, qz7, kB, hw1, Nat.reduceEqDiff, qN, kW, zq, ky, qz4, qz8, qX, kS, kl, kf, Nat.reduceAdd, Nat.reduceLT, kn, qAc, qAa, kg, kD, hm3, kp, qR, ql, za, qU, qn, hn, hm4, zl, kX, jc, qb3, qbZ, qb1, qkn, qS, jI, zf, jO, zF, zG, zz, jm, zy, kY, zg, zp, zo, zm, jg, kZ, kO, kU, qO, qJ, qb, kQ, zQ, Nat.reduceLeDiff, jA, qAn, qAi, qAp, qh, qt, qV]
          rfl
      | none =>
        obtain ⟨z, hn1⟩ := hn (zi H id (sc s (a + k + 1)))
        simp only
        refine MRes.worse hid hH (lo := id) (a' := a + k + 1) (qAe _) (by omega) (.inr (qAe _)) ?_ (e := ?_)
        rotate_left
        · simp only [jJ, qj, qz6, qo, qx, qy, qm, kx, qz3, qz9, qL, zB, kF, jn, kN, qa, qf, qe, kI, reduceCtorEq, qF, qD, qP, qz, ki, qE, qp, qu, kP, qQ, kh, hH, kL, qz5, qz2, qAb, kq, qW, qA, qs, qjp, qc, qM, qbJ, zY, qz1, qi, qT, hw, qr, qd, qdh, qg, hm1, zc, kV, qZ, kK, qK, qq, qI, hh1, qB, hm2, qw, qC, qz0, ↓reduceIte, hh2, hH1, qk, ke, kr, qz7, kB, hw1, Nat.reduceEqDiff, qN, kW, zq, ky, qz4, qz8, qX, kS, kl, kf, Nat.reduceAdd, Nat.reduceLT, kn, qAc, qAa, kg, kD, hm3, kp, qR, ql, za, qU, qn, hn1, hm4, zl, kX, jc, qb3, qbZ, qb1, qhW, qei, qcE, qh2, qdp, qcp, qbn, qbV]
          rfl
    | false =>
      rw [hp2] at hh2
      rw [if_neg (by simp)]
      have hn := fun (H : List Obj) => qhH (b := 10) (bits := 31) (mx := 2147483647) hall hne (by omega) (by omega) (H := H)
      unfold qf5
      generalize pu 10 2147483647 0 t = r at hn
      simp only [e10, e31] at hn
      have g3' : a + k = a ∨ lo ≤ id := by omega
      cases r with
      | some u =>
        simp only at hn ⊢
        refine MRes.good hid hH g1 g2 g3' ?_ (e := ?_)
        rotate_left
        · simp only [jJ, qj, qz6, qo, qx, qy, qm, kx, qz3, qz9, qL, zB, kF, jn, kN, qa, qf, qe, kI, reduceCtorEq, qF, qD, qP, qz, ki, qE, qp, qu, kP, qQ, kh, hH, kL, qz5, qz2, qAb, kq, qW, qA, qs, qjp, qc, qM, qbJ, zY, qz1, qi, qT, hw, qr, qd, qdh, qg, hm1, zc, kV, qZ, kK, qK, qq, qI, hh1, qB, hm2, qw, qC, qz0, ↓reduceIte, hh2, qS, qR, ql, Nat.reduceEqDiff, za, qU, qn, hn, zl, kX, jc, qb3, qbZ, qb1, qk, ke, kr, qz7, qkn, jI, zf, zq, ky, kS, qz4, qz8, Nat.reduceAdd, Nat.reduceLT, jO, qAa, qAc, zF, zG, zz, jm, zy, kY, zg, qN, zp, zo, zm, qX, jg, kl, kZ, kO, kU, kp, qO, qJ, qb, kQ, zQ, Nat.reduceLeDiff, jA, qAn, qAi, qAp, qh, qt, qV]
          rfl
      | none =>
        obtain ⟨z, hn1⟩ := hn (zi H id (sc s (a + k)))
        simp only
        refine MRes.worse hid hH g1 g2 g3' ?_ (e := ?_)
        rotate_left
        · simp only [jJ, qj, qz6, qo, qx, qy, qm, kx, qz3, qz9, qL, zB, kF, jn, kN, qa, qf, qe, kI, reduceCtorEq, qF, qD, qP, qz, ki, qE, qp, qu, kP, qQ, kh, hH, kL, qz5, qz2, qAb, kq, qW, qA, qs, qjp, qc, qM, qbJ, zY, qz1, qi, qT, hw, qr, qd, qdh, qg, hm1, zc, kV, qZ, kK, qK, qq, qI, hh1, qB, hm2, qw, qC, qz0, ↓reduceIte, hh2, qS, qR, ql, Nat.reduceEqDiff, za, qU, qn, hn1, zl, kX, jc, qb3, qbZ, qb1, qhW, qei, qcE, qk, ke, kr, qz7, qh2, qdp, qcp, qbn, qbV]
          rfl
def qgB (s : List Nat) (a : Nat) : Sy :=
  if pre [34] (s.drop (a + 1 + run cTx (s.drop (a + 1)))) then
    (if 120 < run cTx (s.drop (a + 1)) then .bad 34 else .ok 4 ((s.drop (a + 1)).take (run cTx (s.drop (a + 1)))) 0 (a + 1 + run cTx (s.drop (a + 1)) + 1))
  else .bad 30
theorem qpU {s : List Nat} (hz : s.length ≤ 1000000000000) {id a : Nat} {H : List Obj} (ha : a < s.length) (hH : H[id]? = some (sc s a)) : MRes id s a H (qgB s a) (zC pg 46 [.ptr id 0] H) := by
  have hid : id < H.length := (List.getElem?_eq_some_iff.1 hH).1
  have hH1 : (zi H id (sc s (a + 1)))[id]? = some (sc s (a + 1)) := yd hH
  obtain ⟨sm, lo, g1, g2, g3, hw⟩ := qhy (F := 66) (P := cTx) (fun c H => qoz) hz (by omega) hH1
  have hle := qdD cTx (s.drop (a + 1))
  have hlen : ((s.drop (a + 1)).take (run cTx (s.drop (a + 1)))).length = run cTx (s.drop (a + 1)) := by simp only [List.length_take]; omega
  simp only [List.length_drop] at hle
  rw [kD] at hw
  rw [qB] at g2
  unfold qgB
  generalize run cTx (s.drop (a + 1)) = k at *
  generalize (s.drop (a + 1)).take k = t at *
  have hm1 : min H.length id = id := by omega
  have hm2 : min id lo = id := by omega
  have hm3 : min id H.length = id := by omega
  have hm4 : min id id = id := by omega
  have hH2 : (zi H id (sc s (a + 1 + k)))[id]? = some (sc s (a + 1 + k)) := yd hH
  have hh1 := qfi (t := [34]) hH2 (by omega)
  have hw0 : wr .i64 ((a : Int) + 1) = ((a + 1 : Nat) : Int) := by rw [jl (by omega) (by omega)]; omega
  have hw1 : wr .i64 (((a + 1 + k : Nat) : Int) + 1) = ((a + 1 + k + 1 : Nat) : Int) := by rw [jl (by omega) (by omega)]; omega
  rw [qY (fn := qau) rfl rfl]
  cases hp : pre [34] (s.drop (a + 1 + k)) with
  | false =>
    rw [hp] at hh1
    rw [if_neg (by simp)]
    refine MRes.worse hid hH (lo := id) (a' := a + 1 + k) (qAe _) (by omega) (.inr (qAe _)) ?_ (e := ?_)
    rotate_left
    · simp only [qau, qj, qz6, qo, qx, qy, qm, kx, qz3, qz9, qL, zB, kF, jn, kN, qa, qf, qe, kI, reduceCtorEq, qF, qD, qP, qz, ki, qE, qp, qu, kP, qQ, kh, hH, kL, qz5, qz2, qAb, kq, qW, qA, qk, ke, kr, qz7, kK, kB, hw0, Nat.reduceEqDiff, qN, kW, zq, ky, qz4, qz8, qX, kS, kl, qz1, kf, Nat.reduceAdd, Nat.reduceLT, kn, qAc, qAa, kg, hm1, kp, qs, qjp, qc, qM, qbJ, zY, qi, qT, hw, qr, qd, qdh, qg, hm2, zc, kV, qZ, qq, qI, hh1, qB, qK, hm3, yP, qb2, qAr, qw, qC, ↓reduceIte, qdp, qcp, qcI, qbn, qbV]
      rfl
  | true =>
    rw [hp] at hh1
    rw [if_pos rfl]
    have hlt := qek hp
    by_cases h1 : 120 < k
    · have e1 : ((120 : Int) < ((k : Nat) : Int)) = True := by rw [eq_iff_iff]; simp; omega
      rw [if_pos h1]
      refine MRes.worse hid hH (lo := id) (a' := a + 1 + k) (qAe _) (by omega) (.inr (qAe _)) ?_ (e := ?_)
      rotate_left
      · simp only [qau, qj, qz6, qo, qx, qy, qm, kx, qz3, qz9, qL, zB, kF, jn, kN, qa, qf, qe, kI, reduceCtorEq, qF, qD, qP, qz, ki, qE, qp, qu, kP, qQ, kh, hH, kL, qz5, qz2, qAb, kq, qW, qA, qk, ke, kr, qz7, kK, kB, hw0, Nat.reduceEqDiff, qN, kW, zq, ky, qz4, qz8, qX, kS, kl, qz1, kf, Nat.reduceAdd, Nat.reduceLT, kn, qAc, qAa, kg, hm1, kp, qs, qjp, qc, qM, qbJ, zY, qi, qT, hw, qr, qd, qdh, qg, hm2, zc, kV, qZ, qq, qI, hh1, qB, qK, hm3, yP, qb2, qAm, qw, qC, qz0, ↓reduceIte, q9, ze, hlen, je, e1, decide_true, qdp, qcp, qcI, qbn, qbV]
        rfl
    · have e1 : ((120 : Int) < ((k : Nat) : Int)) = False := by rw [eq_iff_iff]; simp; omega
      rw [if_neg h1]
      refine MRes.good hid hH (lo := id) (qAe _) (by omega) (.inr (qAe _)) ?_ (e := ?_)
      rotate_left
      · simp only [qau, qj, qz6, qo, qx, qy, qm, kx, qz3, qz9, qL, zB, kF, jn, kN, qa, qf, qe, kI, reduceCtorEq, qF, qD, qP, qz, ki, qE, qp, qu, kP, qQ, kh, hH, kL, qz5, qz2, qAb, kq, qW, qA, qk, ke, kr, qz7, kK, kB, hw0, Nat.reduceEqDiff, qN, kW, zq, ky, qz4, qz8, qX, kS, kl, qz1, kf, Nat.reduceAdd, Nat.reduceLT, kn, qAc, qAa, kg, hm1, kp, qs, qjp, qc, qM, qbJ, zY, qi, qT, hw, qr, qd, qdh, qg, hm2, zc, kV, qZ, qq, qI, hh1, qB, qK, hm3, yP, qb2, qAm, qw, qC, qz0, ↓reduceIte, q9, ze, hlen, je, e1, decide_false, qS, qR, ql, kz, za, qU, qn, hH2, hw1, kD, hm4, zf, jO, jg, zF, zG, zz, jm, zy, kY, zg, zp, zo, zm, kZ, kO, kU, qO, qJ, qb, kQ, zQ, Nat.reduceLeDiff, jA, qAn, qAi, qAp, qh, qt, qV]
        rfl
def SG : List Nat := [43, 45, 42, 47, 38, 126, 61, 35, 60, 62, 46, 44, 59, 58, 40, 41, 91, 93, 123, 125, 94, 124]
def qfU (s : List Nat) (a c : Nat) : Sy :=
  if pre [60, 61] (s.drop a) then .ok 5 [60, 61] 0 (a + 2)
  else if pre [62, 61] (s.drop a) then .ok 5 [62, 61] 0 (a + 2)
  else if pre [58, 61] (s.drop a) then .ok 5 [58, 61] 0 (a + 2)
  else if pre [46, 46] (s.drop a) then .ok 5 [46, 46] 0 (a + 2)
  else if ixN c SG < 0 then .bad 30 else .ok 5 [c] 0 (a + 1)
theorem qqc {s : List Nat} (hs : ∀ c ∈ s, c < 256) (hz : s.length ≤ 1000000000000) {id a c : Nat} {l : List Nat} {H : List Obj} (hL : s.drop a = c :: l) (hH : H[id]? = some (sc s a)) : MRes id s a H (qfU s a c) (zC pg 47 [.ptr id 0] H) := by
  have hid : id < H.length := (List.getElem?_eq_some_iff.1 hH).1
  obtain ⟨hget, hdr, hlt⟩ := qf0 hL
  have hh := fun (t : List Nat) => qfi (t := t) hH (by omega)
  have hix : ixV (.d (.s s)) (.d (.i .i64 (a : Int))) = some (.d (.i .u8 ((c : Nat) : Int))) := qkJ (by omega) (by simpa using hget)
  have hc : c < 256 := hs c (List.mem_of_getElem? hget)
  have hi := qpu (t := SG) hc (H := H)
  have hm1 : min H.length id = id := by omega
  have hw1 : wr .i64 ((a : Int) + 1) = ((a + 1 : Nat) : Int) := by rw [jl (by omega) (by omega)]; omega
  have hw2 : wr .i64 ((a : Int) + 2) = ((a + 2 : Nat) : Int) := by rw [jl (by omega) (by omega)]; omega
  have i0 : iaV (.d (.sl [.s [60, 61], .s [62, 61], .s [58, 61], .s [46, 46]])) (.d (.i .i64 0)) 1 none = some (.cp (.s [60, 61])) := rfl
  have i1 : iaV (.d (.sl [.s [60, 61], .s [62, 61], .s [58, 61], .s [46, 46]])) (.d (.i .i64 1)) 1 none = some (.cp (.s [62, 61])) := rfl
  have i2 : iaV (.d (.sl [.s [60, 61], .s [62, 61], .s [58, 61], .s [46, 46]])) (.d (.i .i64 2)) 1 none = some (.cp (.s [58, 61])) := rfl
  have i3 : iaV (.d (.sl [.s [60, 61], .s [62, 61], .s [58, 61], .s [46, 46]])) (.d (.i .i64 3)) 1 none = some (.cp (.s [46, 46])) := rfl
  have w1 : wr .i64 1 = 1 := rfl
  have w2 : wr .i64 2 = 2 := rfl
  have w3 : wr .i64 3 = 3 := rfl
  have w4 : wr .i64 4 = 4 := rfl
  rw [qY (fn := jX) rfl rfl]
  unfold qfU
  have h0 := hh [60, 61]
  have h1 := hh [62, 61]
  have h2 := hh [58, 61]
  have h3 := hh [46, 46]
  by_cases q0 : pre [60, 61] (s.drop a) = true
  · rw [if_pos q0]
    rw [q0] at h0
    refine MRes.good hid hH (lo := id) (qAe _) (by omega) (.inr (qAe _)) ?_ (e := ?_)
    rotate_left
    · simp only [jX, qj, qz6, qo, qx, qy, qm, kx, qz3, qz9, qL, zB, kF, jn, kN, qa, qf, kJ, jD, qz4, qz8, List.reduceReplicate, kK, Nat.reduceAdd, Nat.reduceLT, zD, qAa, qAc, zR, jk, jg, yR, jK, qz1, jj, qp, yy, jt, kI, qD, jb, qhb, qAv, qW, qe, qK, qq, yf, reduceCtorEq, qF, kz, Nat.reduceEqDiff, za, qeU, qU, ye, jS, qk, ke, qAd, qA, zj, Int.reduceLT, decide_true, qw, qC, ↓reduceIte, qS, kH, i0, yQ, zP, zX, qab, zN, qz, qP, ki, qs, qc, qM, qI, qi, qT, h0, qr, qd, qg, qAs, qE, qu, kP, qQ, kh, hH, kL, qz5, qz2, qAb, kq, q9, ze, kB, hw2, qN, kW, zq, ky, qX, kS, kl, kf, kn, kg, hm1, kp, zf, jO, zF, zG, zz, jm, zy, kY, zg, zp, zo, zm, kZ, kO, kU, qO, kG, ko, qJ, qb, kQ, zQ, Nat.reduceLeDiff, jA, qAn, qAi, qAp, qh, qt, qV]
      rfl
  rw [if_neg q0]
  rw [Bool.not_eq_true] at q0
  rw [q0] at h0
  by_cases q1 : pre [62, 61] (s.drop a) = true
  · rw [if_pos q1]
    rw [q1] at h1
    refine MRes.good hid hH (lo := id) (qAe _) (by omega) (.inr (qAe _)) ?_ (e := ?_)
    rotate_left
    · simp only [jX, qj, qz6, qo, qx, qy, qm, kx, qz3, qz9, qL, zB, kF, jn, kN, qa, qf, kJ, jD, qz4, qz8, List.reduceReplicate, kK, Nat.reduceAdd, Nat.reduceLT, zD, qAa, qAc, zR, jk, jg, yR, jK, qz1, jj, qp, yy, jt, kI, qD, jb, qhb, qAv, qW, qe, qK, qq, yf, reduceCtorEq, qF, kz, Nat.reduceEqDiff, za, qeU, qU, ye, jS, qk, ke, qAd, qA, zj, Int.reduceLT, decide_true, qw, qC, ↓reduceIte, qS, kH, i0, yQ, zP, zX, qab, zN, qz, qP, ki, qs, qc, qM, qI, qi, qT, h0, qr, qd, qg, qAs, qz0, qR, ql, qn, kr, qz7, kB, Int.reduceAdd, w1, i1, h1, qE, qu, kP, qQ, kh, hH, kL, qz5, qz2, qAb, kq, q9, ze, hw2, qN, kW, zq, ky, qX, kS, kl, kf, kn, kg, hm1, kp, zf, jO, zF, zG, zz, jm, zy, kY, zg, zp, zo, zm, kZ, kO, kU, qO, kG, ko, qJ, qb, kQ, zQ, Nat.reduceLeDiff, jA, qAn, qAi, qAp, qh, qt, qV]
      rfl
  rw [if_neg q1]
  rw [Bool.not_eq_true] at q1
  rw [q1] at h1
  by_cases q2 : pre [58, 61] (s.drop a) = true
  · rw [if_pos q2]
    rw [q2] at h2
    refine MRes.good hid hH (lo := id) (qAe _) (by omega) (.inr (qAe _)) ?_ (e := ?_)
    rotate_left
    · simp only [jX, qj, qz6, qo, qx, qy, qm, kx, qz3, qz9, qL, zB, kF, jn, kN, qa, qf, kJ, jD, qz4, qz8, List.reduceReplicate, kK, Nat.reduceAdd, Nat.reduceLT, zD, qAa, qAc, zR, jk, jg, yR, jK, qz1, jj, qp, yy, jt, kI, qD, jb, qhb, qAv, qW, qe, qK, qq, yf, reduceCtorEq, qF, kz, Nat.reduceEqDiff, za, qeU, qU, ye, jS, qk, ke, qAd, qA, zj, Int.reduceLT, decide_true, qw, qC, ↓reduceIte, qS, kH, i0, yQ, zP, zX, qab, zN, qz, qP, ki, qs, qc, qM, qI, qi, qT, h0, qr, qd, qg, qAs, qz0, qR, ql, qn, kr, qz7, kB, Int.reduceAdd, w1, i1, h1, w2, i2, h2, qE, qu, kP, qQ, kh, hH, kL, qz5, qz2, qAb, kq, q9, ze, hw2, qN, kW, zq, ky, qX, kS, kl, kf, kn, kg, hm1, kp, zf, jO, zF, zG, zz, jm, zy, kY, zg, zp, zo, zm, kZ, kO, kU, qO, kG, ko, qJ, qb, kQ, zQ, Nat.reduceLeDiff, jA, qAn, qAi, qAp, qh, qt, qV]
      rfl
  rw [if_neg q2]
  rw [Bool.not_eq_true] at q2
  rw [q2] at h2
  by_cases q3 : pre [46, 46] (s.drop a) = true
  · rw [if_pos q3]
    rw [q3] at h3
    refine MRes.good hid hH (lo := id) (qAe _) (by omega) (.inr (qAe _)) ?_ (e := ?_)
    rotate_left
    · simp only [jX, qj, qz6, qo, qx, qy, qm, kx, qz3, qz9, qL, zB, kF, jn, kN, qa, qf, kJ, jD, qz4, qz8, List.reduceReplicate, kK, Nat.reduceAdd, Nat.reduceLT, zD, qAa, qAc, zR, jk, jg, yR, jK, qz1, jj, qp, yy, jt, kI, qD, jb, qhb, qAv, qW, qe, qK, qq, yf, reduceCtorEq, qF, kz, Nat.reduceEqDiff, za, qeU, qU, ye, jS, qk, ke, qAd, qA, zj, Int.reduceLT, decide_true, qw, qC, ↓reduceIte, qS, kH, i0, yQ, zP, zX, qab, zN, qz, qP, ki, qs, qc, qM, qI, qi, qT, h0, qr, qd, qg, qAs, qz0, qR, ql, qn, kr, qz7, kB, Int.reduceAdd, w1, i1, h1, w2, i2, h2, w3, i3, h3, qE, qu, kP, qQ, kh, hH, kL, qz5, qz2, qAb, kq, q9, ze, hw2, qN, kW, zq, ky, qX, kS, kl, kf, kn, kg, hm1, kp, zf, jO, zF, zG, zz, jm, zy, kY, zg, zp, zo, zm, kZ, kO, kU, qO, kG, ko, qJ, qb, kQ, zQ, Nat.reduceLeDiff, jA, qAn, qAi, qAp, qh, qt, qV]
      rfl
  rw [if_neg q3]
  rw [Bool.not_eq_true] at q3
  rw [q3] at h3
  by_cases q4 : ixN c SG < 0
  · have e1 : (ixN c SG < 0) = True := eq_true q4
    rw [if_pos q4]
    simp only [SG] at hi e1
    refine MRes.worse hid hH (lo := H.length) (a' := a) (by omega) (qAe _) (.inl rfl) ?_ (e := ?_)
    rotate_left
    · rw [qal hH]
      simp only [jX, qcq, qj, qz6, qo, qx, qy, qm, kx, qz3, qz9, qL, zB, kF, jn, kN, qa, qf, kJ, jD, qz4, qz8, List.reduceReplicate, kK, Nat.reduceAdd, Nat.reduceLT, zD, qAa, qAc, zR, jk, jg, yR, jK, qz1, jj, qp, yy, jt, kI, qD, jb, qhb, qAv, qW, qe, qK, qq, yf, reduceCtorEq, qF, kz, Nat.reduceEqDiff, za, qeU, qU, ye, jS, qk, ke, qAd, qA, zj, Int.reduceLT, decide_true, qw, qC, ↓reduceIte, qS, kH, i0, yQ, zP, zX, qab, zN, qz, qP, ki, qs, qc, qM, qI, qi, qT, h0, qr, qd, qg, qAs, qz0, qR, ql, qn, kr, qz7, kB, Int.reduceAdd, w1, i1, h1, w2, i2, h2, w3, i3, h3, w4, decide_false, yB, jH, jx, jp, zV, zT, jz, zW, qE, qu, kP, qAu, qQ, kh, hH, kL, qz2, qAb, kq, yu, qz5, kE, hix, zx, hi, e1, zw, qdp, qcp, qbn, qbV]
      rfl
  · have e1 : (ixN c SG < 0) = False := eq_false q4
    rw [if_neg q4]
    simp only [SG] at hi e1
    have hH1 : (zi H id (sc s (a + 1)))[id]? = some (sc s (a + 1)) := yd hH
    have hwm : wr .i64 (((a + 1 : Nat) : Int) - 1) = (a : Int) := by rw [jl (by omega) (by omega)]; omega
    have hmid := qhB (l := s) (a := a) (b := a + 1) (by omega) (by omega)
    have hmm : (s.take (a + 1)).drop a = [c] := by
      rw [List.drop_take, hL]; simp
    rw [hmm] at hmid
    refine MRes.good hid hH (lo := id) (qAe _) (by omega) (.inr (qAe _)) ?_ (e := ?_)
    rotate_left
    · simp only [jX, qcq, qj, qz6, qo, qx, qy, qm, kx, qz3, qz9, qL, zB, kF, jn, kN, qa, qf, kJ, jD, qz4, qz8, List.reduceReplicate, kK, Nat.reduceAdd, Nat.reduceLT, zD, qAa, qAc, zR, jk, jg, yR, jK, qz1, jj, qp, yy, jt, kI, qD, jb, qhb, qAv, qW, qe, qK, qq, yf, reduceCtorEq, qF, kz, Nat.reduceEqDiff, za, qeU, qU, ye, jS, qk, ke, qAd, qA, zj, Int.reduceLT, decide_true, qw, qC, ↓reduceIte, qS, kH, i0, yQ, zP, zX, qab, zN, qz, qP, ki, qs, qc, qM, qI, qi, qT, h0, qr, qd, qg, qAs, qz0, qR, ql, qn, kr, qz7, kB, Int.reduceAdd, w1, i1, h1, w2, i2, h2, w3, i3, h3, w4, decide_false, yB, jH, jx, jp, zV, zT, jz, zW, qE, qu, kP, qAu, qQ, kh, hH, kL, qz2, qAb, kq, yu, qz5, kE, hix, zx, hi, e1, zw, hw1, qN, kW, zq, ky, qX, kS, kl, kf, kn, kg, hm1, kp, hH1, zk, hwm, jY, yn, qc4, qas, hmid, zf, jO, zF, zG, zz, jm, zy, kY, zg, zp, zo, zm, kZ, kO, kU, qd9, qO, qJ, qb, kQ, zQ, Nat.reduceLeDiff, jA, qAn, qAi, qAp, qh, qt, qV]
      rfl
end W

set_option linter.unusedSimpArgs false
set_option linter.unusedVariables false
namespace W
open Go (IntKind BinOp UnOp)
set_option maxRecDepth 20000
theorem qrG : ∀ (n deep frm a : Nat) (l : List Nat) (j : Nat), l.length ≤ n → sk deep frm a l = (true, j) → a ≤ j ∧ j ≤ a + l.length := by
  intro n
  induction n with
  | zero =>
    intro deep frm a l j hn h
    have : l = [] := List.length_eq_zero_iff.1 (by omega)
    subst this
    simp only [sk] at h
    split at h
    · cases h; simp
    · cases h
  | succ n ih =>
    intro deep frm a l j hn h
    match l, hn, h with
    | [], hn, h =>
      simp only [sk] at h
      split at h
      · cases h; simp
      · cases h
    | [c], hn, h =>
      simp only [sk] at h
      split at h
      · split at h
        · cases h; simp
        · cases h; simp
      · cases h
    | c :: d :: l, hn, h =>
      simp only [qz4] at hn ⊢
      rw [sk] at h
      split at h
      · have := ih _ _ _ _ _ (by omega) h; omega
      · split at h
        · have := ih _ _ _ _ _ (by omega) h; omega
        · split at h
          · have := ih _ _ _ _ _ (by simp only [qz4]; omega) h
            simp only [qz4] at this; omega
          · cases h; omega
def qfk (s : List Nat) (j : Nat) : Sy := match s.drop j with
  | [] => .bad 0
  | c :: _ => if cLt c = true then qiq s j else if cDg c = true then qkh s j else if c = 34 then qgB s j else qfU s j c
inductive Nx where
  | ok (k : Int) (p e : Nat) (t : List Nat) (n : Int)
  | bad (p : Nat) (e : Int)
def qmr (j : Nat) : Sy → Nx
  | .ok k t n a' => .ok k j a' t n
  | .bad e => .bad j e
def qhq (s : List Nat) (a : Nat) : Nx := match sk 0 a a (s.drop a) with
  | (false, p) => .bad p 30
  | (true, j) => if j = s.length then .ok 0 j j [] 0 else qmr j (qfk s j)
def NRes (id : Nat) (s : List Nat) (a : Nat) (H : List Obj) (r : Nx) (X : Option Cr) : Prop :=
  match r with
  | .ok k p e t n => ∃ sm lo, id ≤ lo ∧ lo ≤ H.length ∧ (e = a ∨ lo ≤ id) ∧ X = some ⟨false, sm, .d (tok k p e t n), zi H id (sc s e), lo⟩
  | .bad p x => ∃ sm lo a', id ≤ lo ∧ lo ≤ H.length ∧ (a' = a ∨ lo ≤ id) ∧ X = some ⟨true, sm, .ifc 66 (.d (.agg [.i .i64 (p : Nat), .i .i64 x])), zi H id (sc s a'), lo⟩
theorem NRes.good {id : Nat} {s : List Nat} {a p a' : Nat} {H : List Obj} {k n : Int} {t : List Nat} {e : Env} {lo : Nat} {X : Option Cr} (hid : id < H.length) (hH : H[id]? = some (sc s a)) (h1 : id ≤ lo) (h2 : lo ≤ H.length) (h3 : a' = a ∨ lo ≤ id)
    (h : X = leave H false (.d (tok k p a' t n)) ⟨e, zi H id (sc s a'), lo⟩) : NRes id s a H (.ok k p a' t n) X := by
  obtain ⟨sm, hlv⟩ := qfc (pan := false) (v := .d (tok k p a' t n)) (e := e) (lo := lo) (o := sc s a') rfl rfl (fun _ => rfl) (by
      rcases h3 with h | h
      · left; rw [h]; exact qal hH
      · right; exact h) hid
  exact ⟨sm, lo, h1, h2, h3, h.trans hlv⟩
theorem NRes.worse {id p : Nat} {s : List Nat} {a a' : Nat} {H : List Obj} {x : Int} {e : Env} {lo : Nat} {X : Option Cr} (hid : id < H.length) (hH : H[id]? = some (sc s a)) (h1 : id ≤ lo) (h2 : lo ≤ H.length) (h3 : a' = a ∨ lo ≤ id)
    (h : X = leave H true (.ifc 66 (.d (.agg [.i .i64 (p : Nat), .i .i64 x]))) ⟨e, zi H id (sc s a'), lo⟩) : NRes id s a H (.bad p x) X := by
  obtain ⟨sm, hlv⟩ := qfc (pan := true) (v := .ifc 66 (.d (.agg [.i .i64 (p : Nat), .i .i64 x]))) (e := e) (lo := lo) (o := sc s a') rfl rfl (fun _ => rfl) (by
      rcases h3 with h | h
      · left; rw [h]; exact qal hH
      · right; exact h) hid
  exact ⟨sm, lo, a', h1, h2, h3, h.trans hlv⟩
theorem qqK {s : List Nat} (hs : ∀ c ∈ s, c < 256) (hz : s.length ≤ 1000000000000) {id a : Nat} {H : List Obj} (ha : a ≤ s.length) (hH : H[id]? = some (sc s a)) : NRes id s a H (qhq s a) (zC pg 28 [.ptr id 0] H) := by
  have hid : id < H.length := (List.getElem?_eq_some_iff.1 hH).1
  have hsk := qqM hs hz ha hH
  rw [qY (fn := f_scan_scanner_next) rfl rfl]
  unfold qhq
  have hjl := fun j => qrG (s.drop a).length 0 a a (s.drop a) j (qAe _)
  generalize sk 0 a a (s.drop a) = r at hsk hjl
  obtain ⟨b, j⟩ := r
  cases b with
  | false =>
    obtain ⟨sm, lo, a', g1, g2, g3, hsk⟩ := hsk
    have hm1 : min H.length lo = lo := by omega
    refine NRes.worse hid hH g1 g2 g3 ?_ (e := ?_)
    rotate_left
    · simp only [f_scan_scanner_next, qj, qz6, qo, qx, qy, qm, kx, qz3, qz9, qL, zB, kF, jn, kN, qa, qf, qe, kI, reduceCtorEq, qF, qD, qP, qz, ki, qs, qc, qM, qi, qz1, qT, hsk, qr, qd, qg, hm1, qcp, qbn, qbV]
      rfl
  | true =>
    obtain ⟨sm, lo, g1, g2, g3, hsk⟩ := hsk
    have hjr := hjl j rfl
    simp only [List.length_drop] at hjr
    have hm1 : min H.length lo = lo := by omega
    have hm2 : min lo H.length = lo := by omega
    have hH1 : (zi H id (sc s j))[id]? = some (sc s j) := yd hH
    simp only
    by_cases hj : j = s.length
    · have e1 : ((j : Int) = (s.length : Int)) = True := by rw [eq_iff_iff]; simp; omega
      rw [if_pos hj]
      refine NRes.good hid hH g1 g2 g3 ?_ (e := ?_)
      rotate_left
      · simp only [f_scan_scanner_next, qj, qz6, qo, qx, qy, qm, kx, qz3, qz9, qL, zB, kF, jn, kN, qa, qf, qe, kI, reduceCtorEq, qF, qD, qP, qz, ki, qs, qc, qM, qi, qz1, qT, hsk, qr, qd, qg, hm1, zl, qE, qp, qu, kP, qQ, kh, hH1, kL, qz5, qz2, qAb, kq, qW, qA, jr, qbH, ym, qq, jp, zV, zT, jz, zW, yu, qAu, q9, ze, qk, ke, qAd, Nat.reduceEqDiff, kj, e1, decide_true, zx, zw, qw, qC, ↓reduceIte, zf, kK, zq, ky, kS, qz4, qz8, Nat.reduceAdd, Nat.reduceLT, jO, qAa, zF, zG, zz, jm, zy, kY, zg, qN, zp, zo, zm, qX, jg, kl, kZ, kO, kU, kp, qR, ql, kz, za, qU, qn, qcM, qg5, qd2, qlE, qaS, kn, qAc, qd9, qbs, Nat.reduceLeDiff, jA, qAn, qAi, qAp, qO, qJ, qb, kQ, zQ, qh, qt, qV, tok]
        rfl
    · have e1 : ((j : Int) = (s.length : Int)) = False := by rw [eq_iff_iff]; simp; omega
      rw [if_neg hj]
      have hjlt : j < s.length := by omega
      have hL : s.drop j = s[j] :: s.drop (j + 1) := yN hjlt
      have hix : ixV (.d (.s s)) (.d (.i .i64 (j : Int))) = some (.d (.i .u8 ((s[j] : Nat) : Int))) := qkJ (by omega) (by simp)
      generalize s[j] = c at hL hix
      have hlc := qjd (c := c) (H := zi H id (sc s j))
      have hdc := qhw (c := c) (H := zi H id (sc s j))
      have hq := qfi (t := [34]) hH1 (by omega)
      rw [hL, quB] at hq
      have fin : ∀ (r : Sy) (f : Nat), MRes id s j (zi H id (sc s j)) r (zC pg f [.ptr id 0] (zi H id (sc s j))) →
          (∀ sm2 lo2 k t n a', zC pg f [.ptr id 0] (zi H id (sc s j)) = some ⟨false, sm2, .d (tok k 0 0 t n), zi H id (sc s a'), lo2⟩ → r = .ok k t n a' → ∃ e, qhi H true [.cell 2 ⟨5, true⟩] (exL pg f_scan_scanner_next.body ⟨ya 0 [.ptr id 0], H, H.length⟩) = leave H false (.d (tok k j a' t n)) ⟨e, zi H id (sc s a'), min lo lo2⟩) →
          (∀ sm2 lo2 x a', zC pg f [.ptr id 0] (zi H id (sc s j)) = some ⟨true, sm2, .ifc 66 (.d (.agg [.i .i64 (j : Nat), .i .i64 x])), zi H id (sc s a'), lo2⟩ → r = .bad x → ∃ e, qhi H true [.cell 2 ⟨5, true⟩] (exL pg f_scan_scanner_next.body ⟨ya 0 [.ptr id 0], H, H.length⟩) = leave H true (.ifc 66 (.d (.agg [.i .i64 (j : Nat), .i .i64 x]))) ⟨e, zi H id (sc s a'), min lo lo2⟩) →
          NRes id s a H (qmr j r) (qhi H true [.cell 2 ⟨5, true⟩] (exL pg f_scan_scanner_next.body ⟨ya 0 [.ptr id 0], H, H.length⟩)) := by
        intro r f hm hgood hbad
        cases r with
        | ok k t n a' =>
          obtain ⟨sm2, lo2, q1, q2, q3, hc⟩ := hm
          rw [kD] at hc
          rw [qB] at q2
          obtain ⟨e, he⟩ := hgood sm2 lo2 k t n a' hc rfl
          exact NRes.good hid hH (by omega) (by omega) (by omega) he
        | bad x =>
          obtain ⟨sm2, lo2, a', q1, q2, q3, hc⟩ := hm
          rw [kD] at hc
          rw [qB] at q2
          obtain ⟨e, he⟩ := hbad sm2 lo2 x a' hc rfl
          exact NRes.worse hid hH (by omega) (by omega) (by omega) he
      have hsym : qfk s j = if cLt c = true then qiq s j else if cDg c = true then qkh s j else if c = 34 then qgB s j else qfU s j c := by
        unfold qfk; rw [hL]
      rw [hsym]
      cases hlt : cLt c with
      | true =>
        rw [hlt] at hlc
        rw [if_pos rfl]
        refine fin _ 42 (qqb hz (by omega) hH1) ?_ ?_
        · intro sm2 lo2 k t n a' hc _
          have hH2 : (zi H id (sc s a'))[id]? = some (sc s a') := yd hH
          simp only [tok] at hc
          simp only [f_scan_scanner_next, qj, qz6, qo, qx, qy, qm, kx, qz3, qz9, qL, zB, kF, jn, kN, qa, qf, qe, kI, reduceCtorEq, qF, qD, qP, qz, ki, qs, qc, qM, qi, qz1, qT, hsk, qr, qd, qg, hm1, zl, qE, qp, qu, kP, qQ, kh, hH1, kL, qz5, qz2, qAb, kq, qW, qA, jr, qbH, ym, qq, jp, zV, zT, jz, zW, yu, qAu, q9, ze, qk, ke, qAd, Nat.reduceEqDiff, kj, e1, decide_false, zx, zw, qw, qC, qz0, ↓reduceIte, kE, hix, qI, hlc, qB, hm2, zc, kV, qZ, hc, qN, zp, zo, zm, qz4, qz8, Nat.reduceAdd, qX, kS, zq, jg, kl, kZ, kO, kU, kp, qR, ql, kz, za, qU, qn, hH2, qcM, qg5, qd2, qlE, qaS, ky, Nat.reduceLT, kn, qAc, qAa, qd9, qbs, Nat.reduceLeDiff, jA, qAn, qAi, qAp, zz, jm, zy, kY, zg, qO, qJ, qb, kQ, zQ, qh, qt, qV, tok]
          exact ⟨_, rfl⟩
        · intro sm2 lo2 x a' hc _
          simp only [f_scan_scanner_next, qj, qz6, qo, qx, qy, qm, kx, qz3, qz9, qL, zB, kF, jn, kN, qa, qf, qe, kI, reduceCtorEq, qF, qD, qP, qz, ki, qs, qc, qM, qi, qz1, qT, hsk, qr, qd, qg, hm1, zl, qE, qp, qu, kP, qQ, kh, hH1, kL, qz5, qz2, qAb, kq, qW, qA, jr, qbH, ym, qq, jp, zV, zT, jz, zW, yu, qAu, q9, ze, qk, ke, qAd, Nat.reduceEqDiff, kj, e1, decide_false, zx, zw, qw, qC, qz0, ↓reduceIte, kE, hix, qI, hlc, qB, hm2, zc, kV, qZ, hc, qcp, qcI, qbn, qbV]
          exact ⟨_, rfl⟩
      | false =>
        rw [hlt] at hlc
        rw [if_neg (by simp)]
        cases hdt : cDg c with
        | true =>
          rw [hdt] at hdc
          rw [if_pos rfl]
          refine fin _ 44 (qn2 hz hL hdt hH1) ?_ ?_
          · intro sm2 lo2 k t n a' hc _
            have hH2 : (zi H id (sc s a'))[id]? = some (sc s a') := yd hH
            simp only [tok] at hc
            simp only [f_scan_scanner_next, qj, qz6, qo, qx, qy, qm, kx, qz3, qz9, qL, zB, kF, jn, kN, qa, qf, qe, kI, reduceCtorEq, qF, qD, qP, qz, ki, qs, qc, qM, qi, qz1, qT, hsk, qr, qd, qg, hm1, zl, qE, qp, qu, kP, qQ, kh, hH1, kL, qz5, qz2, qAb, kq, qW, qA, jr, qbH, ym, qq, jp, zV, zT, jz, zW, yu, qAu, q9, ze, qk, ke, qAd, Nat.reduceEqDiff, kj, e1, decide_false, zx, zw, qw, qC, qz0, ↓reduceIte, kE, hix, qI, hlc, qB, hm2, zc, kV, qZ, hdc, hc, qN, zp, zo, zm, qz4, qz8, Nat.reduceAdd, qX, kS, zq, jg, kl, kZ, kO, kU, kp, qR, ql, kz, za, qU, qn, hH2, qcM, qg5, qd2, qlE, qaS, ky, Nat.reduceLT, kn, qAc, qAa, qd9, qbs, Nat.reduceLeDiff, jA, qAn, qAi, qAp, zz, jm, zy, kY, zg, qO, qJ, qb, kQ, zQ, qh, qt, qV, tok]
            exact ⟨_, rfl⟩
          · intro sm2 lo2 x a' hc _
            simp only [f_scan_scanner_next, qj, qz6, qo, qx, qy, qm, kx, qz3, qz9, qL, zB, kF, jn, kN, qa, qf, qe, kI, reduceCtorEq, qF, qD, qP, qz, ki, qs, qc, qM, qi, qz1, qT, hsk, qr, qd, qg, hm1, zl, qE, qp, qu, kP, qQ, kh, hH1, kL, qz5, qz2, qAb, kq, qW, qA, jr, qbH, ym, qq, jp, zV, zT, jz, zW, yu, qAu, q9, ze, qk, ke, qAd, Nat.reduceEqDiff, kj, e1, decide_false, zx, zw, qw, qC, qz0, ↓reduceIte, kE, hix, qI, hlc, qB, hm2, zc, kV, qZ, hdc, hc, qcp, qcI, qbn, qbV]
            exact ⟨_, rfl⟩
        | false =>
          rw [hdt] at hdc
          rw [if_neg (by simp)]
          by_cases h34 : c = 34
          · rw [if_pos h34]
            rw [decide_eq_true h34] at hq
            refine fin _ 46 (qpU hz (by omega) hH1) ?_ ?_
            · intro sm2 lo2 k t n a' hc _
              have hH2 : (zi H id (sc s a'))[id]? = some (sc s a') := yd hH
              simp only [tok] at hc
              simp only [f_scan_scanner_next, qj, qz6, qo, qx, qy, qm, kx, qz3, qz9, qL, zB, kF, jn, kN, qa, qf, qe, kI, reduceCtorEq, qF, qD, qP, qz, ki, qs, qc, qM, qi, qz1, qT, hsk, qr, qd, qg, hm1, zl, qE, qp, qu, kP, qQ, kh, hH1, kL, qz5, qz2, qAb, kq, qW, qA, jr, qbH, ym, qq, jp, zV, zT, jz, zW, yu, qAu, q9, ze, qk, ke, qAd, Nat.reduceEqDiff, kj, e1, decide_false, zx, zw, qw, qC, qz0, ↓reduceIte, kE, hix, qI, hlc, qB, hm2, zc, kV, qZ, hdc, kK, hq, qK, hc, qN, zp, zo, zm, qz4, qz8, Nat.reduceAdd, qX, kS, zq, jg, kl, kZ, kO, kU, kp, qR, ql, kz, za, qU, qn, hH2, qcM, qg5, qd2, qlE, qaS, ky, Nat.reduceLT, kn, qAc, qAa, qd9, qbs, Nat.reduceLeDiff, jA, qAn, qAi, qAp, zz, jm, zy, kY, zg, qO, qJ, qb, kQ, zQ, qh, qt, qV, tok]
              exact ⟨_, rfl⟩
            · intro sm2 lo2 x a' hc _
              simp only [f_scan_scanner_next, qj, qz6, qo, qx, qy, qm, kx, qz3, qz9, qL, zB, kF, jn, kN, qa, qf, qe, kI, reduceCtorEq, qF, qD, qP, qz, ki, qs, qc, qM, qi, qz1, qT, hsk, qr, qd, qg, hm1, zl, qE, qp, qu, kP, qQ, kh, hH1, kL, qz5, qz2, qAb, kq, qW, qA, jr, qbH, ym, qq, jp, zV, zT, jz, zW, yu, qAu, q9, ze, qk, ke, qAd, Nat.reduceEqDiff, kj, e1, decide_false, zx, zw, qw, qC, qz0, ↓reduceIte, kE, hix, qI, hlc, qB, hm2, zc, kV, qZ, hdc, kK, hq, qK, hc, qcp, qcI, qbn, qbV]
              exact ⟨_, rfl⟩
          · rw [if_neg h34]
            rw [decide_eq_false h34] at hq
            refine fin _ 47 (qqc hs hz hL hH1) ?_ ?_
            · intro sm2 lo2 k t n a' hc _
              have hH2 : (zi H id (sc s a'))[id]? = some (sc s a') := yd hH
              simp only [tok] at hc
              simp only [f_scan_scanner_next, qj, qz6, qo, qx, qy, qm, kx, qz3, qz9, qL, zB, kF, jn, kN, qa, qf, qe, kI, reduceCtorEq, qF, qD, qP, qz, ki, qs, qc, qM, qi, qz1, qT, hsk, qr, qd, qg, hm1, zl, qE, qp, qu, kP, qQ, kh, hH1, kL, qz5, qz2, qAb, kq, qW, qA, jr, qbH, ym, qq, jp, zV, zT, jz, zW, yu, qAu, q9, ze, qk, ke, qAd, Nat.reduceEqDiff, kj, e1, decide_false, zx, zw, qw, qC, qz0, ↓reduceIte, kE, hix, qI, hlc, qB, hm2, zc, kV, qZ, hdc, kK, hq, qK, hc, qN, zp, zo, zm, qz4, qz8, Nat.reduceAdd, qX, kS, zq, jg, kl, kZ, kO, kU, kp, qR, ql, kz, za, qU, qn, hH2, qcM, qg5, qd2, qlE, qaS, ky, Nat.reduceLT, kn, qAc, qAa, qd9, qbs, Nat.reduceLeDiff, jA, qAn, qAi, qAp, zz, jm, zy, kY, zg, qO, qJ, qb, kQ, zQ, qh, qt, qV, tok]
              exact ⟨_, rfl⟩
            · intro sm2 lo2 x a' hc _
              simp only [f_scan_scanner_next, qj, qz6, qo, qx, qy, qm, kx, qz3, qz9, qL, zB, kF, jn, kN, qa, qf, qe, kI, reduceCtorEq, qF, qD, qP, qz, ki, qs, qc, qM, qi, qz1, qT, hsk, qr, qd, qg, hm1, zl, qE, qp, qu, kP, qQ, kh, hH1, kL, qz5, qz2, qAb, kq, qW, qA, jr, qbH, ym, qq, jp, zV, zT, jz, zW, yu, qAu, q9, ze, qk, ke, qAd, Nat.reduceEqDiff, kj, e1, decide_false, zx, zw, qw, qC, qz0, ↓reduceIte, kE, hix, qI, hlc, qB, hm2, zc, kV, qZ, hdc, kK, hq, qK, hc, qcp, qcI, qbn, qbV]
              exact ⟨_, rfl⟩
end W

set_option linter.unusedSimpArgs false
set_option linter.unusedVariables false
namespace W
open Go (IntKind BinOp UnOp)
set_option maxRecDepth 20000
structure Tk where
  k : Int
  p : Nat
  e : Nat
  t : List Nat
  n : Int
  deriving DecidableEq
def eTk (x : Tk) : D := .agg [.i .i64 x.k, .i .i64 x.p, .i .i64 x.e, .s x.t, .i .i32 x.n]
def qda (s : List Nat) : Nat → Nat → List Tk → Sum (Nat × Int) (List Tk)
  | 0, _, _ => .inl (0, 0)
  | f + 1, a, acc => match qhq s a with
    | .bad p e => .inl (p, e)
    | .ok k p e t n => if k = 0 then .inr (acc ++ [⟨k, p, e, t, n⟩]) else qda s f e (acc ++ [⟨k, p, e, t, n⟩])
noncomputable def qtO (pg : Pg) (fn : Fn) (H : List Obj) (t : Nat) (rest : C) (r : Option (Ex × St)) : Option Cr :=
  match r with
  | some (.nrm, st) => deferred pg (exL pg) fn H t rest st
  | some (.ret, st) => qaI fn H st
  | some (.pan v, st) => leave H true v st
  | _ => none
theorem qpF {pg : Pg} {f : Nat} {fn : Fn} {vs : List V} {H : List Obj} {t : Nat} {rest : C} (hf : pg.fn f = some fn) (hn : fn.np = vs.length) (hd : fn.dfr = some (t, rest)) (hr : fn.rcv = none) :
    zC pg f vs H = qtO pg fn H t rest (exL pg fn.body { env := ya 0 vs, H, lo := H.length }) := by
  rw [qfG]
  simp only [jy, hf, hn, hd, hr, and_self, if_true, qtO]
  all_goals rfl
theorem qrf {pg : Pg} {fn : Fn} {H : List Obj} {t : Nat} {rest : C} {st : St} : qtO pg fn H t rest (some (.nrm, st)) = deferred pg (exL pg) fn H t rest st := rfl
theorem qgE {fn : Fn} {H : List Obj} {st : St} : qaI fn H st = qhi H fn.own fn.res (some (.ret, st)) := rfl
theorem qsw {pg : Pg} {fn : Fn} {H : List Obj} {t : Nat} {rest : C} {st : St} : qtO pg fn H t rest (some (.ret, st)) = qaI fn H st := rfl
theorem qtt {i0 i1 : Nat} {H : List Obj} {lo : Nat} : ∃ e, exL pg f_scan_All_1.body ⟨(5, .d .ni) :: ya 0 [.ptr i0 0, .ptr i1 0], H, lo⟩ = some (.nrm, ⟨e, H, lo⟩) := by
  simp only [f_scan_All_1, qj, qz6, Nat.reduceAdd, qo, qx, qy, qm, qe, kI, qD, qA, qz, qL, qW, qa, qf, qk, ke, kr, qz7, kK, qkn, qp, qw, qC, qz0, ↓reduceIte, qS]
  exact ⟨_, rfl⟩
theorem qqV {i0 i1 : Nat} {H : List Obj} {lo : Nat} {p e : Int} {v : V} (h0 : H[i0]? = some (.cells [v])) (h1 : H[i1]? = some (.cells [.d .nil])) (hne : (i1 = i0) = False) : ∃ en lo', min lo (min i0 i1) ≤ lo' ∧
    exL pg f_scan_All_1.body ⟨(5, .ifc 66 (.d (.agg [.i .i64 p, .i .i64 e]))) :: ya 0 [.ptr i0 0, .ptr i1 0], H, lo⟩ = some (.nrm, ⟨en, zi (zi H i0 (.cells [.d .nil])) i1 (.cells [.osl [.agg [.i .i64 p, .i .i64 e]]]), lo'⟩) := by
  have h2 : (zi H i0 (.cells [.d .nil]))[i1]? = some (.cells [.d .nil]) := by rw [qcA hne]; exact h1
  simp only [f_scan_All_1, qj, qz6, Nat.reduceAdd, qo, qx, qy, qm, qe, kI, qD, qcE, qz, qL, qei, qa, qf, qk, ke, kr, qz7, kK, qh2, qp, qW, qw, qA, qC, ↓reduceIte, Nat.reduceEqDiff, qF, qkF, qnT, zl, kX, jc, qb3, qbZ, qb1, kx, qz3, qz9, zB, kF, jr, qbH, qpZ, jn, kN, qN, zp, zo, zm, qz4, qz8, qX, kS, zq, kl, qz1, kZ, Nat.reduceLT, qoM, qAa, qAc, kU, kp, yP, qb2, qAm, qAb, qz0, qS, jp, zV, qu, qcM, qAu, zT, qg5, qd2, qlE, zW, qQ, qaS, qbs, Nat.reduceLeDiff, jA, qAn, qAi, qAp, kq, zz, jm, zy, kY, zg, yu, kJ, qd1, List.reduceReplicate, zD, zR, jk, qiE, qdl, qdW, jK, jj, qdE, reduceCtorEq, qP, qK, kW, h0, qmG, ky, kf, kn, kg, zx, qd9, zc, qiP, qZ, h2, qlc, qm9, zw]
  refine ⟨_, _, ?_, rfl⟩
  omega
theorem qjA {x y a : Nat} {s : List Nat} (h : pre [x, y] (s.drop a) = true) : a + 2 ≤ s.length := by
  simp only [pre, decide_eq_true_eq] at h
  have := congrArg List.length h
  simp only [List.length_take, List.length_drop, qz4, qz8] at this
  omega
theorem qgx {s : List Nat} {j : Nat} {k : Int} {t : List Nat} {n : Int} {a' : Nat} (h : qfk s j = .ok k t n a') : j < a' ∧ a' ≤ s.length ∧ k ≠ 0 := by
  unfold qfk at h
  split at h
  · cases h
  · rename_i c l hL
    obtain ⟨hget, hdr, hlt⟩ := qf0 hL
    split at h
    · rename_i hc
      have hle := qdD cNm (s.drop j)
      have hk : 0 < run cNm (s.drop j) := by rw [hL]; simp [run, cNm, hc]
      simp only [List.length_drop] at hle
      unfold qiq at h
      split at h
      · cases h
      · split at h
        · cases h; exact ⟨by omega, by omega, by decide⟩
        · cases h; exact ⟨by omega, by omega, by decide⟩
    · split at h
      · rename_i hc
        have hle := qdD cHx (s.drop j)
        have hk : 0 < run cHx (s.drop j) := by rw [hL]; simp [run, cHx, hc]
        simp only [List.length_drop] at hle
        unfold qkh at h
        split at h
        · rename_i hp
          have := qek hp
          unfold qf5 at h
          split at h
          · cases h
          · cases h; exact ⟨by omega, by omega, by decide⟩
        · split at h
          · rename_i hp
            have := qek hp
            unfold qf5 at h
            split at h
            · cases h
            · cases h; exact ⟨by omega, by omega, by decide⟩
          · unfold qf5 at h
            split at h
            · cases h
            · cases h; exact ⟨by omega, by omega, by decide⟩
      · split at h
        · unfold qgB at h
          split at h
          · rename_i hp
            have := qek hp
            split at h
            · cases h
            · cases h; exact ⟨by omega, by omega, by decide⟩
          · cases h
        · unfold qfU at h
          split at h
          · rename_i hp
            have := qjA hp
            cases h; exact ⟨by omega, by omega, by decide⟩
          · split at h
            · rename_i hp
              have := qjA hp
              cases h; exact ⟨by omega, by omega, by decide⟩
            · split at h
              · rename_i hp
                have := qjA hp
                cases h; exact ⟨by omega, by omega, by decide⟩
              · split at h
                · rename_i hp
                  have := qjA hp
                  cases h; exact ⟨by omega, by omega, by decide⟩
                · split at h
                  · cases h
                  · cases h; exact ⟨by omega, by omega, by decide⟩
theorem qgV {s : List Nat} {a : Nat} (ha : a ≤ s.length) {k : Int} {p e : Nat} {t : List Nat} {n : Int} (h : qhq s a = .ok k p e t n) : a ≤ p ∧ p ≤ e ∧ e ≤ s.length ∧ (k ≠ 0 → a < e) := by
  unfold qhq at h
  split at h
  · cases h
  · rename_i j hj
    have hjl := qrG (s.drop a).length 0 a a (s.drop a) j (qAe _) hj
    simp only [List.length_drop] at hjl
    split at h
    · cases h
      exact ⟨by omega, by omega, by omega, fun h => absurd rfl h⟩
    · generalize hr : qfk s j = r at h
      cases r with
      | ok k' t' n' a' =>
        have := qgx hr
        simp only [qmr] at h
        cases h
        exact ⟨by omega, by omega, by omega, fun _ => by omega⟩
      | bad e => simp only [qmr] at h; cases h
def ARes (b : Nat) (r : Sum (Nat × Int) (List Tk)) (X : Option (Ex × St)) : Prop :=
  match r with
  | .inr L' => ∃ e H' lo', b ≤ lo' ∧ get 2 e = .ptr b 0 ∧ get 3 e = .ptr (b + 1) 0 ∧ H'[b]? = some (.cells [.d (slD eTk L')]) ∧ H'[b + 1]? = some (.cells [.d .nil]) ∧ X = some (.ret, ⟨e, H', lo'⟩)
  | .inl (p, x) => ∃ e H' lo' v, b ≤ lo' ∧ get 2 e = .ptr b 0 ∧ get 3 e = .ptr (b + 1) 0 ∧ H'[b]? = some (.cells [v]) ∧ H'[b + 1]? = some (.cells [.d .nil]) ∧ X = some (.pan (.ifc 66 (.d (.agg [.i .i64 (p : Nat), .i .i64 x]))), ⟨e, H', lo'⟩)
theorem ARes.good {b : Nat} {L' : List Tk} {e : Env} {H' : List Obj} {lo' : Nat} {X : Option (Ex × St)} (h5 : X = some (.ret, ⟨e, H', lo'⟩)) (h1 : b ≤ lo') (h2 : get 2 e = .ptr b 0) (h3 : get 3 e = .ptr (b + 1) 0) (h4 : H'[b]? = some (.cells [.d (slD eTk L')])) (h6 : H'[b + 1]? = some (.cells [.d .nil])) : ARes b (.inr L') X :=
  ⟨e, H', lo', h1, h2, h3, h4, h6, h5⟩
theorem ARes.bad {b p : Nat} {x : Int} {e : Env} {H' : List Obj} {lo' : Nat} {v : V} {X : Option (Ex × St)} (h5 : X = some (.pan (.ifc 66 (.d (.agg [.i .i64 (p : Nat), .i .i64 x]))), ⟨e, H', lo'⟩)) (h1 : b ≤ lo') (h2 : get 2 e = .ptr b 0) (h3 : get 3 e = .ptr (b + 1) 0) (h4 : H'[b]? = some (.cells [v])) (h6 : H'[b + 1]? = some (.cells [.d .nil])) : ARes b (.inl (p, x)) X :=
  ⟨e, H', lo', v, h1, h2, h3, h4, h6, h5⟩
theorem qrh {s : List Nat} (hs : ∀ c ∈ s, c < 256) (hz : s.length ≤ 1000000000000) {b : Nat} :
    ∀ (f a : Nat) (L : List Tk) (H : List Obj) (lo : Nat), s.length - a < f → a ≤ s.length → L.length ≤ a → b ≤ lo → lo ≤ H.length → H[b]? = some (.cells [slV eTk L]) → H[b + 1]? = some (.cells [.d .nil]) → H[b + 2]? = some (sc s a) →
      ARes b (qda s f a L) (j5 0 [2, 3] (qel pg (.ptr b 0) (.ptr (b + 1) 0) (.ptr (b + 2) 0) H lo)) := by
  intro f
  induction f with
  | zero => intro a L H lo h; omega
  | succ f ih =>
    intro a L H lo hf ha hLa hlo hloH h0 h1 h2
    have hn := qqK hs hz ha h2
    rw [qiS, qda]
    have d1 : (b = b + 2) = False := by simp
    have d2 : (b + 1 = b + 2) = False := by simp
    generalize hr : qhq s a = r at hn
    cases r with
    | bad p x =>
      obtain ⟨sm, lo1, a', g1, g2, g3, hc⟩ := hn
      have e0 : (zi H (b + 2) (sc s a'))[b]? = some (.cells [slV eTk L]) := by rw [qcA d1]; exact h0
      have e1 : (zi H (b + 2) (sc s a'))[b + 1]? = some (.cells [.d .nil]) := by rw [qcA d2]; exact h1
      refine ARes.bad (e := ?e) (lo' := min lo lo1) ?h5 (by omega) ?g2 ?g3 e0 e1
      case h5 =>
        simp only [qcD, kz, qq, qx, qy, qm, qe, kI, Nat.reduceEqDiff, qF, qD, qP, qz, qL, ki, qs, qz3, qz9, qc, qM, qi, qz1, qT, hc, qr, qd, qg, qcp, qbn, qcI]
        rfl
      case g2 => rfl
      case g3 => rfl
    | ok k p e t n =>
      obtain ⟨sm, lo1, g1, g2, g3, hc⟩ := hn
      have hpr := qgV ha hr
      have e0 : (zi H (b + 2) (sc s e))[b]? = some (.cells [slV eTk L]) := by rw [qcA d1]; exact h0
      have e1 : (zi H (b + 2) (sc s e))[b + 1]? = some (.cells [.d .nil]) := by rw [qcA d2]; exact h1
      have e2 : (zi H (b + 2) (sc s e))[b + 2]? = some (sc s e) := yd h2
      have d3 : (b + 1 = b) = False := by simp
      have d4 : (b + 2 = b) = False := by simp
      have e3 : (zi (zi H (b + 2) (sc s e)) b (.cells [.undef]))[b]? = some (.cells [.undef]) := yd e0
      have happ : qaV 5 48 (slV eTk L) (.d (.sl [.agg [.i .i64 k, .i .i64 p, .i .i64 e, .s t, .i .i32 n]])) = some (slV eTk (L ++ [⟨k, p, e, t, n⟩])) :=
        qj9 (x := (⟨k, p, e, t, n⟩ : Tk)) (fun _ => rfl) (qke (by omega) (by omega))
      simp only [tok] at hc
      have e4 : ∀ o, (zi (zi H (b + 2) (sc s e)) b o)[b]? = some o := fun o => yd e0
      have e5 : ∀ o, (zi (zi H (b + 2) (sc s e)) b o)[b + 1]? = some (.cells [.d .nil]) := fun o => by rw [qcA d3]; exact e1
      have e6 : ∀ o, (zi (zi H (b + 2) (sc s e)) b o)[b + 2]? = some (sc s e) := fun o => by rw [qcA d4]; exact e2
      by_cases hk : k = 0
      · subst hk
        have d5 : (b = b + 1) = False := by simp
        simp only [if_true]
        have key : ∃ e', j5 0 [2, 3] (yO pg (exL pg qcD ⟨[(2, kA (.ptr b 0)), (3, kA (.ptr (b + 1) 0)), (4, kA (.ptr (b + 2) 0))], H, lo⟩) qcC) = some (.ret, ⟨e', zi (zi (zi H (b + 2) (sc s e)) b (.cells [.d (slD eTk (L ++ [⟨0, p, e, t, n⟩]))])) (b + 1) (.cells [.d .nil]), min (min (min (min (min lo lo1) b) b) b) (b + 1)⟩) ∧ get 2 e' = .ptr b 0 ∧ get 3 e' = .ptr (b + 1) 0 := by
          simp only [qcD, kz, qq, qx, qy, qm, qe, kI, Nat.reduceEqDiff, qF, qD, qP, qz, qL, ki, qs, qz3, qz9, qc, qM, qi, qz1, qT, hc, qr, qd, qg, qW, kx, zB, kF, jr, jn, kN, qN, zc, kV, zp, qZ, zo, zm, qz4, qz8, qz6, Nat.reduceAdd, qX, kS, zq, jg, kl, kZ, kO, kU, kp, qa, qf, qh4, e0, qz2, qAa, qfp, qQ, qbs, Nat.reduceLeDiff, jA, qAn, qAi, qAp, kq, zz, jm, zy, kY, zg, qp, kJ, qd1, List.reduceReplicate, qA, Nat.reduceLT, zD, zR, jk, qiE, qdl, qdW, jK, jj, yy, qeK, qfJ, jb, happ, qhe, kW, e3, qly, qne, kf, kn, kg, kD, qu, qcM, qAu, qe0, qaS, qjO, qAb, qk, ke, kr, qz7, kK, kj, decide_true, qw, qC, ↓reduceIte, kh, e4, kL, qql, qtg, ky, qK, e5, qmG, qO, kG, ko]
          exact ⟨_, rfl, rfl, rfl⟩
        obtain ⟨e', k1, k2, k3⟩ := key
        exact ARes.good k1 (by omega) k2 k3 (by rw [qcA d5]; exact e4 _) (yd (e5 _))
      · have q1 : (k = 0) = False := eq_false hk
        simp only [hk, if_false]
        have ih' := ih e (L ++ [⟨k, p, e, t, n⟩]) (zi (zi H (b + 2) (sc s e)) b (.cells [slV eTk (L ++ [⟨k, p, e, t, n⟩])])) (min (min (min lo lo1) b) b) (by omega) (by omega) (by simp only [List.length_append, qz4, qz8]; omega) (by omega) (by simp only [qB]; omega) (e4 _) (e5 _) (e6 _)
        simp only [qcD, kz, qq, qx, qy, qm, qe, kI, Nat.reduceEqDiff, qF, qD, qP, qz, qL, ki, qs, qz3, qz9, qc, qM, qi, qz1, qT, hc, qr, qd, qg, qW, kx, zB, kF, jr, jn, kN, qN, zc, kV, zp, qZ, zo, zm, qz4, qz8, qz6, Nat.reduceAdd, qX, kS, zq, jg, kl, kZ, kO, kU, kp, qa, qf, qh4, e0, qz2, qAa, qfp, qQ, qbs, Nat.reduceLeDiff, jA, qAn, qAi, qAp, kq, zz, jm, zy, kY, zg, qp, kJ, qd1, List.reduceReplicate, qA, Nat.reduceLT, zD, zR, jk, qiE, qdl, qdW, jK, jj, yy, qeK, qfJ, jb, happ, qhe, kW, e3, qly, qne, kf, kn, kg, kD, qu, qcM, qAu, qe0, qaS, qjO, qAb, qk, ke, kr, qz7, kK, kj, q1, decide_false, qw, qC, qz0, ↓reduceIte, qS, qR, ql, qn, qfR]
        exact ih'
theorem qmg {pg : Pg} {fn : Fn} {H : List Obj} {t hd : Nat} {first cap : List V} {rest : C} {st st' : St} (h : get t st.env = .fn hd first cap) (hk : V.ok.oks (first ++ cap) = true) (hx : exL pg rest st = some (.ret, st')) : deferred pg (exL pg) fn H t rest st = handle pg (exL pg) fn H hd (first ++ cap) (.d .ni) st' := by
  simp only [deferred, h, hk, hx, cond_true]
theorem qmC {pg : Pg} {fn : Fn} {H : List Obj} {t hd : Nat} {first cap : List V} {rest : C} {st st' : St} {v : V} (h : get t st.env = .fn hd first cap) (hk : V.ok.oks (first ++ cap) = true) (hx : exL pg rest st = some (.pan v, st')) (hv : qsi v = true) : deferred pg (exL pg) fn H t rest st = handle pg (exL pg) fn H hd (first ++ cap) v st' := by
  simp only [deferred, h, hk, hx, hv, cond_true]
theorem qkj {pg : Pg} {fn hf : Fn} {H : List Obj} {hd d : Nat} {vs : List V} {v : V} {st st' : St} (h1 : pg.fn hd = some hf) (h2 : hf.rcv = some d) (h3 : (qAk hf.np vs.length && hf.res.isEmpty) = true) (hx : exL pg hf.body ⟨(d, v) :: ya 0 vs, st.H, st.lo⟩ = some (.nrm, st')) :
    handle pg (exL pg) fn H hd vs v st = qaI fn H ⟨st.env, st'.H, st'.lo⟩ := by
  simp only [handle, h1, h2, h3, hx, cond_true]
theorem qwF {s : List Nat} (hs : ∀ c ∈ s, c < 256) (hz : s.length ≤ 1000000000000) {H : List Obj} {e : Env} (g0 : get 0 e = .d (.s s)) (g2 : get 2 e = .ptr H.length 0) (g3 : get 3 e = .ptr (H.length + 1) 0) :
    ARes H.length (qda s (s.length + 1) 0 []) (exL pg qf3 ⟨e, H ++ [.cells [.d .nil]] ++ [.cells [.d .nil]], H.length⟩) := by
  have hl := qrh hs hz (b := H.length) (s.length + 1) 0 [] (H ++ [.cells [.d .nil]] ++ [.cells [.d .nil]] ++ [sc s 0]) H.length (by omega) (by omega) (by simp) (qAe _) (by simp) (by simp [slV]) (by simp) (by simp)
  have hz0 : ((0 : Nat) : Int) = 0 := rfl
  have hs0 : slV eTk [] = .d .nil := rfl
  simp only [qf3, qx, qS, qf, qy, qm, qe, kI, g0, qA, qz, qL, qW, zf, qz3, qz9, qD, jg, ky, kS, qz4, qz8, qz6, Nat.reduceAdd, Nat.reduceLT, jO, qAa, zF, zG, zz, jm, zy, kY, zg, qp, qlj, zm, qX, zq, kl, qz1, qrt, List.length_append, ki, qP, qa, qq, qfR, Nat.reduceEqDiff, qF, g2, kz, g3]
  exact hl
theorem qqY {s : List Nat} (hs : ∀ c ∈ s, c < 256) (hz : s.length ≤ 1000000000000) {H : List Obj} :
    ∃ lo, H.length ≤ lo ∧ zC pg 16 [.d (.s s)] H = some ⟨false, true, (if 20000 < s.length then .tup [.d .nil, .d (.sl [.agg [.i .i64 20000, .i .i64 34]])] else match qda s (s.length + 1) 0 [] with
      | .inr L => .tup [.d (slD eTk L), .d .nil]
      | .inl (p, x) => .tup [.d .nil, .d (.sl [.agg [.i .i64 (p : Nat), .i .i64 x]])]), H, lo⟩ := by
  rw [qpF (fn := f_scan_All) rfl rfl rfl rfl]
  have a0 : (H ++ [Obj.cells [.d .nil]])[H.length]? = some (.cells [.d .nil]) := by simp
  have a1 : ((H ++ [Obj.cells [.d .nil]]) ++ [Obj.cells [.d .nil]])[H.length]? = some (.cells [.d .nil]) := by simp
  have a2 : ((H ++ [Obj.cells [.d .nil]]) ++ [Obj.cells [.d .nil]])[H.length + 1]? = some (.cells [.d .nil]) := by simp
  have d3 : (H.length + 1 = H.length) = False := by simp
  have d5 : (H.length = H.length + 1) = False := by simp
  have b1 : ∀ o, (zi ((H ++ [Obj.cells [.d .nil]]) ++ [Obj.cells [.d .nil]]) H.length o)[H.length + 1]? = some (.cells [.d .nil]) := fun o => by rw [qcA d3]; exact a2
  have b2 : ∀ o o', (zi (zi ((H ++ [Obj.cells [.d .nil]]) ++ [Obj.cells [.d .nil]]) H.length o) (H.length + 1) o')[H.length]? = some o := fun o o' => by rw [qcA d5]; exact yd a1
  have b3 : ∀ o o', (zi (zi ((H ++ [Obj.cells [.d .nil]]) ++ [Obj.cells [.d .nil]]) H.length o) (H.length + 1) o')[H.length + 1]? = some o' := fun o o' => yd (b1 o)
  by_cases h1 : 20000 < s.length
  · have e1 : ((20000 : Int) < (s.length : Int)) = True := by rw [eq_iff_iff]; simp; omega
    rw [if_pos h1]
    simp only [f_scan_All, qj, qz6, qo, qx, qy, qm, qja, qz3, qz9, qL, ki, List.length_append, qz4, qz8, qa, qf, qe, kI, reduceCtorEq, qF, qD, qA, qz, qW, q9, ze, qp, qk, ke, kr, qz7, kK, je, e1, decide_true, qw, qC, ↓reduceIte, zf, zq, ky, kS, Nat.reduceAdd, Nat.reduceLT, jO, qAa, qAc, zF, zG, zz, jm, zy, kY, zg, kJ, qd1, List.reduceReplicate, zD, zR, jk, qiE, qdl, qdW, qz1, jK, jj, yy, qN, Nat.reduceEqDiff, qP, qK, kW, a1, qmG, qX, kl, kf, kn, kg, qAs, kp, zc, qiP, qZ, b1, qlc, qm9, qO, ko, qsw, qgE, qJ, qb, kQ, qj1, kh, b2, kL, qz2, qAb, kq, b3, qll, qh, qt, z8]
    refine ⟨_, ?_, qdV rfl (Nat.zero_le _) (by simp only; omega)⟩
    simp only; omega
  · have e1 : ((20000 : Int) < (s.length : Int)) = False := by rw [eq_iff_iff]; simp; omega
    rw [if_neg h1]
    have hb : ∃ e, get 0 e = .d (.s s) ∧ get 2 e = .ptr H.length 0 ∧ get 3 e = .ptr (H.length + 1) 0 ∧ get 11 e = .fn 27 [] [.ptr H.length 0, .ptr (H.length + 1) 0] ∧ exL pg f_scan_All.body ⟨ya 0 [.d (.s s)], H, H.length⟩ = some (.nrm, ⟨e, H ++ [.cells [.d .nil]] ++ [.cells [.d .nil]], H.length⟩) := by
      simp only [f_scan_All, qj, qz6, qo, qx, qy, qm, qja, qz3, qz9, qL, ki, List.length_append, qz4, qz8, qa, qf, qe, kI, reduceCtorEq, qF, qD, qA, qz, qW, q9, ze, qp, qk, ke, kr, qz7, kK, je, e1, decide_false, qw, qC, qz0, ↓reduceIte, qS, qou, Nat.reduceEqDiff, qP, zY, jf, qux, qz1, qss, quK]
      exact ⟨_, rfl, rfl, rfl, rfl, rfl⟩
    obtain ⟨e, g0, g2, g3, g11, hb⟩ := hb
    rw [hb, qrf]
    have hD := qwF hs hz g0 g2 g3
    generalize qda s (s.length + 1) 0 [] = r at hD
    cases r with
    | inr L =>
      obtain ⟨e', H', lo', k1, k2, k3, k4, k5, k6⟩ := hD
      rw [qmg g11 rfl k6]
      obtain ⟨e2, hh⟩ := qtt (i0 := H.length) (i1 := H.length + 1) (H := H') (lo := lo')
      rw [qkj (hf := f_scan_All_1) (d := 5) rfl rfl rfl hh, qgE]
      have hr : f_scan_All.res = [.cell 2 ⟨1, false⟩, .cell 3 ⟨1, false⟩] := rfl
      have ho : f_scan_All.own = false := rfl
      simp only [ho, hr, qJ, qb, kQ, k2, qj1, kh, k4, kL, qz2, qAb, kq, k3, k5, qh, qt, z8]
      exact ⟨_, k1, qdV rfl (Nat.zero_le _) k1⟩
    | inl q =>
      obtain ⟨p, x⟩ := q
      obtain ⟨e', H', lo', v, k1, k2, k3, k4, k5, k6⟩ := hD
      rw [qmC g11 rfl k6 rfl]
      obtain ⟨e2, lo2, hlo, hh⟩ := qqV (p := (p : Int)) (e := x) (lo := lo') k4 k5 d3
      rw [qkj (hf := f_scan_All_1) (d := 5) rfl rfl rfl hh, qgE]
      have hr : f_scan_All.res = [.cell 2 ⟨1, false⟩, .cell 3 ⟨1, false⟩] := rfl
      have ho : f_scan_All.own = false := rfl
      have q1 : (zi H' H.length (.cells [.d .nil]))[H.length + 1]? = some (.cells [.d .nil]) := by rw [qcA d3]; exact k5
      have q2 : ∀ o', (zi (zi H' H.length (.cells [.d .nil])) (H.length + 1) o')[H.length]? = some (.cells [.d .nil]) := fun o' => by rw [qcA d5]; exact yd k4
      have q3 : ∀ o', (zi (zi H' H.length (.cells [.d .nil])) (H.length + 1) o')[H.length + 1]? = some o' := fun o' => yd q1
      simp only [ho, hr, qJ, qb, kQ, k2, qj1, kh, q2, kL, qz2, qAb, kq, k3, q3, qll, qh, qt, z8]
      refine ⟨_, ?_, qdV rfl (Nat.zero_le _) (by simp only; omega)⟩
      simp only; omega
end W

