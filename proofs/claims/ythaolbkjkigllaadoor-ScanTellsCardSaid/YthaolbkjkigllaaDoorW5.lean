/-
  ScanTells: part 5 of what the proof rests on (a value semantics for a part of the language, sound against the model; the walks).
-/
import Derived.Below
import Derived.Test.YthaolbkjkigllaaDoorW4
/-
  What an operation looks at, and what it changes.
-/
set_option linter.unusedSimpArgs false
set_option linter.unusedVariables false
open Bool renaming false_eq_true → qzL, and_self → qzM, or_true → qzR, or_self → qzY, and_eq_true → qz0, cond_eq_ite → qz2, not_true → qz6, or_false → qz7, not_false → qAc
open List renaming map_cons → qzN, getElem?_cons_zero → qzO, getElem?_cons_succ → qzQ, length_cons → qzS, map_nil → qzT, set_cons_zero → qzU, length_nil → qzV, set_cons_succ → qzX, take_succ_cons → qz3, drop_zero → qz9, take_zero → qAa, getElem?_eq_getElem → qAf
open Nat renaming zero_add → qzP, le_refl → qzZ, beq → qz5, eq_of_beq_eq_true → qz8, min_self → qAb, add_zero → qAg
open Option renaming map_some → qzW, bind_eq_some_iff → qz1, bind_eq_bind → qz4, pure_def → qAd
open Int renaming cast_ofNat_Int → qAe
namespace W
open Go (IntKind BinOp UnOp)
structure Fr (k : OpK) (st st2 : St) (r r2 : Or) : Prop where
  pan : r2.pan = r.pan
  same : r2.same = r.same
  v : r2.v = r.v
  inn : ∀ s, s ∈ k.boxW → get s r2.st.env = get s r.st.env
  out1 : ∀ s, s ∉ k.boxW → get s r.st.env = get s st.env
  out2 : ∀ s, s ∉ k.boxW → get s r2.st.env = get s st2.env
  H1 : k.free = true → r.same = true → r.st.H = st.H ∧ r2.st.H = st2.H
  H2 : st2.H = st.H → r2.st.H = r.st.H
  lp : ∀ n, qb0 n r.st.env = qb0 n st.env
  lp2 : ∀ n, qb0 n r2.st.env = qb0 n st2.env
def qy2 (k : OpK) (e e2 : Env) : Prop := ∀ s, s ∈ yr k.rds ∨ s ∈ k.boxR → get s e2 = get s e
theorem qgG {e e2 : Env} {x : O} (h : ∀ s, s ∈ yr [x] → get s e2 = get s e) : rd e2 x = rd e x := by
  cases x with
  | t n => simp only [rd]; rw [h n (by simp [yr])]
  | mv n => simp only [rd]; rw [h n (by simp [yr])]
  | c x => rfl
  | f i => rfl
  | g i x => rfl
theorem qb2 (a b : List O) : yr (a ++ b) = yr a ++ yr b := by
  induction a with
  | nil => rfl
  | cons x l ih => cases x <;> simp [yr, ih]
theorem qaK (x : O) (l : List O) : yr (x :: l) = yr [x] ++ yr l := qb2 [x] l
theorem qfG {e e2 : Env} : ∀ {l : List O}, (∀ s, s ∈ yr l → get s e2 = get s e) → l.map (rd e2) = l.map (rd e)
  | [], _ => rfl
  | x :: l, h => by
    rw [qaK] at h
    simp only [qzN]
    rw [qgG (fun s hs => h s (by simp [hs])), qfG (fun s hs => h s (by simp [hs]))]
theorem qcp {e e2 : Env} {x : Option O} (h : ∀ s, s ∈ yr x.toList → get s e2 = get s e) : jY e2 x = jY e x := by
  cases x with
  | none => rfl
  | some x => simp only [jY]; rw [qgG (x := x) (by simpa using h)]
theorem qqL (n m : Nat) (e : Env) : qb0 n ((m, .undef) :: e) = qb0 n e := rfl
theorem qhA (n : Nat) (x : O) (e : Env) : qb0 n (spent x e) = qb0 n e := by cases x <;> rfl
theorem qc5 (n : Nat) : ∀ (l : List O) (e : Env), qb0 n (spentAll l e) = qb0 n e
  | [], _ => rfl
  | x :: l, e => by simp only [spentAll]; rw [qc5 n l, qhA]
theorem qeT (x : O) (e : Env) (k : Nat) : get k (spent x e) = if k ∈ qat [x] then .undef else get k e := yI [x] e k
variable {st st2 : St} {r : Or}
theorem ql2 {k : OpK} (hst : r.st = st) {r2 : Or} (h2 : r2 = { r with st := st2 }) (hW : ∀ s, s ∈ k.boxW → get s st2.env = get s st.env) : Fr k st st2 r r2 := by
  subst h2
  refine ⟨rfl, rfl, rfl, fun s hs => (by rw [hst]; exact hW s hs), fun s _ => (by rw [hst]), fun s _ => rfl, fun _ _ => ⟨by rw [hst], rfl⟩, fun h => (by rw [hst]; exact h), fun n => (by rw [hst]), fun n => rfl⟩
theorem qfM {k : OpK} {l : List O} {v : V} (hW : k.boxW = qat l) {same : Bool} {pan : Bool} {H' H2' : List Obj} {lo lo2 : Nat} (h1 : k.free = true → same = true → H' = st.H ∧ H2' = st2.H) (h2 : st2.H = st.H → H2' = H') :
    Fr k st st2 ⟨pan, same, v, { env := spentAll l st.env, H := H', lo := lo }⟩ ⟨pan, same, v, { env := spentAll l st2.env, H := H2', lo := lo2 }⟩ := by
  refine ⟨rfl, rfl, rfl, fun s hs => ?_, fun s hs => ?_, fun s hs => ?_, h1, h2, fun n => qc5 n l _, fun n => qc5 n l _⟩
  · rw [hW] at hs; simp only [yI, hs, if_true]
  · rw [hW] at hs; simp only [yI, hs, if_false]
  · rw [hW] at hs; simp only [yI, hs, if_false]
theorem jf {v : V} (h : ok v st = some r) : r.st = st ∧ ok v st2 = some { r with st := st2 } := by
  simp only [ok, Option.some.injEq] at h; subst h; exact ⟨rfl, rfl⟩
theorem qvh {c a b : O} (h : qgh c a b st = some r) (e1 : rd st2.env c = rd st.env c) (e2 : rd st2.env a = rd st.env a) (e3 : rd st2.env b = rd st.env b) : r.st = st ∧ qgh c a b st2 = some { r with st := st2 } := by
  unfold qgh at h ⊢; rw [e1, e2, e3]
  split at h
  · rename_i hz; (try simp only [hz]); exact jf h
  · cases h
theorem qsX {z : List D} {p : List (Nat × Nat × O)} (h : qea z p st = some r) (e : (p.map fun (o, s, x) => (o, s, rd st2.env x)) = (p.map fun (o, s, x) => (o, s, rd st.env x))) : r.st = st ∧ qea z p st2 = some { r with st := st2 } := by
  unfold qea at h ⊢; rw [e]
  cases hk : qdg (p.map fun (o, s, x) => (o, s, rd st.env x)) with
  | false => rw [hk] at h; simp at h
  | true =>
    rw [hk] at h
    simp only [qz6, cond_false] at h ⊢
    split at h
    · rename_i hz; (try simp only [hz]); exact jf h
    · cases h
theorem qlJ {z : D} {n : Nat} {p : List (Nat × O)} (h : qaS z n p st = some r) (e : (p.map fun (j, x) => (j, rd st2.env x)) = (p.map fun (j, x) => (j, rd st.env x))) : r.st = st ∧ qaS z n p st2 = some { r with st := st2 } := by
  unfold qaS at h ⊢; rw [e]
  split at h
  · rename_i hz; (try simp only [hz])
    split at h
    · rename_i hw; (try simp only [hw, if_true]); exact jf h
    · cases h
  · cases h
theorem qoB {x : O} (h : qcd x st = some r) (e1 : rd st2.env x = rd st.env x) : r.st = st ∧ qcd x st2 = some { r with st := st2 } := by
  unfold qcd at h ⊢; rw [e1]
  split at h
  · rename_i hz; (try simp only [hz]); exact jf h
  · rename_i hz; (try simp only [hz]); exact jf h
  · rename_i hz; (try simp only [hz]); exact jf h
  · cases h
theorem qwN {op : BinOp} {kd : Kd} {x y : O} (h : qjk op kd x y st = some r) (e1 : rd st2.env x = rd st.env x) (e2 : rd st2.env y = rd st.env y) : r.st = st ∧ qjk op kd x y st2 = some { r with st := st2 } := by
  unfold qjk at h ⊢; rw [e1, e2]
  split at h
  · rename_i hz; (try simp only [hz]); exact jf h
  · cases h
theorem qzu {op : UnOp} {x : O} (h : eUn op x st = some r) (e1 : rd st2.env x = rd st.env x) : r.st = st ∧ eUn op x st2 = some { r with st := st2 } := by
  unfold eUn at h ⊢; rw [e1]
  split at h
  · rename_i hz; (try simp only [hz])
    split at h
    · rename_i hw; (try simp only [hw]); exact jf h
    · cases h
  · cases h
theorem qug {k : IntKind} {x : O} (h : qgl k x st = some r) (e1 : rd st2.env x = rd st.env x) : r.st = st ∧ qgl k x st2 = some { r with st := st2 } := by
  unfold qgl at h ⊢; rw [e1]
  split at h
  · rename_i hz; (try simp only [hz]); exact jf h
  · cases h
theorem qsP {x : O} (h : qe3 x st = some r) (e1 : rd st2.env x = rd st.env x) : r.st = st ∧ qe3 x st2 = some { r with st := st2 } := by
  unfold qe3 at h ⊢; rw [e1]
  split at h
  · rename_i hz; (try simp only [hz]); exact jf h
  · cases h
theorem qut {x : O} (h : qgE x st = some r) (e1 : rd st2.env x = rd st.env x) (hH : st2.H = st.H) : r.st = st ∧ qgE x st2 = some { r with st := st2 } := by
  unfold qgE at h ⊢; rw [e1, hH]
  simp only [qz2] at h ⊢
  split at h
  · rename_i hz; (try simp only [hz]); exact jf h
  · rename_i hz; (try simp only [hz])
    split at h
    · rename_i hw; (try simp only [hw]); exact jf h
    · cases h
  · rename_i hz; (try simp only [hz])
    split at h
    · rename_i hw; (try simp only [hw])
      split at h
      · rename_i hw2; (try simp only [hw2, if_true])
        split at h
        · rename_i hw3; (try simp only [hw3])
          split at h
          · rename_i hw4; (try simp only [hw4]); exact jf h
          · cases h
        · cases h
      · cases h
    · cases h
  · cases h
theorem qud {x : O} (h : qgQ x st = some r) (e1 : rd st2.env x = rd st.env x) : r.st = st ∧ qgQ x st2 = some { r with st := st2 } := by
  unfold qgQ at h ⊢; rw [e1]
  split at h
  · rename_i hz; (try simp only [hz]); exact jf h
  · cases h
theorem qtC {t : Nat} {x : O} (h : qf4 t x st = some r) (e1 : rd st2.env x = rd st.env x) : r.st = st ∧ qf4 t x st2 = some { r with st := st2 } := by
  unfold qf4 at h ⊢; rw [e1]
  split at h
  · rename_i hz; (try simp only [hz, if_true]); exact jf h
  · cases h
theorem qoL {t : Nat} {z : D} {x : O} (h : qcb t z x st = some r) (e1 : rd st2.env x = rd st.env x) : r.st = st ∧ qcb t z x st2 = some { r with st := st2 } := by
  unfold qcb at h ⊢; rw [e1]
  split at h
  · rename_i t' v hz
    (try simp only [hz])
    cases hb : qz5 t' t with
    | true => simp only [hb, cond_true] at h ⊢; exact jf h
    | false => simp only [hb, cond_false] at h ⊢; exact jf h
  · rename_i hz; (try simp only [hz]); exact jf h
  · cases h
theorem quh {f : Nat} {a b : List O} (h : qij f a b st = some r) (e1 : a.map (rd st2.env) = a.map (rd st.env)) (e2 : b.map (rd st2.env) = b.map (rd st.env)) : r.st = st ∧ qij f a b st2 = some { r with st := st2 } := by
  unfold qij at h ⊢; rw [e1, e2]
  split at h
  · rename_i hz; (try simp only [hz, if_true]); exact jf h
  · cases h
theorem qrq {x : O} {a b : Option O} (h : qdC x a b st = some r) (e1 : rd st2.env x = rd st.env x) (e2 : jY st2.env a = jY st.env a) (e3 : jY st2.env b = jY st.env b) : r.st = st ∧ qdC x a b st2 = some { r with st := st2 } := by
  unfold qdC at h ⊢; rw [e1, e2, e3]
  split at h
  · rename_i hz1 hz2; (try simp only [hz1, hz2])
    split at h
    · rename_i hw; (try simp only [hw]); exact jf h
    · cases h
  · cases h
theorem qq9 {n : Nat} {x : O} {a b : Option O} (h : qdK n x a b st = some r) (e1 : rd st2.env x = rd st.env x) (e2 : jY st2.env a = jY st.env a) (e3 : jY st2.env b = jY st.env b) : r.st = st ∧ qdK n x a b st2 = some { r with st := st2 } := by
  unfold qdK at h ⊢; rw [e1, e2, e3]
  split at h
  · rename_i hz1 hz2; (try simp only [hz1, hz2])
    split at h
    · rename_i hw; (try simp only [hw]); exact jf h
    · cases h
  · cases h
theorem qr4 {n : Nat} {x : O} {a b : Option O} (h : qdD n x a b st = some r) (e1 : rd st2.env x = rd st.env x) (e2 : jY st2.env a = jY st.env a) (e3 : jY st2.env b = jY st.env b) : r.st = st ∧ qdD n x a b st2 = some { r with st := st2 } := by
  unfold qdD at h ⊢; rw [e1, e2, e3]
  split at h
  · rename_i hz1 hz2; (try simp only [hz1, hz2])
    split at h
    · rename_i hw; (try simp only [hw]); exact jf h
    · cases h
  · cases h
theorem qsd {n : Nat} {x : O} {a : Option O} {b m : O} (h : qdH n x a b m st = some r) (e1 : rd st2.env x = rd st.env x) (e2 : jY st2.env a = jY st.env a) (e3 : rd st2.env b = rd st.env b) (e4 : rd st2.env m = rd st.env m) : r.st = st ∧ qdH n x a b m st2 = some { r with st := st2 } := by
  unfold qdH at h ⊢; rw [e1, e2, e3, e4]
  split at h
  · rename_i hz1 hz2 hz3; (try simp only [hz1, hz2, hz3])
    split at h
    · rename_i hw; (try simp only [hw]); exact jf h
    · cases h
  · cases h
theorem qnf {x : O} {o : Nat} {l : L} (h : qaD x o l st = some r) (e1 : rd st2.env x = rd st.env x) : r.st = st ∧ qaD x o l st2 = some { r with st := st2 } := by
  unfold qaD at h ⊢; rw [e1]
  split at h
  · rename_i hz; (try simp only [hz]); exact jf h
  · rename_i hz; (try simp only [hz]); exact jf h
  · rename_i hz; (try simp only [hz])
    split at h
    · rename_i hw; (try simp only [hw])
      split at h
      · rename_i hq; (try simp only [hq, if_true]); exact jf h
      · cases h
    · cases h
  · cases h
theorem qty {x : O} {o : Nat} {l : L} (h : qfg x o l st = some r) (e1 : rd st2.env x = rd st.env x) : r.st = st ∧ qfg x o l st2 = some { r with st := st2 } := by
  unfold qfg at h ⊢; rw [e1]
  split at h
  · rename_i hz; (try simp only [hz])
    split at h
    · rename_i hw; (try simp only [hw]); exact jf h
    · cases h
  · rename_i hz; (try simp only [hz])
    split at h
    · rename_i hw; (try simp only [hw]); exact jf h
    · cases h
  · cases h
theorem qm0 {x i : O} {n : Nat} {arr : Option Nat} (h : qae x i n arr st = some r) (e1 : rd st2.env x = rd st.env x) (e2 : rd st2.env i = rd st.env i) : r.st = st ∧ qae x i n arr st2 = some { r with st := st2 } := by
  unfold qae at h ⊢; rw [e2]
  split at h
  · rename_i hz; (try simp only [hz])
    cases arr with
    | some len =>
      simp only [qcS, qz2, e1] at h ⊢
      split at h
      · rename_i hw; (try simp only [hw, if_true])
        split at h
        · rename_i hq; (try simp only [hq]); exact jf h
        · rename_i hq; (try simp only [hq]); exact jf h
        · rename_i hq; (try simp only [hq])
          split at h
          · rename_i hq1; (try simp only [hq1, if_true])
            split at h
            · rename_i hq2; (try simp only [hq2])
              split at h
              · rename_i hq3; (try simp only [hq3, if_true]); exact jf h
              · cases h
            · cases h
          · cases h
        · cases h
      · cases h
    | none =>
      simp only [qcL, qz2, e1] at h ⊢
      split at h
      · rename_i hw; (try simp only [hw, if_true])
        split at h
        · rename_i hq; (try simp only [hq])
          split at h
          · rename_i hq2; (try simp only [hq2])
            split at h
            · rename_i hq3; (try simp only [hq3, if_true]); exact jf h
            · cases h
          · cases h
        · rename_i hq; (try simp only [hq])
          split at h
          · rename_i hq3; (try simp only [hq3, if_true]); exact jf h
          · cases h
        · cases h
      · cases h
  · cases h
theorem qtr {x i : O} (h : qe1 x i st = some r) (e1 : rd st2.env x = rd st.env x) (e2 : rd st2.env i = rd st.env i) : r.st = st ∧ qe1 x i st2 = some { r with st := st2 } := by
  unfold qe1 at h ⊢; rw [e1, e2]
  split at h
  · rename_i hz1 hz2; (try simp only [hz1, hz2, qz2] at h ⊢)
    split at h
    · rename_i hw; (try simp only [hw, if_true])
      split at h
      · rename_i hq; (try simp only [hq]); exact jf h
      · cases h
    · cases h
  · cases h
theorem qqU {kk : Nat} {z : D} {m k : O} {c : Bool} (h : qdB kk z m k c st = some r) (e1 : rd st2.env m = rd st.env m) (e2 : rd st2.env k = rd st.env k) (eH : st2.H = st.H) : r.st = st ∧ qdB kk z m k c st2 = some { r with st := st2 } := by
  unfold qdB at h ⊢; rw [e1, e2]
  split at h
  · rename_i hz1 hz2; (try simp only [hz1, hz2])
    split at h
    · rename_i hw; (try simp only [hw, if_true]); exact jf h
    · cases h
  · rename_i hz1 hz2; (try simp only [hz1, hz2, eH])
    split at h
    · rename_i hw; (try simp only [hw])
      split at h
      · rename_i hq; (try simp only [hq, if_true])
        split at h
        · rename_i hq2; (try simp only [hq2]); exact jf h
        · rename_i hq2; (try simp only [hq2]); exact jf h
        · cases h
      · cases h
    · cases h
  · cases h
theorem qqb {x : O} {i : Nat} (h : qcI x i st = some r) (e : ∀ s, s ∈ yr [x] → get s st2.env = get s st.env) : r.st = st ∧ qcI x i st2 = some { r with st := st2 } := by
  unfold qcI at h ⊢
  split at h
  · rename_i n
    rw [e n (by simp [yr])]
    split at h
    · rename_i hz; (try simp only [hz])
      split at h
      · rename_i hw; (try simp only [hw]); exact jf h
      · cases h
    · cases h
  · cases h
end W

/-
  What an operation looks at, and what it changes: those that change something.
-/
set_option linter.unusedSimpArgs false
set_option linter.unusedVariables false
namespace W
open Go (IntKind BinOp UnOp)
variable {st st2 : St} {r : Or}
theorem qp9 {v : V} (h : ∀ m o, v ≠ .lp m o) (n k : Nat) (e : Env) : qb0 n ((k, v) :: e) = qb0 n e := by
  cases v <;> first | rfl | exact absurd rfl (h _ _)
theorem qwy {x : O} (h : qmb x st = some r) (e1 : rd st2.env x = rd st.env x) : ∃ r2, qmb x st2 = some r2 ∧ Fr (.mov x) st st2 r r2 := by
  simp only [qmb, ok, Option.some.injEq] at h ⊢
  subst h
  refine ⟨_, rfl, ?_⟩
  rw [e1]
  exact qfM (l := [x]) rfl (fun _ _ => ⟨rfl, rfl⟩) (fun h => h)
theorem qs5 {loc : Bool} {z : List D} (h : qfz loc z st = some r) (eH : (!loc) = true → st2.H = st.H) : ∃ r2, qfz loc z st2 = some r2 ∧ Fr (.alloc loc z) st st2 r r2 := by
  cases loc with
  | true =>
    simp only [qfz, cond_true] at h ⊢
    obtain ⟨h1, h2⟩ := jf (st2 := st2) h
    exact ⟨_, h2, ql2 h1 rfl (fun s hs => by cases hs)⟩
  | false =>
    simp only [qfz, cond_false, okH, Option.some.injEq] at h ⊢
    subst h
    have e := eH rfl
    refine ⟨_, rfl, rfl, rfl, by rw [e], fun s hs => (by cases hs), fun s _ => rfl, fun s _ => rfl, fun h => (by cases h), fun _ => by rw [e], fun n => rfl, fun n => rfl⟩
theorem qxD {loc : Bool} {x : O} (h : qjM loc x st = some r) (e1 : rd st2.env x = rd st.env x) (eH : (!loc) = true → st2.H = st.H) : ∃ r2, qjM loc x st2 = some r2 ∧ Fr (.box loc x) st st2 r r2 := by
  simp only [qjM] at h ⊢
  rw [e1]
  split at h
  · cases h
  · rename_i hv
    (try rw [if_neg hv])
    cases loc with
    | true =>
      simp only [cond_true, ok, Option.some.injEq] at h ⊢
      subst h
      exact ⟨_, rfl, qfM (l := [x]) rfl (fun _ _ => ⟨rfl, rfl⟩) (fun h => h)⟩
    | false =>
      simp only [cond_false] at h ⊢
      split at h
      · rename_i hv2
        (try rw [if_pos hv2])
        simp only [okH, Option.some.injEq] at h ⊢
        subst h
        have e := eH rfl
        rw [e]
        exact ⟨_, rfl, qfM (l := [x]) rfl (fun h => by cases h) (fun h => rfl)⟩
      · cases h
theorem qti (h : qgC st = some r) (eH : st2.H = st.H) : ∃ r2, qgC st2 = some r2 ∧ Fr .mkMap st st2 r r2 := by
  simp only [qgC, okH, Option.some.injEq] at h ⊢
  subst h
  refine ⟨_, rfl, rfl, rfl, by rw [eH], fun s hs => (by cases hs), fun s _ => rfl, fun s _ => rfl, fun h => (by cases h), fun _ => by rw [eH], fun n => rfl, fun n => rfl⟩
theorem qpA {z : D} {a b : O} (h : qdG z a b st = some r) (e1 : rd st2.env a = rd st.env a) (e2 : rd st2.env b = rd st.env b) (eH : st2.H = st.H) : ∃ r2, qdG z a b st2 = some r2 ∧ Fr (.mkSlice z a b) st st2 r r2 := by
  unfold qdG at h ⊢
  rw [e1, e2]
  split at h
  · rename_i hz1 hz2; (try simp only [hz1, hz2])
    split at h
    · rename_i hw; (try simp only [hw])
      split at h
      · rename_i hq; (try simp only [hq, if_true])
        simp only [okH, Option.some.injEq] at h
        subst h
        (try rw [if_pos hw])
        refine ⟨_, rfl, rfl, rfl, by rw [eH, hq], fun s hs => (by cases hs), fun s _ => rfl, fun s _ => rfl, fun h => (by cases h), fun _ => by rw [eH, hq], fun n => rfl, fun n => rfl⟩
      · cases h
    · cases h
  · cases h
theorem qoO {z : D} {n : Nat} {p : List (Nat × O)} (h : qb9 z n p st = some r) (e : (p.map fun (j, x) => (j, rd st2.env x)) = (p.map fun (j, x) => (j, rd st.env x))) (eH : st2.H = st.H) : ∃ r2, qb9 z n p st2 = some r2 ∧ Fr (.buildRow z n p) st st2 r r2 := by
  unfold qb9 at h ⊢
  rw [e]
  split at h
  · rename_i xs hz; (try simp only [hz])
    split at h
    · rename_i hw
      (try rw [if_pos hw])
      simp only [okH, Option.some.injEq] at h
      subst h
      refine ⟨_, rfl, rfl, rfl, by rw [eH], fun s hs => (by cases hs), fun s _ => rfl, fun s _ => rfl, fun h => (by cases h), fun _ => by rw [eH], fun n => rfl, fun n => rfl⟩
    · cases h
  · cases h
theorem qnp {kk : Nat} {m k x : O} (h : qbt kk m k x st = some r) (e1 : rd st2.env m = rd st.env m) (e2 : rd st2.env k = rd st.env k) (e3 : rd st2.env x = rd st.env x) (eH : st2.H = st.H) :
    ∃ r2, qbt kk m k x st2 = some r2 ∧ Fr (.mapUpdate kk m k x) st st2 r r2 := by
  unfold qbt at h ⊢
  rw [e1, e2, e3, eH]
  split at h
  · rename_i hz1 hz2; (try simp only [hz1, hz2])
    split at h
    · rename_i hw; (try simp only [hw])
      simp only at h
      split at h
      · rename_i hq
        (try rw [if_pos hq])
        split at h
        · rename_i hq2; (try simp only [hq2])
          simp only [okH, Option.some.injEq] at h
          subst h
          exact ⟨_, rfl, qfM (l := [x]) rfl (fun h => by cases h) (fun _ => rfl)⟩
        · cases h
      · cases h
    · cases h
  · cases h
theorem quT {call : Call} (hc : qaC call) {f : O} {l : List O} (h : qeW call f l st = some r) (e1 : rd st2.env f = rd st.env f) (e2 : l.map (rd st2.env) = l.map (rd st.env)) (eH : st2.H = st.H) :
    ∃ r2, qeW call f l st2 = some r2 ∧ Fr (.call f l) st st2 r r2 := by
  unfold qeW at h ⊢
  rw [e1, e2, eH]
  split at h
  · rename_i hz; (try simp only [hz])
    simp only at h ⊢
    split at h
    · rename_i hw
      (try rw [if_pos hw])
      split at h
      · rename_i q hq; (try simp only [hq])
        simp only [Option.some.injEq] at h
        subst h
        have hs := (hc _ _ _ _ hq).2.2
        exact ⟨_, rfl, qfM (l := l) rfl (fun _ hh => ⟨hs hh, by rw [eH]; exact hs hh⟩) (fun _ => rfl)⟩
      · cases h
    · cases h
  · cases h
theorem qeU : ∀ {l : List O} {s : Nat}, s ∈ qat l → s ∈ yr l
  | .mv n :: l, s, h => by
    simp only [qat, yr, List.mem_cons] at h ⊢
    exact h.imp id qeU
  | .t n :: l, s, h => by
    simp only [yr, List.mem_cons]
    exact .inr (qeU (l := l) h)
  | .c _ :: l, s, h => qeU (l := l) h
  | .f _ :: l, s, h => qeU (l := l) h
  | .g _ _ :: l, s, h => qeU (l := l) h
theorem qns (x : O) (l : List O) : qat (x :: l) = qat [x] ++ qat l := by cases x <;> rfl
theorem qqZ {size bytes : Nat} {x y : O} (h : qej size bytes x y st = some r) (e1 : rd st2.env x = rd st.env x) (e2 : rd st2.env y = rd st.env y) (hy : ∀ s, s ∈ qat [y] → get s st2.env = get s st.env) :
    ∃ r2, qej size bytes x y st2 = some r2 ∧ Fr (.bi (.append size bytes) [x, y]) st st2 r r2 := by
  unfold qej at h ⊢
  rw [e1, e2]
  split at h
  · rename_i hz; (try simp only [hz])
    simp only [ok, Option.some.injEq] at h
    subst h
    have hW : ∀ s, s ∈ (OpK.bi (.append size bytes) [x, y]).boxW ↔ s ∈ qat [x] ∨ s ∈ qat [y] := fun s => by
      show s ∈ qat [x, y] ↔ _
      rw [qns]; simp
    refine ⟨_, rfl, rfl, rfl, rfl, fun s hs => ?_, fun s hs => ?_, fun s hs => ?_, fun _ _ => ⟨rfl, rfl⟩, fun h => h, fun n => qhA n x _, fun n => qhA n x _⟩
    · show get s (spent x st2.env) = get s (spent x st.env)
      rw [qeT, qeT]
      split
      · rfl
      · rename_i hx
        exact hy s (((hW s).1 hs).resolve_left hx)
    · rw [hW, not_or] at hs
      show get s (spent x st.env) = _
      rw [qeT, if_neg hs.1]
    · rw [hW, not_or] at hs
      show get s (spent x st2.env) = _
      rw [qeT, if_neg hs.1]
  · cases h
theorem qs4 {l : L} {a : O} (h : qfy l a st = some r) (e1 : rd st2.env a = rd st.env a) : r.st = st ∧ qfy l a st2 = some { r with st := st2 } := by
  unfold qfy at h ⊢
  rw [e1]
  split at h
  · rename_i x hx
    split at h
    · rename_i v hv
      have hv2 : qaB l st2 (.cp x) = some v := hv
      simp only [hv2]
      exact jf h
    · cases h
  · cases h
theorem quM {sl : Option Nat} {l : L} {a : O} (h : qc7 false sl l a st = some r) (e1 : rd st2.env a = rd st.env a) (e2 : ∀ s, sl = some s → get s st2.env = get s st.env) (eH : sl.isNone = true → st2.H = st.H) :
    ∃ r2, qc7 false sl l a st2 = some r2 ∧ Fr (.load false sl l a) st st2 r r2 := by
  unfold qc7 at h ⊢
  rw [e1]
  cases hs : yC sl (rd st.env a) with
  | false => rw [hs] at h; simp at h
  | true =>
    rw [hs] at h
    simp only [qz6, cond_false] at h ⊢
    have key : ∀ v, qaB l st (rd st.env a) = some v → qaB l st2 (rd st.env a) = some v := by
      intro v hv
      unfold qaB at hv ⊢
      split at hv
      · rename_i s off hz
        have hsl : sl = some s := by
          rw [hz] at hs
          cases sl with
          | none => simp [yC] at hs
          | some n => exact congrArg some (by simpa [yC] using hs)
        rw [e2 s hsl]; exact hv
      · exact hv
      · rename_i id off hz
        have hsl : sl.isNone = true := by
          rw [hz] at hs
          cases sl with
          | none => rfl
          | some n => simp [yC] at hs
        rw [eH hsl]; exact hv
      · cases hv
    split at h
    · rename_i v hv
      rw [key v hv]
      obtain ⟨h1, h2⟩ := jf (st2 := st2) h
      exact ⟨_, h2, ql2 h1 rfl (fun s hs => by cases hs)⟩
    · cases h
theorem qnF {k : OpK} {s : Nat} {l : List O} {cs : List V} {v : V} {same pan : Bool} (hW : ∀ n, n ∈ k.boxW ↔ n = s ∨ n ∈ qat l) :
    Fr k st st2 ⟨pan, same, v, { st with env := (s, .box cs) :: spentAll l st.env }⟩ ⟨pan, same, v, { st2 with env := (s, .box cs) :: spentAll l st2.env }⟩ := by
  refine ⟨rfl, rfl, rfl, fun n hn => ?_, fun n hn => ?_, fun n hn => ?_, fun _ _ => ⟨rfl, rfl⟩, fun h => h, fun n => qc5 n l _, fun n => qc5 n l _⟩
  · rw [hW] at hn
    simp only [j5, yI]
    rcases hn with h | h
    · simp [h]
    · simp [h]
  · rw [hW, not_or] at hn
    simp only [j5, yI, hn.1, hn.2, if_false]
  · rw [hW, not_or] at hn
    simp only [j5, yI, hn.1, hn.2, if_false]
theorem qsl {sl : Option Nat} {l : L} {a : O} (h : qc7 true sl l a st = some r) (e1 : rd st2.env a = rd st.env a) (e2 : ∀ s, sl = some s → get s st2.env = get s st.env) (eH : sl.isNone = true → st2.H = st.H) :
    ∃ r2, qc7 true sl l a st2 = some r2 ∧ Fr (.load true sl l a) st st2 r r2 := by
  unfold qc7 at h ⊢
  rw [e1]
  cases hs : yC sl (rd st.env a) with
  | false => rw [hs] at h; simp at h
  | true =>
    rw [hs] at h
    simp only [qz6, cond_false, cond_true] at h ⊢
    cases hl : l.agg with
    | true => rw [hl] at h; simp at h
    | false =>
      rw [hl] at h
      simp only [cond_false] at h ⊢
      split at h
      · rename_i v st' hst
        unfold qko at hst ⊢
        split at hst
        · rename_i s off hz
          have hsl : sl = some s := by
            rw [hz] at hs
            cases sl with
            | none => simp [yC] at hs
            | some n => exact congrArg some (by simpa [yC] using hs)
          subst hsl
          rw [e2 s rfl]
          split at hst
          · rename_i cs hb
            split at hst
            · rename_i v' hc
              simp only [Option.some.injEq, Prod.mk.injEq] at hst
              obtain ⟨rfl, rfl⟩ := hst
              simp only [ok, Option.some.injEq] at h ⊢
              subst h
              exact ⟨_, rfl, qnF (l := []) (fun n => by simp [OpK.boxW, qat])⟩
            · cases hst
          · cases hst
        · rename_i id off hz
          have hsl : sl = none := by
            rw [hz] at hs
            cases sl with
            | none => rfl
            | some n => simp [yC] at hs
          subst hsl
          rw [eH rfl]
          split at hst
          · rename_i cs hb
            split at hst
            · rename_i v' hc
              simp only [Option.some.injEq, Prod.mk.injEq] at hst
              obtain ⟨rfl, rfl⟩ := hst
              simp only [okH, Option.some.injEq] at h ⊢
              subst h
              exact ⟨_, rfl, rfl, rfl, rfl, fun s hs => (by cases hs), fun s _ => rfl, fun s _ => rfl, fun h => (by cases h), fun _ => rfl, fun n => rfl, fun n => rfl⟩
            · cases hst
          · cases hst
        · cases hst
      · cases h
theorem qsN {sl : Option Nat} {l : L} {a x : O} (h : qfc sl l a x st = some r) (e1 : rd st2.env a = rd st.env a) (e3 : rd st2.env x = rd st.env x) (e2 : ∀ s, sl = some s → get s st2.env = get s st.env) (eH : sl.isNone = true → st2.H = st.H) :
    ∃ r2, qfc sl l a x st2 = some r2 ∧ Fr (.store sl l a x) st st2 r r2 := by
  unfold qfc at h ⊢
  rw [e1, e3]
  cases hs : yC sl (rd st.env a) with
  | false => rw [hs] at h; simp at h
  | true =>
    rw [hs] at h
    simp only [qz6, cond_false] at h ⊢
    split at h
    · rename_i st' hst
      unfold qei at hst ⊢
      split at hst
      · rename_i s off hz
        have hsl : sl = some s := by
          rw [hz] at hs
          cases sl with
          | none => simp [yC] at hs
          | some n => exact congrArg some (by simpa [yC] using hs)
        subst hsl
        have e4 : get s (spent x st2.env) = get s (spent x st.env) := by rw [qeT, qeT, e2 s rfl]
        simp only [e4]
        split at hst
        · rename_i cs hb
          split at hst
          · rename_i hc
            (try rw [if_pos hc])
            split at hst
            · rename_i cs' hset
              simp only [Option.some.injEq] at hst
              subst hst
              (try simp only [hb, if_pos hc, hset])
              simp only [ok, Option.some.injEq] at h ⊢
              subst h
              exact ⟨_, rfl, qnF (l := [x]) (fun n => by simp [OpK.boxW])⟩
            · cases hst
          · cases hst
        · cases hst
      · rename_i id off hz
        have hsl : sl = none := by
          rw [hz] at hs
          cases sl with
          | none => rfl
          | some n => simp [yC] at hs
        subst hsl
        simp only [eH rfl]
        split at hst
        · rename_i cs hb
          split at hst
          · rename_i hc
            (try rw [if_pos hc])
            split at hst
            · rename_i cs' hset
              simp only [Option.some.injEq] at hst
              subst hst
              (try simp only [hb, if_pos hc, hset])
              simp only [okH, Option.some.injEq] at h ⊢
              subst h
              exact ⟨_, rfl, qfM (l := [x]) rfl (fun h => by cases h) (fun _ => rfl)⟩
            · cases hst
          · cases hst
        · cases hst
      · cases hst
    · cases h
theorem qun {x : O} (h : qhi x st = some r) (e1 : rd st2.env x = rd st.env x) : r.st = st ∧ qhi x st2 = some { r with st := st2 } := by
  unfold qhi at h ⊢; rw [e1]
  split at h
  · rename_i hz; (try simp only [hz]); exact jf h
  · cases h
theorem quW {x : O} (h : qfn x st = some r) (e1 : rd st2.env x = rd st.env x) : r.st = st ∧ qfn x st2 = some { r with st := st2 } := by
  unfold qfn at h ⊢; rw [e1]
  split at h
  · rename_i hz; (try simp only [hz])
    split at h
    · rename_i hw; (try simp only [hw]); exact jf h
    · cases h
  · rename_i hz; (try simp only [hz]); exact jf h
  · cases h
theorem qu6 {x : O} (h : qjb x st = some r) (e1 : rd st2.env x = rd st.env x) (eH : st2.H = st.H) : r.st = st ∧ qjb x st2 = some { r with st := st2 } := by
  unfold qjb at h ⊢; rw [e1, eH]
  split at h
  · rename_i hz; (try simp only [hz]); exact jf h
  · rename_i hz; (try simp only [hz])
    split at h
    · rename_i hw; (try simp only [hw]); exact jf h
    · cases h
  · cases h
theorem qi0 {e e2 : Env} : ∀ {p : List (Nat × Nat × O)}, (∀ s, s ∈ yr (p.map (·.2.2)) → get s e2 = get s e) → (p.map fun (o, s, x) => (o, s, rd e2 x)) = (p.map fun (o, s, x) => (o, s, rd e x))
  | [], _ => rfl
  | (o, n, x) :: l, h => by
    simp only [qzN] at h ⊢
    rw [qaK] at h
    rw [qgG (fun s hs => h s (by simp [hs])), qi0 (fun s hs => h s (by simp [hs]))]
theorem qgb {e e2 : Env} : ∀ {p : List (Nat × O)}, (∀ s, s ∈ yr (p.map (·.2)) → get s e2 = get s e) → (p.map fun (j, x) => (j, rd e2 x)) = (p.map fun (j, x) => (j, rd e x))
  | [], _ => rfl
  | (o, x) :: l, h => by
    simp only [qzN] at h ⊢
    rw [qaK] at h
    rw [qgG (fun s hs => h s (by simp [hs])), qgb (fun s hs => h s (by simp [hs]))]
theorem qsm {call : Call} (hc : qaC call) {k : OpK} (h : zC call k st = some r) (hs : qy2 k st.env st2.env) (hH : k.looks = true → st2.H = st.H) : ∃ r2, zC call k st2 = some r2 ∧ Fr k st st2 r r2 := by
  have s1 : ∀ {x : O} {l l' : List O}, k.rds = l ++ x :: l' → rd st2.env x = rd st.env x := fun {x l l'} e => qgG (fun s hs' => hs s (.inl (by rw [e, qb2, qaK]; simp [hs'])))
  have pure : ∀ {f : St → Option Or}, zC call k = f → (r.st = st ∧ f st2 = some { r with st := st2 }) → (∀ s, s ∈ k.boxW → get s st2.env = get s st.env) → ∃ r2, zC call k st2 = some r2 ∧ Fr k st st2 r r2 := fun hf ⟨h1, h2⟩ hW => ⟨_, by rw [hf]; exact h2, ql2 h1 rfl hW⟩
  have nW : ∀ {s : Nat}, s ∈ ([] : List Nat) → get s st2.env = get s st.env := fun h => by cases h
  cases k with
  | mov x => exact qwy h (s1 (l := []) rfl)
  | pick c a b => exact pure rfl (qvh h (s1 (l := []) rfl) (s1 (l := [c]) rfl) (s1 (l := [c, a]) rfl)) (fun s h => nW h)
  | alloc loc z => exact qs5 h hH
  | box loc x => exact qxD h (s1 (l := []) rfl) hH
  | build z p => exact pure rfl (qsX h (qi0 fun s h => hs s (.inl h))) (fun s h => nW h)
  | buildSlice z n p => exact pure rfl (qlJ h (qgb fun s h => hs s (.inl h))) (fun s h => nW h)
  | load mv sl l a =>
    have e2 : ∀ s, sl = some s → get s st2.env = get s st.env := fun s e => hs s (.inr (by subst e; simp [OpK.boxR]))
    cases mv with
    | false => exact quM h (s1 (l := []) rfl) e2 hH
    | true => exact qsl h (s1 (l := []) rfl) e2 hH
  | loadC l a => exact pure rfl (qs4 h (s1 (l := []) rfl)) (fun s h => nW h)
  | store sl l a x => exact qsN h (s1 (l := []) rfl) (s1 (l := [a]) rfl) (fun s e => hs s (.inr (by subst e; simp [OpK.boxR]))) hH
  | nilCheck x => exact pure rfl (qoB h (s1 (l := []) rfl)) (fun s h => nW h)
  | bin op kd x y => exact pure rfl (qwN h (s1 (l := []) rfl) (s1 (l := [x]) rfl)) (fun s h => nW h)
  | un op x => exact pure rfl (qzu h (s1 (l := []) rfl)) (fun s h => nW h)
  | conv k x => exact pure rfl (qug h (s1 (l := []) rfl)) (fun s h => nW h)
  | bytes x => exact pure rfl (qsP h (s1 (l := []) rfl)) (fun s h => nW h)
  | text x => exact pure rfl (qut h (s1 (l := []) rfl) (hH rfl)) (fun s h => nW h)
  | movS x => exact pure rfl (qud h (s1 (l := []) rfl)) (fun s h => nW h)
  | mkIfc t x => exact pure rfl (qtC h (s1 (l := []) rfl)) (fun s h => nW h)
  | mkFn f a b => exact pure rfl (quh h (qfG fun s h => hs s (.inl (by show s ∈ yr (a ++ b); rw [qb2]; simp [h]))) (qfG fun s h => hs s (.inl (by show s ∈ yr (a ++ b); rw [qb2]; simp [h])))) (fun s h => nW h)
  | mkMap => exact qti h (hH rfl)
  | mkSlice z a b => exact qpA h (s1 (l := []) rfl) (s1 (l := [a]) rfl) (hH rfl)
  | buildRow z n p => exact qoO h (qgb fun s h => hs s (.inl h)) (hH rfl)
  | assertOk t z x => exact pure rfl (qoL h (s1 (l := []) rfl)) (fun s h => nW h)
  | sliceS x a b =>
    have e : ∀ s, s ∈ yr a.toList ∨ s ∈ yr b.toList → get s st2.env = get s st.env := fun s h => hs s (.inl (by
      show s ∈ yr (x :: (a.toList ++ b.toList)); rw [qaK, qb2]; simp only [List.mem_append]; exact .inr h))
    exact pure rfl (qrq h (s1 (l := []) rfl) (qcp fun s h => e s (.inl h)) (qcp fun s h => e s (.inr h))) (fun s h => nW h)
  | sliceL n x a b =>
    have e : ∀ s, s ∈ yr a.toList ∨ s ∈ yr b.toList → get s st2.env = get s st.env := fun s h => hs s (.inl (by
      show s ∈ yr (x :: (a.toList ++ b.toList)); rw [qaK, qb2]; simp only [List.mem_append]; exact .inr h))
    exact pure rfl (qq9 h (s1 (l := []) rfl) (qcp fun s h => e s (.inl h)) (qcp fun s h => e s (.inr h))) (fun s h => nW h)
  | sliceA n x a b =>
    have e : ∀ s, s ∈ yr a.toList ∨ s ∈ yr b.toList → get s st2.env = get s st.env := fun s h => hs s (.inl (by
      show s ∈ yr (x :: (a.toList ++ b.toList)); rw [qaK, qb2]; simp only [List.mem_append]; exact .inr h))
    exact pure rfl (qr4 h (s1 (l := []) rfl) (qcp fun s h => e s (.inl h)) (qcp fun s h => e s (.inr h))) (fun s h => nW h)
  | sliceM n x a b m =>
    have e : ∀ s, s ∈ yr a.toList → get s st2.env = get s st.env := fun s h => hs s (.inl (by
      show s ∈ yr (m :: b :: x :: a.toList); rw [qaK m, qaK b, qaK x]; simp only [List.mem_append]; exact Or.inr (Or.inr (Or.inr h))))
    exact pure rfl (qsd h (s1 (l := [m, b]) rfl) (qcp fun s h => e s h) (s1 (l := [m]) rfl) (s1 (l := []) rfl)) (fun s h => nW h)
  | stuck => cases h
  | fieldAddr x o l => exact pure rfl (qnf h (s1 (l := []) rfl)) (fun s h => nW h)
  | field x o l => exact pure rfl (qty h (s1 (l := []) rfl)) (fun s h => nW h)
  | indexAddr x i n arr => exact pure rfl (qm0 h (s1 (l := []) rfl) (s1 (l := [x]) rfl)) (fun s h => nW h)
  | index x i => exact pure rfl (qtr h (s1 (l := []) rfl) (s1 (l := [x]) rfl)) (fun s h => nW h)
  | lookup kk z m k c => exact pure rfl (qqU h (s1 (l := []) rfl) (s1 (l := [m]) rfl) (hH rfl)) (fun s h => nW h)
  | mapUpdate kk m k x => exact qnp h (s1 (l := []) rfl) (s1 (l := [m]) rfl) (s1 (l := [m, k]) rfl) (hH rfl)
  | extract x i => exact pure rfl (qqb h (fun s h => hs s (.inl h))) (fun s h => nW h)
  | call f l => exact quT hc h (s1 (l := []) rfl) (qfG fun s h => hs s (.inl (by show s ∈ yr (f :: l); rw [qaK]; simp [h]))) (hH rfl)
  | panic x =>
    refine pure rfl ?_ (fun s h => nW h)
    have e := s1 (x := x) (l := []) (l' := []) rfl
    simp only [zC] at h
    show r.st = st ∧ qhq x st2 = _
    unfold qhq at h ⊢
    rw [e]
    split at h
    · rename_i hz; (try simp only [hz])
      simp only [Option.some.injEq] at h
      subst h
      exact ⟨rfl, rfl⟩
    · cases h
  | bi b l =>
    have hW : ∀ s, s ∈ qat l → get s st2.env = get s st.env := fun s h => hs s (.inl (qeU h))
    have eL : l.map (rd st2.env) = l.map (rd st.env) := qfG fun s h => hs s (.inl h)
    simp only [zC, eBi] at h
    cases b with
    | lenS =>
      rcases l with _ | ⟨x, _ | ⟨y, l⟩⟩
      · cases h
      · exact pure rfl (qun h (s1 (l := []) rfl)) hW
      · cases h
    | lenL =>
      rcases l with _ | ⟨x, _ | ⟨y, l⟩⟩
      · cases h
      · exact pure rfl (quW h (s1 (l := []) rfl)) hW
      · cases h
    | lenM =>
      rcases l with _ | ⟨x, _ | ⟨y, l⟩⟩
      · cases h
      · exact pure rfl (qu6 h (s1 (l := []) rfl) (hH rfl)) hW
      · cases h
    | append size bytes =>
      rcases l with _ | ⟨x, _ | ⟨y, _ | ⟨z, l⟩⟩⟩
      · cases h
      · cases h
      · exact qqZ h (s1 (l := []) rfl) (s1 (l := [x]) rfl) (fun s h => hW s (by rw [qns]; simp [h]))
      · cases h
    | max =>
      refine pure (f := fun st => eBi .max l st) rfl ?_ hW
      have h' : (match qir (l.map (rd st.env)) with | some v => ok v st | none => none) = some r := by cases l <;> exact h
      have g : eBi .max l st2 = (match qir (l.map (rd st2.env)) with | some v => ok v st2 | none => none) := by cases l <;> rfl
      show r.st = st ∧ eBi .max l st2 = _
      rw [g, eL]
      split at h'
      · rename_i hz; (try simp only [hz]); exact jf h'
      · cases h'
    | min =>
      refine pure (f := fun st => eBi .min l st) rfl ?_ hW
      have h' : (match qiL (l.map (rd st.env)) with | some v => ok v st | none => none) = some r := by cases l <;> exact h
      have g : eBi .min l st2 = (match qiL (l.map (rd st2.env)) with | some v => ok v st2 | none => none) := by cases l <;> rfl
      show r.st = st ∧ eBi .min l st2 = _
      rw [g, eL]
      split at h'
      · rename_i hz; (try simp only [hz]); exact jf h'
      · cases h'
end W

/-
  Regions whose order is open: whatever the order, the same.
-/
set_option linter.unusedSimpArgs false
set_option linter.unusedVariables false
namespace W
open Go (IntKind BinOp UnOp Oper)
abbrev El := Op × Bool × List Nat
def qfR (call : Call) (x : El) (st : St) : Option St :=
  match wanted x.1.g st.env with
  | some true => match zC call x.1.k st with
    | some r => bif r.pan || !(r.same || x.2.1) then none else qeM (qmf x.1.k) x.2.2 x.1.dst r.v r.st
    | none => none
  | some false => some (put x.1.dst (.tup []) st)
  | none => none
def qic (call : Call) : List El → St → Option St
  | [], st => some st
  | x :: l, st => match qfR call x st with
    | some st' => qic call l st'
    | none => none
theorem qga {call : Call} : ∀ {l : List El} {st : St} {e : Ex} {st' : St}, yw call l st = some (e, st') → e = .nrm ∧ qic call l st = some st'
  | [], st, e, st', h => by simp only [yw, Option.some.injEq, Prod.mk.injEq] at h; exact ⟨h.1.symm, by rw [← h.2]; rfl⟩
  | (o, s, no) :: l, st, e, st', h => by
    simp only [yw] at h
    simp only [qic, qfR]
    split at h
    · rename_i hw
      simp only [hw]
      split at h
      · rename_i r hr
        simp only [hr]
        rw [qz2] at h ⊢
        split at h
        · cases h
        · rename_i hp
          rw [if_neg hp]
          split at h
          · rename_i st1 h1
            simp only [h1]
            exact qga h
          · cases h
      · cases h
    · rename_i hw
      simp only [hw]
      exact qga h
    · cases h
structure Eqv (st st2 : St) : Prop where
  e : ∀ k, get k st2.env = get k st.env
  H : st2.H = st.H
  lp : ∀ n, qb0 n st2.env = qb0 n st.env
theorem Eqv.refl (st : St) : Eqv st st := ⟨fun _ => rfl, rfl, fun _ => rfl⟩
theorem Eqv.trans {a b c : St} (h : Eqv a b) (h' : Eqv b c) : Eqv a c := ⟨fun k => (h'.e k).trans (h.e k), h'.H.trans h.H, fun n => (h'.lp n).trans (h.lp n)⟩
structure FrD (x : El) (st st2 st1 st1' : St) (b : Nat → Bool) : Prop where
  inn : ∀ s, s ∈ x.1.wr → get s st1'.env = get s st1.env
  out1 : ∀ s, s ∉ x.1.wr → get s st1.env = get s st.env
  out2 : ∀ s, s ∉ x.1.wr → get s st1'.env = get s st2.env
  H1 : x.2.1 = false → st1.H = st.H ∧ st1'.H = st2.H
  H2 : st2.H = st.H → st1'.H = st1.H
  lp : ∀ n, qb0 n st1.env = (qb0 n st.env && b n)
  lp2 : ∀ n, qb0 n st1'.env = (qb0 n st2.env && b n)
  no : ∀ n, qd8 n x.2.2 = true → b n = true
theorem qks {n : Nat} : ∀ {l : List Nat}, n ∈ l → qd8 n l = true
  | m :: l, h => by
    simp only [qd8, Bool.or_eq_true]
    rcases List.mem_cons.1 h with e | h
    · subst e; exact .inl (by simp)
    · exact .inr (qks h)
theorem ql9 {g : Option (Nat × Bool)} {e e2 : Env} (h : ∀ n w, g = some (n, w) → get n e2 = get n e) : wanted g e2 = wanted g e := by
  cases g with
  | none => rfl
  | some nw => obtain ⟨n, w⟩ := nw; simp only [wanted]; rw [h n w rfl]
theorem qq4 {o : Op} {s : Nat} (h : s ∈ yr o.k.rds ∨ s ∈ o.k.boxR) : s ∈ o.re := by
  unfold Op.re
  simp only [List.mem_append]
  rcases h with h | h
  · exact .inr (.inl h)
  · exact .inr (.inr (.inl h))
theorem qmA {o : Op} {s : Nat} (h : s ∈ o.k.boxW) : s ∈ o.re := by
  unfold Op.re
  simp only [List.mem_append]
  exact .inr (.inr (.inr h))
theorem qrd {o : Op} {n : Nat} {w : Bool} (h : o.g = some (n, w)) : n ∈ o.re := by
  unfold Op.re; rw [h]; simp
theorem frD {call : Call} (hc : qaC call) {x : El} {st st2 st1 : St} (h : qfR call x st = some st1) (hfl : x.2.1 = false → x.1.k.free = true) (hs : ∀ s, s ∈ x.1.re → get s st2.env = get s st.env) (hH : x.1.k.looks = true → st2.H = st.H)
    (hbx : ∀ n, n ∈ qgp x.1 → qb0 n st.env = true → qb0 n st2.env = true) : ∃ st1' b, qfR call x st2 = some st1' ∧ FrD x st st2 st1 st1' b := by
  unfold qfR at h ⊢
  rw [ql9 (e := st.env) (fun n w hg => hs n (qrd hg))]
  split at h
  · rename_i hw
    (try simp only [hw])
    split at h
    · rename_i r hr
      obtain ⟨r2, hr2, F⟩ := qsm hc hr (fun s h => hs s (qq4 h)) hH
      simp only [hr2]
      rw [qz2] at h ⊢
      rw [F.pan, F.same]
      split at h
      · cases h
      · rename_i hp
        rw [if_neg hp]
        have hsame : x.2.1 = false → r.same = true := fun hf => by
          simp only [Bool.or_eq_true, not_or, Bool.not_eq_true', hf, qz7] at hp
          simpa using hp.2
        have done : ∀ {v : V} {b : Nat → Bool} {n : Nat}, x.1.dst = some n → (∀ m (e : Env), qb0 m ((n, v) :: e) = (qb0 m e && b m)) → (∀ m, qd8 m x.2.2 = true → b m = true) →
            FrD x st st2 { r.st with env := (n, v) :: r.st.env } { r2.st with env := (n, v) :: r2.st.env } b := by
          intro v b n hdst hb hno
          have hwr : ∀ s, s ∈ x.1.wr ↔ s = n ∨ s ∈ x.1.k.boxW := fun s => by unfold Op.wr; rw [hdst]; simp
          refine ⟨fun s hs => ?_, fun s hs => ?_, fun s hs => ?_, fun hf => F.H1 (hfl hf) (hsame hf), F.H2, fun m => ?_, fun m => ?_, hno⟩
          · show get s ((n, v) :: r2.st.env) = get s ((n, v) :: r.st.env)
            rw [j5, j5]
            split
            · rfl
            · rename_i hne; exact F.inn s (((hwr s).1 hs).resolve_left hne)
          · rw [hwr, not_or] at hs
            show get s ((n, v) :: r.st.env) = _
            rw [j5, if_neg hs.1]; exact F.out1 s hs.2
          · rw [hwr, not_or] at hs
            show get s ((n, v) :: r2.st.env) = _
            rw [j5, if_neg hs.1]; exact F.out2 s hs.2
          · show qb0 m ((n, v) :: r.st.env) = _
            rw [hb, F.lp]
          · show qb0 m ((n, v) :: r2.st.env) = _
            rw [hb, F.lp2]
        unfold qeM at h ⊢
        rw [F.v]
        cases hdst : x.1.dst with
        | none =>
          rw [hdst] at h
          simp only [Option.some.injEq] at h
          subst h
          have hwr : ∀ s, s ∈ x.1.wr ↔ s ∈ x.1.k.boxW := fun s => by unfold Op.wr; rw [hdst]; simp
          exact ⟨_, fun _ => true, rfl, fun s hs => F.inn s ((hwr s).1 hs), fun s hs => F.out1 s (fun h => hs ((hwr s).2 h)), fun s hs => F.out2 s (fun h => hs ((hwr s).2 h)), fun hf => F.H1 (hfl hf) (hsame hf), F.H2,
            fun n => by rw [F.lp]; simp, fun n => by rw [F.lp2]; simp, fun _ _ => rfl⟩
        | some n =>
          rw [hdst] at h
          simp only at h ⊢
          split at h
          · rename_i cs hv
            rw [qz2] at h
            split at h
            · rename_i hb
              simp only [Option.some.injEq] at h
              subst h
              simp only [qz0] at hb
              have hb2 : (qmf x.1.k && qb0 n r2.st.env) = true := by
                rw [qz0]
                refine ⟨hb.1, ?_⟩
                rw [F.lp2]
                exact hbx n (by unfold qgp; rw [hb.1, hdst]; simp) (by rw [← F.lp]; exact hb.2)
              rw [hb2]
              simp only [cond_true]
              exact ⟨_, fun _ => true, rfl, done hdst (fun m e => by simp [qb0]) (fun _ _ => rfl)⟩
            · cases h
          · rename_i m o hv
            rw [qz2] at h
            split at h
            · cases h
            · rename_i hb
              simp only [Option.some.injEq] at h
              subst h
              have hb' : qd8 m x.2.2 = false := by simpa using hb
              simp only [hb', cond_false]
              refine ⟨_, fun k => !Nat.beq m k, rfl, done hdst (fun k e => by simp only [qb0]; rw [Bool.and_comm]) (fun k hk => ?_)⟩
              cases hq : qz5 m k with
              | false => rfl
              | true =>
                have := qz8 hq
                subst this
                rw [hb'] at hk; cases hk
          · rename_i h1 h2
            simp only [Option.some.injEq] at h
            subst h
            refine ⟨_, fun _ => true, rfl, ?_⟩
            exact done hdst (fun m e => by rw [qp9 (fun k o => h2 k o)]; simp) (fun _ _ => rfl)
    · cases h
  · rename_i hw
    (try simp only [hw])
    simp only [Option.some.injEq] at h
    subst h
    cases hdst : x.1.dst with
    | none =>
      refine ⟨_, fun _ => true, rfl, fun s hs' => ?_, fun s _ => rfl, fun s _ => rfl, fun _ => ⟨rfl, rfl⟩, fun h => h, fun n => by simp [put], fun n => by simp [put], fun _ _ => rfl⟩
      unfold Op.wr at hs'
      rw [hdst] at hs'
      exact hs s (qmA (by simpa using hs'))
    | some n =>
      have hwr : ∀ s, s ∈ x.1.wr ↔ s = n ∨ s ∈ x.1.k.boxW := fun s => by unfold Op.wr; rw [hdst]; simp
      refine ⟨_, fun _ => true, rfl, fun s hs' => ?_, fun s hs' => ?_, fun s hs' => ?_, fun _ => ⟨rfl, rfl⟩, fun h => h, fun m => by simp [put, qb0], fun m => by simp [put, qb0], fun _ _ => rfl⟩
      · show get s ((n, .tup []) :: st2.env) = get s ((n, .tup []) :: st.env)
        rw [j5, j5]
        split
        · rfl
        · rename_i hne; exact hs s (qmA (((hwr s).1 hs').resolve_left hne))
      · rw [hwr, not_or] at hs'
        show get s ((n, .tup []) :: st.env) = _
        rw [j5, if_neg hs'.1]
      · rw [hwr, not_or] at hs'
        show get s ((n, .tup []) :: st2.env) = _
        rw [j5, if_neg hs'.1]
  · cases h
theorem qi6 {a b : List Nat} (h : meets a b = false) : ∀ n, n ∈ a → n ∉ b := by
  intro n hn hb
  simp only [meets, List.any_eq_false] at h
  exact h n hn (by simpa using hb)
structure Apart (o o' : Op) : Prop where
  f1 : o.k.free = true ∨ (o'.k.looks = false ∧ o'.k.free = true)
  f2 : o'.k.free = true ∨ (o.k.looks = false ∧ o.k.free = true)
  w1 : ∀ n, n ∈ o.wr → n ∉ o'.wr ∧ n ∉ o'.re
  w2 : ∀ n, n ∈ o'.wr → n ∉ o.wr ∧ n ∉ o.re
theorem qkP {o o' : Op} (h : apart o o' = true) : Apart o o' := by
  simp only [apart, qz0, Bool.not_eq_true', Bool.and_eq_false_iff, Bool.or_eq_false_iff, Bool.not_eq_false'] at h
  obtain ⟨⟨⟨h1, h2⟩, h3⟩, h4⟩ := h
  refine ⟨by rcases h1 with h | h; exact .inl h; exact .inr h, by rcases h2 with h | h; exact .inl h; exact .inr h, fun n hn => ?_, fun n hn => ?_⟩
  · have := qi6 h3 n hn
    simpa [not_or] using this
  · have := qi6 h4 n hn
    simpa [not_or] using this
theorem commute {call : Call} (hc : qaC call) {x y : El} {st st1 st2 : St} (hx : qfR call x st = some st1) (hy : qfR call y st1 = some st2) (lx : x.2.1 = false → x.1.k.free = true) (ly : y.2.1 = false → y.1.k.free = true) (fx : x.2.1 = false ∨ (y.1.k.looks = false ∧ y.2.1 = false)) (fy : y.2.1 = false ∨ (x.1.k.looks = false ∧ x.2.1 = false)) (hap : Apart x.1 y.1)
    (hno : ∀ n, n ∈ qgp x.1 → qd8 n y.2.2 = true) : ∃ st1' st2', qfR call y st = some st1' ∧ qfR call x st1' = some st2' ∧ Eqv st2 st2' := by
  -- x, once more in its own state: what it changes
  obtain ⟨_, bx, hx0, Fx⟩ := frD hc (st2 := st) hx lx (fun _ _ => rfl) (fun _ => rfl) (fun _ _ h => h)
  rw [hx] at hx0
  cases hx0
  -- y ahead
  obtain ⟨st1', by_, hy', Fy⟩ := frD hc (st2 := st) hy ly (fun s hs => (Fx.out1 s (fun h => (hap.w1 s h).2 hs)).symm) (fun hl => by
      rcases fx with h | h
      · exact (Fx.H1 h).1.symm
      · rw [h.1] at hl; cases hl) (fun n hn h => by
      rw [Fx.lp] at h; simp only [qz0] at h; exact h.1)
  -- x behind it
  obtain ⟨st2', b3, hx', Fx'⟩ := frD hc (st2 := st1') hx lx (fun s hs => Fy.out2 s (fun h => (hap.w2 s h).2 hs)) (fun hl => by
      rcases fy with h | h
      · exact (Fy.H1 h).2
      · rw [h.1] at hl; cases hl) (fun n hn h => by
      rw [Fy.lp2, h, Fy.no n (hno n hn)]; rfl)
  refine ⟨st1', st2', hy', hx', fun s => ?_, ?_, fun n => ?_⟩
  · by_cases h1 : s ∈ x.1.wr
    · have h2 : s ∉ y.1.wr := (hap.w1 s h1).1
      rw [Fx'.inn s h1, Fy.out1 s h2]
    · rw [Fx'.out2 s h1]
      by_cases h2 : s ∈ y.1.wr
      · rw [Fy.inn s h2]
      · rw [Fy.out2 s h2, Fy.out1 s h2, Fx.out1 s h1]
  · rcases fx with h | h
    · -- x leaves the objects alone
      rw [(Fx'.H1 h).2]
      exact Fy.H2 (Fx.H1 h).1.symm
    · rw [(Fy.H1 h.2).1]
      exact Fx'.H2 (Fy.H1 h.2).2
  · rw [Fx'.lp2, Fy.lp2, Fy.lp, Fx.lp]
    -- what x adds is the same
    have e : (qb0 n st.env && bx n) = (qb0 n st.env && b3 n) := by rw [← Fx.lp, ← Fx'.lp]
    cases h1 : qb0 n st.env with
    | false => simp
    | true =>
      rw [h1] at e
      simp only [Bool.true_and] at e ⊢
      rw [e, Bool.and_comm]
theorem qqD {call : Call} (hc : qaC call) {x : El} {st st2 st1 : St} (h : qfR call x st = some st1) (lx : x.2.1 = false → x.1.k.free = true) (he : Eqv st st2) : ∃ st1', qfR call x st2 = some st1' ∧ Eqv st1 st1' := by
  obtain ⟨st1', b, h1, F⟩ := frD hc h lx (fun s _ => he.e s) (fun _ => he.H) (fun n _ h => by rw [he.lp]; exact h)
  refine ⟨st1', h1, fun s => ?_, F.H2 he.H, fun n => by rw [F.lp, F.lp2, he.lp]⟩
  by_cases hs : s ∈ x.1.wr
  · exact F.inn s hs
  · rw [F.out2 s hs, F.out1 s hs, he.e]
theorem qnA {call : Call} (hc : qaC call) : ∀ {l : List El} {st st2 stF : St}, (∀ x ∈ l, x.2.1 = false → x.1.k.free = true) → qic call l st = some stF → Eqv st st2 → ∃ stF2, qic call l st2 = some stF2 ∧ Eqv stF stF2
  | [], st, st2, stF, _, h, he => by simp only [qic, Option.some.injEq] at h; subst h; exact ⟨st2, rfl, he⟩
  | x :: l, st, st2, stF, hf, h, he => by
    simp only [qic] at h ⊢
    split at h
    · rename_i st1 h1
      obtain ⟨st1', h2, he2⟩ := qqD hc h1 (hf x (by simp)) he
      simp only [h2]
      exact qnA hc (fun y hy => hf y (by simp [hy])) h he2
    · cases h
theorem qmK {call : Call} (hc : qaC call) {x : El} {post : List El} : ∀ {pre : List El} {st stF : St}, (∀ y ∈ pre ++ x :: post, y.2.1 = false → y.1.k.free = true) → (∀ y ∈ pre, (y.2.1 = false ∨ (x.1.k.looks = false ∧ x.2.1 = false)) ∧ (x.2.1 = false ∨ (y.1.k.looks = false ∧ y.2.1 = false))) → (∀ y ∈ pre, Apart y.1 x.1 ∧ ∀ n, n ∈ qgp y.1 → qd8 n x.2.2 = true) →
    qic call (pre ++ x :: post) st = some stF → ∃ st1 stF', qfR call x st = some st1 ∧ qic call (pre ++ post) st1 = some stF' ∧ Eqv stF stF'
  | [], st, stF, _, hf, _, h => by
    simp only [List.nil_append, qic] at h
    split at h
    · rename_i st1 h1
      exact ⟨st1, stF, h1, h, Eqv.refl _⟩
    · cases h
  | y :: pre, st, stF, hl, hf, ha, h => by
    simp only [List.cons_append, qic] at h
    split at h
    · rename_i sty hy
      obtain ⟨stx, stF1, h1, h2, h3⟩ := qmK hc (pre := pre) (fun z hz => hl z (by simp only [List.cons_append, List.mem_cons]; exact .inr hz)) (fun z hz => hf z (by simp [hz])) (fun z hz => ha z (by simp [hz])) h
      obtain ⟨st1', st2', h4, h5, h6⟩ := commute hc hy h1 (hl y (by simp)) (hl x (by simp)) (hf y (by simp)).1 (hf y (by simp)).2 (ha y (by simp)).1 (ha y (by simp)).2
      obtain ⟨stF2, h7, h8⟩ := qnA hc (fun z hz => hl z (by
        simp only [List.cons_append, List.mem_cons, List.mem_append] at hz ⊢
        rcases hz with h | h
        · exact .inr (.inl h)
        · exact .inr (.inr (.inr h)))) h2 h6
      refine ⟨st1', stF2, h4, ?_, h3.trans h8⟩
      simp only [List.cons_append, qic, h5]
      exact h7
    · cases h
end W

/-
  Regions whose order is open: simulated.
-/
set_option linter.unusedSimpArgs false
set_option linter.unusedVariables false
namespace W
open Go (World Value Addr IntKind Program TypeId FuncId Operand Act Oper Next Result Sem BinOp UnOp Ending Exit Code Func Fence)
def qcF (acc : Array Nat) (o : Oper) : Array Nat :=
  acc.push (o.after.foldl (fun s e => if Go.Region.binds .any e then s ||| 2 ^ e.on ||| acc.getD e.on 0 else s) 0)
theorem qpN (ops : Array Oper) : Go.Region.before ops = ops.toList.foldl qcF #[] := by
  unfold Go.Region.before
  rw [← Array.foldl_toList]
  rfl
theorem qhU (acc : Array Nat) : ∀ (l : List Go.Edge) (s j : Nat), (l.foldl (fun s e => if Go.Region.binds .any e then s ||| 2 ^ e.on ||| acc.getD e.on 0 else s) s).testBit j = true →
    s.testBit j = true ∨ ∃ e ∈ l, Go.Region.binds .any e = true ∧ (e.on = j ∨ (acc.getD e.on 0).testBit j = true)
  | [], s, j, h => .inl h
  | e :: l, s, j, h => by
    simp only [List.foldl_cons] at h
    rcases qhU acc l _ j h with h | ⟨e', he', hb, hj⟩
    · split at h
      · rename_i hb
        simp only [Nat.testBit_or, Bool.or_eq_true] at h
        rcases h with (h | h) | h
        · exact .inl h
        · rw [Nat.testBit_two_pow] at h
          exact .inr ⟨e, by simp, hb, .inl (by simpa using h)⟩
        · exact .inr ⟨e, by simp, hb, .inr h⟩
      · exact .inl h
    · exact .inr ⟨e', by simp [he'], hb, hj⟩
theorem qr7 : ∀ (l : List Oper) (acc : Array Nat), (l.foldl qcF acc).size = acc.size + l.length
  | [], acc => by simp
  | o :: l, acc => by simp only [List.foldl_cons, qr7 l, qcF, Array.size_push, qzS]; omega
theorem qlH : ∀ (l : List Oper) (acc : Array Nat) (i : Nat), i < acc.size → (l.foldl qcF acc).getD i 0 = acc.getD i 0
  | [], acc, i, _ => rfl
  | o :: l, acc, i, h => by
    simp only [List.foldl_cons]
    rw [qlH l _ i (by simp [qcF]; omega)]
    simp only [qcF, Array.getD_eq_getD_getElem?, Array.getElem?_push]
    rw [if_neg (by omega)]
theorem qpr : ∀ (l : List Oper) (acc : Array Nat) (k : Nat) (o : Oper), l[k]? = some o → ∀ j, ((l.foldl qcF acc).getD (acc.size + k) 0).testBit j = true →
    ∃ e ∈ o.after.toList, Go.Region.binds .any e = true ∧ (e.on = j ∨ ((l.foldl qcF acc).getD e.on 0).testBit j = true)
  | [], acc, k, o, h, j, _ => by simp at h
  | o' :: l, acc, 0, o, h, j, hb => by
    simp at h; subst h
    simp only [List.foldl_cons, qAg] at hb
    rw [qlH l _ acc.size (by simp [qcF])] at hb
    have e0 : (qcF acc o').getD acc.size 0 = o'.after.foldl (fun s e => if Go.Region.binds .any e then s ||| 2 ^ e.on ||| acc.getD e.on 0 else s) 0 := by
      simp [qcF]
    rw [e0, ← Array.foldl_toList] at hb
    rcases qhU acc _ _ j hb with h | ⟨e, he, hbi, hj⟩
    · simp at h
    · refine ⟨e, he, hbi, hj.imp id (fun h => ?_)⟩
      have hlt : e.on < acc.size := by
        rcases Nat.lt_or_ge e.on acc.size with h1 | h1
        · exact h1
        · rw [Array.getD_eq_getD_getElem?, Array.getElem?_eq_none (by omega)] at h
          simp at h
      rw [qlH (o' :: l) acc e.on hlt]
      exact h
  | o' :: l, acc, k + 1, o, h, j, hb => by
    simp only [List.foldl_cons] at hb ⊢
    have hs : (qcF acc o').size = acc.size + 1 := by simp [qcF]
    have := qpr l (qcF acc o') k o (by simpa using h) j (by rw [hs, show acc.size + 1 + k = acc.size + (k + 1) by omega]; exact hb)
    exact this
theorem qnt {ops : Array Oper} {i : Nat} {o : Oper} (h : ops[i]? = some o) {j : Nat} (hb : ((Go.Region.before ops).getD i 0).testBit j = true) :
    ∃ e ∈ o.after.toList, Go.Region.binds .any e = true ∧ (e.on = j ∨ ((Go.Region.before ops).getD e.on 0).testBit j = true) := by
  rw [qpN] at hb ⊢
  exact qpr ops.toList #[] i o (by simpa using h) j (by simpa using hb)
section
variable {P : Program} {M : Maps} {call : Call}
theorem qix {A : Ann} {rid : Nat} {ops : Array Oper} : ∀ {rest : List Oper} {i : Nat} {l : List Op}, qcv M P A rid ops i rest = some l → l.length = rest.length ∧ ∀ k o, rest[k]? = some o → ∃ q, l[k]? = some q ∧ q.dst = o.dst ∧ gOf ops o.guard = some q.g ∧
    q.k = qdf (qbs M P A (fun k' => (mvs A rid (i + k)).contains k') (match o.dst with | some d => A.loc.contains d | none => false) o.op)
  | [], i, l, h => by simp only [qcv, Option.some.injEq] at h; subst h; exact ⟨rfl, fun k o h => by simp at h⟩
  | o' :: rest, i, l, h => by
    simp only [qcv] at h
    split at h
    · rename_i g' r hg hr
      simp only [Option.some.injEq] at h
      subst h
      obtain ⟨h1, h2⟩ := qix hr
      refine ⟨by simp [h1], fun k o ho => ?_⟩
      cases k with
      | zero =>
        simp at ho
        subst ho
        exact ⟨_, rfl, rfl, hg, rfl⟩
      | succ k =>
        obtain ⟨q, q1, q2, q3, q4⟩ := h2 k o (by simpa using ho)
        exact ⟨q, by simpa using q1, q2, q3, by rw [show i + (k + 1) = i + 1 + k by omega]; exact q4⟩
    · cases h
theorem qoK {k : OpK} (h : k.looks = false) : k.isCall = false := by cases k <;> first | rfl | cases h
theorem qkD {ops : Array Oper} {l : List Op} {o o' : Op} {i j : Nat} (ha : o.k.free = true ∨ (o'.k.looks = false ∧ o'.k.free = true)) (s1 : qfd ops l.length i = false) (s2 : qfd ops l.length j = false) (hc : qf8 ops l i = true → o'.k.looks = false ∧ o'.k.free = true) :
    qdY ops l o i = false ∨ (o'.k.looks = false ∧ qdY ops l o' j = false) := by
  have right : o'.k.looks = false ∧ o'.k.free = true → o'.k.looks = false ∧ qdY ops l o' j = false := fun h => ⟨h.1, by
    unfold qdY
    rw [h.2, s2, qoK h.1]; rfl⟩
  rcases ha with ha | ha
  · cases h : qf8 ops l i with
    | true => exact .inr (right (hc h))
    | false =>
      left
      unfold qdY
      rw [ha, s1, h]; simp
  · exact .inr (right ha)
def qd5 (ops : Array Oper) (l : List Op) (i : Nat) : El := (l.getD i default, qdY ops l (l.getD i default) i, qiJ ops l i)
theorem qtp (ops : Array Oper) (l : List Op) : (l.zipIdx.map fun (o, i) => (o, qdY ops l o i, qiJ ops l i)) = (List.range l.length).map (qd5 ops l) := by
  apply List.ext_getElem?
  intro k
  simp only [List.getElem?_map, List.getElem?_zipIdx, List.getElem?_range']
  by_cases hk : k < l.length
  · rw [List.getElem?_range hk]
    simp [hk, qd5]
  · rw [List.getElem?_eq_none (by omega), List.getElem?_eq_none (by simp; omega)]
    rfl
theorem qje {n : Nat} : ∀ {e : Env}, qb0 n e = true → qed n e = e
  | [], _ => rfl
  | (m, v) :: e, h => by
    have h2 : qb0 n e = true := by
      cases v <;> first | exact h | (simp only [qb0, qz0] at h; exact h.2)
    simp only [qed, qje h2]
    cases v with
    | lp t o =>
      simp only [qb0, qz0, Bool.not_eq_true'] at h
      simp [h.1]
    | _ => rfl
theorem qrL {bx : Bool} {no : List Nat} {dst : Option Nat} {v : V} {st st' : St} (h : qeM bx no dst v st = some st') : put dst v st = st' := by
  unfold qeM at h
  cases dst with
  | none => simpa [put] using h
  | some n =>
    simp only at h
    split at h
    · rw [qz2] at h
      split at h
      · rename_i hb
        simp only [Option.some.injEq] at h
        simp only [qz0] at hb
        rw [← h]
        simp only [put, qje hb.2]
      · cases h
    · rw [qz2] at h
      split at h
      · cases h
      · simpa [put] using h
    · rename_i hb _
      simp only [Option.some.injEq] at h
      rw [← h, qbL (fun cs e => hb cs e)]
def rem (n : Nat) (listed : Array Bool) : List Nat := (List.range n).filter fun i => !listed.getD i true
theorem qhs (n : Nat) (listed : Array Bool) : (rem n listed).Pairwise (· < ·) := (List.pairwise_lt_range).filter _
theorem qeG {n i : Nat} {listed : Array Bool} : i ∈ rem n listed ↔ i < n ∧ listed.getD i true = false := by
  simp [rem, List.mem_filter]
theorem qtd {n i : Nat} {listed : Array Bool} (hs : listed.size = n) {pre post : List Nat} (h : rem n listed = pre ++ i :: post) : rem n (listed.setIfInBounds i true) = pre ++ post := by
  have hi : i < listed.size := by
    have : i ∈ rem n listed := by rw [h]; simp
    rw [hs]; exact (qeG.1 this).1
  have e : rem n (listed.setIfInBounds i true) = (rem n listed).filter (fun k => k != i) := by
    unfold rem
    rw [List.filter_filter]
    apply List.filter_congr
    intro k hk
    by_cases hki : k = i
    · subst hki; simp [hi]
    · have : i ≠ k := fun e => hki e.symm
      simp [Array.getElem?_setIfInBounds_ne this, hki]
  rw [e, h]
  have hp := qhs n listed
  rw [h] at hp
  rw [List.pairwise_append] at hp
  obtain ⟨_, h2, h3⟩ := hp
  rw [List.pairwise_cons] at h2
  rw [List.filter_append, List.filter_cons]
  simp only [bne_self_eq_false, qzL, if_false]
  congr 1
  · rw [List.filter_eq_self]
    intro k hk
    have := h3 k hk i (by simp)
    simp; omega
  · rw [List.filter_eq_self]
    intro k hk
    have := h2.1 k hk
    simp; omega
theorem qtl (hcs : qbC P M call) (hlo : qaC call) {F : Fence} (hF : WF F) {m : Nat} {A : Ann} {rid nt : Nat} {ops : Array Oper} {l : List Op} (htr : qcv M P A rid ops 0 ops.toList = some l) (hlex : qs9 ops = true) (hord : qh0 ops l = true)
    (hdst : ∀ o ∈ ops.toList, ∀ d, o.dst = some d → d < nt) (hnd : ∀ o ∈ ops.toList, F.round = none ∨ qfb o.op) : ∀ (fuel : Nat) (listed : Array Bool), listed.size = ops.size → (rem ops.size listed).length = fuel →
      (∀ x, listed.getD x false = true → ∀ j, ((Go.Region.before ops).getD x 0).testBit j = true → listed.getD j false = true) →
    ∀ (st stF : St) (g : Gh) (w : World) (β : Nat → Nat) (a : Act), nt ≤ a.tmps.size → qic call ((rem ops.size listed).map (qd5 ops l)) st = some stF → Rel M g w β st a.tmps →
    ∀ Q : Exit → Act → World → Prop, (∀ a' w' st', Eqv stF st' → Good True M g w a st' a' w' → Q .normal a' w') → Go.wpAnyIn F m P .any ops Q fuel listed a w := by
  obtain ⟨hlen, hget⟩ := qix htr
  have hll : l.length = ops.size := by simpa using hlen
  -- the least that is left is ready
  have noReady : ∀ {listed : Array Bool}, listed.size = ops.size → Go.Region.ready .any ops listed = [] → rem ops.size listed = [] := by
    intro listed hs hr
    cases hq : rem ops.size listed with
    | nil => rfl
    | cons i t =>
      exfalso
      have hi : i ∈ rem ops.size listed := by rw [hq]; simp
      obtain ⟨h1, h2⟩ := qeG.1 hi
      have : i ∈ Go.Region.ready .any ops listed := by
        rw [Go.mem_ready]
        refine ⟨h2, ops[i], by simp [h1], fun e he hb => ?_⟩
        simp only [qs9, List.all_eq_true] at hlex
        have h3 := hlex (ops[i], i) (by rw [List.mem_zipIdx_iff_getElem?]; simp [h1]) e (by simpa using he)
        simp only [hb, qz6, Bool.false_or, Nat.blt_eq] at h3
        -- it's smaller: listed
        cases hl : listed.getD e.on false with
        | true => rfl
        | false =>
          exfalso
          have : e.on ∈ rem ops.size listed := qeG.2 ⟨by omega, by
            have hlt : e.on < listed.size := by omega
            simp only [Array.getD_eq_getD_getElem?, Array.getElem?_eq_getElem hlt, Option.getD_some] at hl ⊢
            exact hl⟩
          have hp := qhs ops.size listed
          rw [hq] at this hp
          rcases List.mem_cons.1 this with h | h
          · omega
          · have := (List.pairwise_cons.1 hp).1 _ h; omega
      rw [hr] at this
      cases this
  intro fuel
  induction fuel with
  | zero =>
    intro listed hs hf hcl st stF g w β a hnt hrun hR Q hQ
    have hrem : rem ops.size listed = [] := List.eq_nil_of_length_eq_zero hf
    rw [hrem] at hrun
    simp only [qzT, qic, Option.some.injEq] at hrun
    subst hrun
    refine ⟨?_, hQ a w st (Eqv.refl _) ⟨⟨g, β, hR, Evo.refl g w, .refl⟩, rfl, fun _ => rfl⟩⟩
    cases hq : Go.Region.ready .any ops listed with
    | nil => rfl
    | cons i t =>
      exfalso
      have hi : i ∈ Go.Region.ready .any ops listed := by rw [hq]; simp
      rw [Go.mem_ready] at hi
      obtain ⟨h1, o, ho, _⟩ := hi
      have : i ∈ rem ops.size listed := qeG.2 ⟨(Array.getElem?_eq_some_iff.1 ho).1, h1⟩
      rw [hrem] at this; cases this
  | succ fuel ih =>
    intro listed hs hf hcl st stF g w β a hnt hrun hR Q hQ
    refine ⟨fun hr => ?_, fun i hi => ?_⟩
    · have := noReady hs hr
      rw [this] at hf; simp at hf
    · rw [Go.mem_ready] at hi
      obtain ⟨h1, o, ho, hpre⟩ := hi
      have hilt := (Array.getElem?_eq_some_iff.1 ho).1
      have him : i ∈ rem ops.size listed := qeG.2 ⟨hilt, h1⟩
      obtain ⟨pre, post, hrem⟩ := List.append_of_mem him
      -- what stands before i is listed
      have hbef : ∀ j, ((Go.Region.before ops).getD i 0).testBit j = true → listed.getD j false = true := fun j hj => by
        obtain ⟨e, he, hb, hj⟩ := qnt ho hj
        have hl := hpre e (by simpa using he) hb
        rcases hj with rfl | hj
        · exact hl
        · exact hcl _ hl j hj
      have hwhole : (rem ops.size listed).map (qd5 ops l) = pre.map (qd5 ops l) ++ qd5 ops l i :: post.map (qd5 ops l) := by rw [hrem]; simp
      rw [hwhole] at hrun
      obtain ⟨q, hq1, hq2, hq3, hq4⟩ := hget i o (by simpa using ho)
      have hel : (qd5 ops l i).1 = q := by simp [qd5, hq1]
      have hsorted := qhs ops.size listed
      obtain ⟨st1, stF', hstep, hrest, heqv⟩ := qmK hlo (x := qd5 ops l i) (pre := pre.map (qd5 ops l)) (post := post.map (qd5 ops l)) (fun y hy => by
          have : ∃ k, y = qd5 ops l k := by
            simp only [List.mem_append, List.mem_map, List.mem_cons] at hy
            rcases hy with ⟨k, _, h⟩ | h | ⟨k, _, h⟩
            · exact ⟨k, h.symm⟩
            · exact ⟨i, h⟩
            · exact ⟨k, h.symm⟩
          obtain ⟨k, rfl⟩ := this
          intro hf
          have hf : qdY ops l (l.getD k default) k = false := hf
          unfold qdY at hf
          simp only [Bool.or_eq_false_iff, Bool.not_eq_false'] at hf
          exact hf.1.1) (fun y hy => by
          obtain ⟨k, hk, rfl⟩ := List.mem_map.1 hy
          have hkm : k ∈ rem ops.size listed := by rw [hrem]; simp [hk]
          have hki : k < i := by
            rw [hrem, List.pairwise_append] at hsorted
            exact hsorted.2.2 k hk i (by simp)
          have hnb : ((Go.Region.before ops).getD i 0).testBit k = false := by
            cases hq : ((Go.Region.before ops).getD i 0).testBit k with
            | false => rfl
            | true =>
              have := hbef k hq
              have h2 := (qeG.1 hkm).2
              have hlt : k < listed.size := by rw [hs]; exact (qeG.1 hkm).1
              simp only [Array.getD_eq_getD_getElem?, Array.getElem?_eq_getElem hlt, Option.getD_some] at this h2
              rw [this] at h2; cases h2
          have s1 : qfd ops l.length i = false := by
            unfold qfd
            rw [List.all_eq_false]
            refine ⟨k, by rw [List.mem_range]; omega, ?_⟩
            have b1 : qz5 k i = false := by
              cases hq : qz5 k i with
              | false => rfl
              | true => have := qz8 hq; omega
            have b2 : Nat.blt k i = true := by simpa using hki
            rw [b1, b2, cond_true, hnb]; simp
          have s2 : qfd ops l.length k = false := by
            unfold qfd
            rw [List.all_eq_false]
            refine ⟨i, by rw [List.mem_range]; omega, ?_⟩
            have b1 : qz5 i k = false := by
              cases hq : qz5 i k with
              | false => rfl
              | true => have := qz8 hq; omega
            have b2 : Nat.blt i k = false := by
              cases hq : Nat.blt i k with
              | false => rfl
              | true => have : i < k := by simpa using hq
                        omega
            rw [b1, b2, cond_false, hnb]; simp
          have hkl : k < l.length := by rw [hll]; omega
          have hil : i < l.length := by rw [hll]; omega
          have ek : (qd5 ops l k).1 = l[k] := by simp [qd5, hkl]
          have ei : (qd5 ops l i).1 = l[i] := by simp [qd5, hil]
          have fk : (qd5 ops l k).2.1 = qdY ops l l[k] k := by simp [qd5, hkl]
          have fi : (qd5 ops l i).2.1 = qdY ops l l[i] i := by simp [qd5, hil]
          have hbl : Nat.blt k i = true := by simpa using hki
          have hbl2 : Nat.blt i k = false := by
            cases hq : Nat.blt i k with
            | false => rfl
            | true => have : i < k := by simpa using hq
                      omega
          have hne1 : qz5 i k = false := by
            cases hq : qz5 i k with
            | false => rfl
            | true => have := qz8 hq; omega
          have hne2 : qz5 k i = false := by
            cases hq : qz5 k i with
            | false => rfl
            | true => have := qz8 hq; omega
          have hap : Apart l[k] l[i] := by
            simp only [qh0, List.all_eq_true] at hord
            have := hord (l[k], k) (by rw [List.mem_zipIdx_iff_getElem?]; simp [hkl]) (l[i], i) (by rw [List.mem_zipIdx_iff_getElem?]; simp [hil])
            simp only [Bool.or_eq_true, Bool.not_eq_true', hnb, qzL, or_false] at this
            refine qkP (this.resolve_left ?_)
            rw [hbl]; simp
          have c1 : qf8 ops l k = true → l[i].k.looks = false ∧ l[i].k.free = true := fun h => by
            simp only [qf8, List.all_eq_true] at h
            have := h (l[i], i) (by rw [List.mem_zipIdx_iff_getElem?]; simp [hil])
            rw [hne1, hbl2, cond_false, hnb] at this
            simpa using this
          have c2 : qf8 ops l i = true → l[k].k.looks = false ∧ l[k].k.free = true := fun h => by
            simp only [qf8, List.all_eq_true] at h
            have := h (l[k], k) (by rw [List.mem_zipIdx_iff_getElem?]; simp [hkl])
            rw [hne2, hbl, cond_true, hnb] at this
            simpa using this
          have e1 : (qd5 ops l k).1.k = l[k].k := by rw [ek]
          have e2 : (qd5 ops l i).1.k = l[i].k := by rw [ei]
          rw [e1, e2, fk, fi]
          exact ⟨qkD hap.f1 s2 s1 c1, qkD hap.f2 s1 s2 c2⟩) (fun y hy => by
          obtain ⟨k, hk, rfl⟩ := List.mem_map.1 hy
          have hkm : k ∈ rem ops.size listed := by rw [hrem]; simp [hk]
          have hki : k < i := by
            rw [hrem, List.pairwise_append] at hsorted
            exact hsorted.2.2 k hk i (by simp)
          have hnb : ((Go.Region.before ops).getD i 0).testBit k = false := by
            cases hq : ((Go.Region.before ops).getD i 0).testBit k with
            | false => rfl
            | true =>
              have := hbef k hq
              have h2 := (qeG.1 hkm).2
              have hlt : k < listed.size := by rw [hs]; exact (qeG.1 hkm).1
              simp only [Array.getD_eq_getD_getElem?, Array.getElem?_eq_getElem hlt, Option.getD_some] at this h2
              rw [this] at h2; cases h2
          have hkl : k < l.length := by rw [hll]; omega
          have hil : i < l.length := by rw [hll]; omega
          have ek : (qd5 ops l k).1 = l[k] := by simp [qd5, hkl]
          have ei : (qd5 ops l i).1 = l[i] := by simp [qd5, hil]
          refine ⟨?_, fun n hn => ?_⟩
          · simp only [qh0, List.all_eq_true] at hord
            have := hord (l[k], k) (by rw [List.mem_zipIdx_iff_getElem?]; simp [hkl]) (l[i], i) (by rw [List.mem_zipIdx_iff_getElem?]; simp [hil])
            simp only [Bool.or_eq_true, Bool.not_eq_true', hnb, qzL, or_false] at this
            rw [ek, ei]
            refine qkP (this.resolve_left ?_)
            have hbl : Nat.blt k i = true := by simpa using hki
            rw [hbl]; simp
          · refine qks ?_
            show n ∈ qiJ ops l i
            unfold qiJ
            rw [List.mem_flatMap]
            refine ⟨(l[k], k), by rw [List.mem_zipIdx_iff_getElem?]; simp [hkl], ?_⟩
            simp only [hnb, qzL, if_false]
            rw [ek] at hn
            exact hn) hrun
      have hrem' := qtd hs hrem
      have hf' : (rem ops.size (listed.setIfInBounds i true)).length = fuel := by
        rw [hrem'] ; rw [hrem] at hf; simp at hf ⊢; omega
      have hcl' : ∀ x, (listed.setIfInBounds i true).getD x false = true → ∀ j, ((Go.Region.before ops).getD x 0).testBit j = true → (listed.setIfInBounds i true).getD j false = true := by
        intro x hx j hj
        by_cases hxi : i = x
        · subst hxi; exact Go.getD_set_true (hbef j hj)
        · rw [Go.getD_set_ne false hxi] at hx
          exact Go.getD_set_true (hcl x hx j hj)
      have go : ∀ {g1 : Gh} {w1 : World} {β1 : Nat → Nat} {a1 : Act}, a1.tmps.size = a.tmps.size → DefOk g1 w w1 a.defers a1.defers → a1.defers = a.defers → Rel M g1 w1 β1 st1 a1.tmps → Evo g w g1 w1 → Go.wpAnyIn F m P .any ops Q fuel (listed.setIfInBounds i true) a1 w1 := by
        intro g1 w1 β1 a1 hs1 hd1 hq1 hR1 hE1
        refine ih _ (by simpa using hs) hf' hcl' st1 stF' g1 w1 β1 a1 (by rw [hs1]; exact hnt) (by rw [hrem', List.map_append]; exact hrest) hR1 Q (fun a' w' st' he hg => ?_)
        exact hQ a' w' st' (heqv.trans he) (hg.trans hE1 hs1 hd1 (fun _ => hq1) id)
      have hd : jH o a := fun n hn => Nat.lt_of_lt_of_le (hdst o (by
        have := Array.mem_of_getElem? ho
        simpa using this) n hn) hnt
      unfold Go.wpOpIn
      simp only [ho]
      unfold qfR at hstep
      rw [hel] at hstep
      split at hstep
      · rename_i hw
        rw [qdX hR hq3 hw]
        simp only [if_true]
        refine qjS hF (hnd o (by
          have := Array.mem_of_getElem? ho
          simpa using this)) ?_
        split at hstep
        · rename_i r hr
          rw [qz2] at hstep
          split at hstep
          · cases hstep
          · rename_i hp
            have hpan : r.pan = false := by
              simp only [Bool.or_eq_true, not_or] at hp
              simpa using hp.1
            have hput := qrL hstep
            have hq5 := hr
            rw [hq4] at hq5
            have hq6 := qf7 hq5
            rw [← hq4] at hq6
            refine qrX hcs hd hR hq6 (fun hloc hn => ?_) hr ⟨fun _ c w1 g1 β1 hR1 hE1 => ?_, fun hp2 => ?_⟩
            · rw [hn] at hloc; simp at hloc
            · rw [← hq2, hput, hq2] at hR1
              exact go (qbv _ _ _) (qg2 _ _ _) (qby _ _ _) hR1 hE1
            · rw [hpan] at hp2; cases hp2
        · cases hstep
      · rename_i hw
        rw [qdX hR hq3 hw]
        simp only [qzL, if_false]
        simp only [Option.some.injEq] at hstep
        subst hstep
        refine ⟨fun f _ => hF.fn f, ?_⟩
        exact go (qbv _ _ _) (qg2 _ _ _) (qby _ _ _) (by rw [hq2]; exact qkJ hR hd) (Evo.refl g w)
      · cases hstep
theorem qpb (hm : P.follows .mixedOrders = true) (hcs : qbC P M call) (hlo : qaC call) : qo2 P M call := by
  intro A rid ops l htr hlex hord st e st' hrun g w β a nt hdst hnt hR F m hF hnd Q hQ
  obtain ⟨rfl, hrunD⟩ := qga hrun
  have hll : l.length = ops.size := by simpa using (qix htr).1
  refine Go.wpIn_region_any hm ?_
  have hall : ∀ i, i < ops.size → (Array.replicate ops.size false).getD i true = false := fun i hi => by simp [hi]
  have hrem : rem ops.size (Array.replicate ops.size false) = List.range ops.size := by
    unfold rem
    rw [List.filter_eq_self]
    intro i hi
    rw [hall i (by simpa using hi)]; rfl
  have hsm : SameMem w { w with drawn := w.drawn + 1 } := ⟨rfl, rfl, rfl⟩
  refine qtl hcs hlo hF htr hlex hord hdst (qtS hnd) ops.size _ (by simp) (by rw [hrem]; simp) (fun x hx => ?_) st st' g { w with drawn := w.drawn + 1 } β a hnt (by rw [hrem, ← hll, ← qtp]; exact hrunD) (hR.sameMem hsm) Q (fun a' w' st2 he hg => ?_)
  · exfalso
    simp only [Array.getD_eq_getD_getElem?] at hx
    by_cases hlt : x < ops.size
    · simp [hlt] at hx
    · rw [Array.getElem?_eq_none (by simp; omega)] at hx; simp at hx
  · refine hQ .normal a' w' (show Post True M g w a .nrm st' .normal a' w' from ?_)
    obtain ⟨⟨g1, β1, hR1, hE1, hd1⟩, hs1, hq1⟩ := hg
    refine ⟨⟨g1, β1, ⟨?_, fun k => ?_, fun id o ho => ?_, hR1.fresh, hR1.gl⟩, (hsm.evo g).trans hE1, hd1.imp (fun ms h => ⟨h.1, MarksOk.base (w0 := { w with drawn := w.drawn + 1 }) (w0' := w) (qzZ _) h.2⟩)⟩, hs1, hq1⟩
    · rw [hR1.n, he.H]
    · rw [← he.e k]; exact hR1.e k
    · exact hR1.h id o (by rw [he.H]; exact ho)
theorem sound {pg : Pg} (hm : P.follows .mixedOrders = true) (hT : Tab P M pg) (hx : qbC P M pg.ext) (hxlo : qaC pg.ext) (n : Nat) : qbC P M (qcQ pg n) := by
  have key : ∀ n, qfq P M (exec pg n) := qnk (fun n h => qfY hT hx (qeQ hxlo n) h (qg1 n)) (fun n hcs => qpb hm hcs (qfo hxlo (qeQ hxlo n))) (fun n h => qnG hT.2 h)
  exact qfY hT hx (qeQ hxlo n) (key n) (qg1 n)
theorem qnj {pg : Pg} (hm : P.follows .mixedOrders = true) (hT : Tab P M pg) (hx : qbC P M pg.ext) (hxlo : qaC pg.ext) {n i : Nat} {vs : List V} {H : List Obj} {r : Cr} (hcall : qcQ pg n i vs H = some r) {f' : FuncId} (hlook : look M.fm f' = some i) (hext : pg.fn i ≠ none)
    {g : Gh} {w : World} {argv : List Value} (hargs : ArgsRep M g w 0 vs argv) (hH : RelH M g w H) : Go.Calls P f' argv.toArray w (yf M g w r) := by
  have key : ∀ n, qfq P M (exec pg n) := qnk (fun n h => qfY hT hx (qeQ hxlo n) h (qg1 n)) (fun n hcs => qpb hm hcs (qfo hxlo (qeQ hxlo n))) (fun n h => qnG hT.2 h)
  exact (qgt hT (qeQ hxlo n) (key n) (qg1 n) hcall hlook hext hargs hH).1
end
end W

/-
  What the kernel works out of a call on closed data, as a fact about the call.
-/
set_option linter.unusedSimpArgs false
set_option linter.unusedVariables false
namespace W
open Go (IntKind BinOp UnOp)
mutual
def eqD : D → D → Bool
  | .b x, .b y => x == y
  | .i k x, .i k' y => eqK k k' && eqI x y
  | .s x, .s y => eqT x y
  | .nil, .nil => true
  | .sl x, .sl y => qnE x y
  | .agg x, .agg y => qnE x y
  | .np, .np => true
  | .nf, .nf => true
  | .ni, .ni => true
  | .nm, .nm => true
  | _, _ => false
def qnE : List D → List D → Bool
  | [], [] => true
  | x :: l, y :: r => eqD x y && qnE l r
  | _, _ => false
end
theorem qum {k k' : IntKind} (h : eqK k k' = true) : k = k' := by cases k <;> cases k' <;> first | rfl | cases h
theorem qu7 {x y : Int} (h : eqI x y = true) : x = y := by
  cases x <;> cases y <;> first | (have := qz8 h; subst this; rfl) | cases h
theorem qr6 : ∀ {x y : List Nat}, eqT x y = true → x = y
  | [], [], _ => rfl
  | a :: x, b :: y, h => by
    simp only [eqT, qz0] at h
    rw [qz8 h.1, qr6 h.2]
  | [], _ :: _, h => by cases h
  | _ :: _, [], h => by cases h
mutual
theorem qoH : ∀ {x y : D}, eqD x y = true → x = y
  | .b x, y, h => by cases y <;> simp only [eqD] at h <;> first | cases h | skip; rw [eq_of_beq h]
  | .i k x, y, h => by
    cases y <;> simp only [eqD] at h <;> first | cases h | skip
    simp only [qz0] at h
    rw [qum h.1, qu7 h.2]
  | .s x, y, h => by cases y <;> simp only [eqD] at h <;> first | cases h | skip; rw [qr6 h]
  | .nil, y, h => by cases y <;> simp only [eqD] at h <;> first | rfl | (cases h; done) | (cases h; rfl)
  | .sl x, y, h => by cases y <;> simp only [eqD] at h <;> first | cases h | skip; rw [qjz h]
  | .agg x, y, h => by cases y <;> simp only [eqD] at h <;> first | cases h | skip; rw [qjz h]
  | .np, y, h => by cases y <;> simp only [eqD] at h <;> first | rfl | (cases h; done) | (cases h; rfl)
  | .nf, y, h => by cases y <;> simp only [eqD] at h <;> first | rfl | (cases h; done) | (cases h; rfl)
  | .ni, y, h => by cases y <;> simp only [eqD] at h <;> first | rfl | (cases h; done) | (cases h; rfl)
  | .nm, y, h => by cases y <;> simp only [eqD] at h <;> first | rfl | (cases h; done) | (cases h; rfl)
theorem qjz : ∀ {x y : List D}, qnE x y = true → x = y
  | [], [], _ => rfl
  | a :: x, b :: y, h => by
    simp only [qnE, qz0] at h
    rw [qoH h.1, qjz h.2]
  | [], _ :: _, h => by simp [qnE] at h
  | _ :: _, [], h => by simp [qnE] at h
end
def qpJ : List V → List D → Bool
  | [], [] => true
  | .d x :: l, y :: r => eqD x y && qpJ l r
  | _, _ => false
theorem qpe : ∀ {l : List V} {r : List D}, qpJ l r = true → l = r.map .d
  | [], [], _ => rfl
  | v :: l, y :: r, h => by
    cases v with
    | d x =>
      simp only [qpJ, qz0] at h
      rw [qoH h.1, qpe h.2]; rfl
    | _ => cases h
  | [], _ :: _, h => by simp [qpJ] at h
  | v :: _, [], h => by cases v <;> simp [qpJ] at h
def isD (r : Option Cr) (x : D) : Bool := match r with
  | some ⟨false, true, .d y, _, _⟩ => eqD y x
  | _ => false
def qt6 (r : Option Cr) (x : List D) : Bool := match r with
  | some ⟨false, true, .osl y, _, _⟩ => qnE y x
  | _ => false
def qt5 (r : Option Cr) (x : List D) : Bool := match r with
  | some ⟨false, true, .tup y, _, _⟩ => qpJ y x
  | _ => false
theorem qio {pg : Pg} (hx : qaC pg.ext) {f : Nat} {vs : List V} {H H' : List Obj} {v : V} {lo : Nat} (h : zF pg f vs H = some ⟨false, true, v, H', lo⟩) : zF pg f vs H = some ⟨false, true, v, H, lo⟩ := by
  obtain ⟨n, hn⟩ := qdx.1 h
  have hlo := (qfo hx (qeQ hx n) _ _ _ _ hn).2.2 rfl
  simp only at hlo
  rw [hlo] at h
  exact h
theorem qmF {pg : Pg} (hx : qaC pg.ext) {N f : Nat} {vs : List V} {H : List Obj} {x : D} (h : isD (qfL pg N f vs H) x = true) : ∃ lo, zF pg f vs H = some ⟨false, true, .d x, H, lo⟩ := by
  unfold isD at h
  split at h
  · rename_i y H' lo hr
    rw [qoH h] at hr
    exact ⟨lo, qio hx (qiC hr)⟩
  · cases h
theorem qvj {pg : Pg} (hx : qaC pg.ext) {N f : Nat} {vs : List V} {H : List Obj} {x : List D} (h : qt6 (qfL pg N f vs H) x = true) : ∃ lo, zF pg f vs H = some ⟨false, true, .osl x, H, lo⟩ := by
  unfold qt6 at h
  split at h
  · rename_i y H' lo hr
    rw [qjz h] at hr
    exact ⟨lo, qio hx (qiC hr)⟩
  · cases h
theorem quc {pg : Pg} (hx : qaC pg.ext) {N f : Nat} {vs : List V} {H : List Obj} {x : List D} (h : qt5 (qfL pg N f vs H) x = true) : ∃ lo, zF pg f vs H = some ⟨false, true, .tup (x.map .d), H, lo⟩ := by
  unfold qt5 at h
  split at h
  · rename_i y H' lo hr
    rw [qpe h] at hr
    exact ⟨lo, qio hx (qiC hr)⟩
  · cases h
theorem qxP {fn : Nat → Option Fn} : qaC (Pg.mk fn fun _ _ _ => none).ext := fun _ _ _ _ h => by cases h
end W

/- Where all below the heap's end is as it was. -/
set_option linter.unusedSimpArgs false
set_option linter.unusedVariables false
namespace W
open Go (World Value Addr IntKind Program TypeId FuncId Operand Act Oper Next Result Sem BinOp UnOp Ending Exit Code Func Calls)
open Go.RowKit (Below)
theorem qpM {M : Maps} {g : Gh} {w w' : World} {H : List Obj} (hH : RelH M g w H) (h : Below w.heap.size w w') : RelH M g w' H ∧ Evo g w g w' := by
  have hg : Grow g w g w' := ⟨h.size, fun _ => qzZ _, fun b o ho => by
    have hb : b < w.heap.size := by
      rcases Nat.lt_or_ge b w.heap.size with h1 | h1
      · exact h1
      · rw [(hH.fresh b h1).2] at ho; omega
    simp only [World.cell?, h.block b hb]⟩
  have hk : ∀ ℓ, Kept g w g w' ℓ := fun ℓ => ⟨fun b hb => by
    have : b < w.heap.size := by
      rcases Nat.lt_or_ge b w.heap.size with h1 | h1
      · exact h1
      · rw [(hH.fresh b h1).1] at hb; cases hb
    exact ⟨hb, h.block b this, rfl⟩⟩
  exact ⟨⟨hH.n, fun id o ho => (hH.h id o ho).mono hg (qzZ _) (fun _ _ => rfl) (by rw [hH.n]; exact (List.getElem?_eq_some_iff.1 ho).1) (hk _) (fun i => hk _), fun b hb => hH.fresh b (Nat.le_trans h.size hb), hH.gl.mono hg⟩,
    ⟨hg, qzZ _, fun _ _ => rfl, fun b hb _ => ⟨rfl, h.block b hb, rfl⟩, h.os, h.output⟩⟩
end W

set_option linter.unusedSimpArgs false
set_option linter.unusedVariables false
namespace W
open Go (IntKind BinOp UnOp)
set_option maxRecDepth 20000
def ixN (c : Nat) : List Nat → Int
  | [] => -1
  | x :: l => bif qz5 x c then 0 else (match ixN c l with | .ofNat n => .ofNat (n + 1) | .negSucc _ => -1)
def ixX (vs : List V) (H : List Obj) : Option Cr :=
  match vs with
  | [.d (.s t), .d (.i .u8 c)] => some ⟨false, true, .d (.i .i64 (ixN (c.toNat % 256) t)), H, H.length⟩
  | _ => none
def teX (vs : List V) (H : List Obj) : Option Cr :=
  match vs with
  | [.d (.s _), .d (.s t), .d (.i .i64 _), .d (.i .i64 _), .ifc 110 (.d (.i .i64 e))] => bif (eqI e 1 || eqI e 2) && Nat.ble t.length 1000000000000 then some ⟨false, true, .ifc 112 .undef, H, H.length⟩ else none
  | _ => none
def KW : List (List Nat) := [[65, 82, 82, 65, 89], [66, 69, 71, 73, 78], [66, 89], [67, 65, 83, 69], [67, 79, 78, 83, 84], [68, 73, 86], [68, 79], [69, 76, 83, 69], [69, 76, 83, 73, 70], [69, 78, 68], [70, 65, 76, 83, 69], [70, 79, 82], [73, 70], [73, 77, 80, 79, 82, 84], [73, 78], [73, 83], [77, 79, 68], [77, 79, 68, 85, 76, 69], [78, 73, 76], [79, 70], [79, 82], [80, 79, 73, 78, 84, 69, 82], [80, 82, 79, 67, 69, 68, 85, 82, 69], [82, 69, 67, 79, 82, 68], [82, 69, 80, 69, 65, 84], [82, 69, 84, 85, 82, 78], [84, 72, 69, 78], [84, 79], [84, 82, 85, 69], [84, 89, 80, 69], [85, 78, 84, 73, 76], [86, 65, 82], [87, 72, 73, 76, 69]]
def kwX (vs : List V) (H : List Obj) : Option Cr :=
  match vs with
  | [] => some ⟨false, true, .d (.sl (KW.map D.s)), H, H.length⟩
  | _ => none
def pgA : Pg := ⟨fun n => bif qz5 n 58 then none else bif qz5 n 76 then none else prog n, fun i vs H => bif qz5 i 58 then ixX vs H else bif qz5 i 76 then teX vs H else none⟩
def pg : Pg := ⟨fun n => bif qz5 n 58 then none else bif qz5 n 76 then none else bif qz5 n 17 then none else prog n, fun i vs H => bif qz5 i 58 then ixX vs H else bif qz5 i 76 then teX vs H else bif qz5 i 17 then kwX vs H else none⟩
theorem qka {H : List Obj} {v : V} {r : Cr} (h : some (⟨false, true, v, H, H.length⟩ : Cr) = some r) : H.length ≤ r.H.length ∧ (∀ id, id < r.lo → id < H.length → r.H[id]? = H[id]?) ∧ (r.same = true → r.H = H) := by
  cases h
  exact ⟨qzZ _, fun _ _ _ => rfl, fun _ => rfl⟩
theorem qrJ {vs : List V} {H : List Obj} {r : Cr} (h : ixX vs H = some r) : H.length ≤ r.H.length ∧ (∀ id, id < r.lo → id < H.length → r.H[id]? = H[id]?) ∧ (r.same = true → r.H = H) := by
  unfold ixX at h
  split at h
  · exact qka h
  · cases h
theorem qrr {vs : List V} {H : List Obj} {r : Cr} (h : teX vs H = some r) : H.length ≤ r.H.length ∧ (∀ id, id < r.lo → id < H.length → r.H[id]? = H[id]?) ∧ (r.same = true → r.H = H) := by
  unfold teX at h
  split at h
  · rw [qz2] at h
    split at h
    · exact qka h
    · cases h
  · cases h
theorem qo6 : qaC pgA.ext := by
  intro i vs H r h
  simp only [pgA, qz2] at h
  split at h
  · exact qrJ h
  · split at h
    · exact qrr h
    · cases h
theorem qrG : qaC pg.ext := by
  intro i vs H r h
  simp only [pg, qz2] at h
  split at h
  · exact qrJ h
  · split at h
    · exact qrr h
    · split at h
      · unfold kwX at h
        split at h
        · exact qka h
        · cases h
      · cases h
theorem qux : isD (qfL pgA 3000 17 [] []) (.sl (KW.map D.s)) = true := by decide +kernel
theorem qpm {H : List Obj} : zF pg 17 [] H = some ⟨false, true, .d (.sl (KW.map D.s)), H, H.length⟩ := by
  rw [qfE]
  unfold jD
  rw [show pg.fn 17 = none from rfl]
  rfl
theorem qpn {t : List Nat} {c : Nat} (hc : c < 256) {H : List Obj} : zF pg 58 [.d (.s t), .d (.i .u8 c)] H = some ⟨false, true, .d (.i .i64 (ixN c t)), H, H.length⟩ := by
  have : (c : Int).toNat % 256 = c := by simp; omega
  rw [qfE]
  unfold jD
  rw [show pg.fn 58 = none from rfl]
  show ixX [.d (.s t), .d (.i .u8 c)] H = _
  rw [ixX, this]
theorem qsY {f t : List Nat} {b z e : Int} (he : e = 1 ∨ e = 2) (ht : t.length ≤ 1000000000000) {H : List Obj} : zF pg 76 [.d (.s f), .d (.s t), .d (.i .i64 b), .d (.i .i64 z), .ifc 110 (.d (.i .i64 e))] H = some ⟨false, true, .ifc 112 .undef, H, H.length⟩ := by
  rw [qfE]
  have h1 : Nat.ble t.length 1000000000000 = true := by simpa using ht
  unfold jD
  rw [show pg.fn 76 = none from rfl]
  show teX [.d (.s f), .d (.s t), .d (.i .i64 b), .d (.i .i64 z), .ifc 110 (.d (.i .i64 e))] H = _
  rcases he with rfl | rfl <;> simp only [teX, h1] <;> rfl
def pre (t l : List Nat) : Bool := decide (l.take t.length = t)
theorem qsG {l : List Nat} {n : Nat} (h : n ≤ l.length) : qdO (.d (.s l)) none (some (n : Int)) = some (.d (.s (l.take n))) := by
  rw [qfS (by simp) (by simp) (by simp; omega)]
  simp
theorem qtx {l : List Nat} {n : Nat} (h : n ≤ l.length) : qdO (.d (.s l)) (some (n : Int)) none = some (.d (.s (l.drop n))) := by
  rw [qfS (by simp) (by simp; omega) (by simp)]
  simp
theorem qiG {l : List Nat} {a b : Nat} (h : a ≤ b) (h2 : b ≤ l.length) : qdO (.d (.s l)) (some (a : Int)) (some (b : Int)) = some (.d (.s ((l.take b).drop a))) := by
  rw [qfS (by simp) (by simp; omega) (by simp; omega)]
  simp
theorem qrH {l t : List Nat} {H : List Obj} : zF pg 77 [.d (.s l), .d (.s t)] H = some ⟨false, true, .d (.b (pre t l)), H, H.length⟩ := by
  rw [kf (fn := jW) rfl rfl]
  by_cases h : t.length ≤ l.length
  · have h1 : ((t.length : Int) ≤ (l.length : Int)) = True := by rw [eq_iff_iff]; simp; omega
    have h2 := qsG h
    simp only [jW, qm, qzP, Nat.reduceAdd, qp, qC, qD, qq, qh, kQ, qP, qQ, ke, qd, qi, kO, reduceCtorEq, qK, qJ, qF, qE, kc, zf, qr, Nat.reduceEqDiff, qn, ki, qzY, jd, h1, decide_true, kW, zm, zi, ↓reduceIte, jA, qcP, jP, qcc, yx, h2, yM, kB, zB, qT, qO, qe, qI, kv, qj, qt, qZ, qN, js, jr, kG, pre]
    all_goals rfl
  · have h1 : ((t.length : Int) ≤ (l.length : Int)) = False := by rw [eq_iff_iff]; simp; omega
    have h2 : pre t l = false := by
      simp only [pre, decide_eq_false_iff_not]
      intro e
      have := congrArg List.length e
      simp at this
      omega
    simp only [jW, qm, qzP, Nat.reduceAdd, qp, qC, qD, qq, qh, kQ, qP, qQ, ke, qd, qi, kO, reduceCtorEq, qK, qJ, qF, qE, kc, zf, qr, Nat.reduceEqDiff, qn, ki, qzY, jd, h1, decide_false, kW, zm, zi, qzL, ↓reduceIte, zl, kB, k9, yc, qT, qO, qe, qI, kv, qj, qt, qZ, qN, js, jr, kG, h2]
    all_goals rfl
theorem qsI {l t : List Nat} {H : List Obj} : zF pg 65 [.d (.s l), .d (.s t)] H = some ⟨false, true, .d (.b (pre t l)), H, H.length⟩ := by
  rw [kf (fn := qb4) rfl rfl]
  simp only [qb4, qm, qzP, Nat.reduceAdd, qp, qC, qD, qq, qh, kQ, qP, qQ, ke, qd, qi, zk, reduceCtorEq, qK, qJ, za, kh, Nat.reduceEqDiff, qy, qzN, qzT, qf, qN, ql, qzM, qY, qrH, qz, qg, qk, qAb, qT, qO, qe, qI, kv, qj, qt, qZ, js, jr, kG]
  all_goals rfl
abbrev sc (s : List Nat) (a : Nat) : Obj := .cells [.d (.s s), .d (.i .i64 (a : Int))]
theorem qeX {s t : List Nat} {a id : Nat} {H : List Obj} (hH : H[id]? = some (sc s a)) (ha : a ≤ s.length) : zF pg 45 [.ptr id 0, .d (.s t)] H = some ⟨false, true, .d (.b (pre t (s.drop a))), H, H.length⟩ := by
  rw [kf (fn := qcm) rfl rfl]
  have h2 := qtx ha
  simp only [qcm, qm, qzP, Nat.reduceAdd, qp, qC, qD, qq, qh, kQ, qP, qQ, ke, qd, qi, jg, zS, kO, reduceCtorEq, qK, qJ, qW, qE, zQ, jE, zR, qL, qr, qB, kU, qAg, qV, kp, hH, kR, qzO, qzW, ky, yp, qzQ, jA, Nat.reduceEqDiff, qF, jP, qcc, qcP, yx, h2, zk, za, kh, qy, qzN, qzT, qf, qN, ql, qzM, qY, qsI, qz, qg, qk, qAb, zx, zy, qT, qO, qe, qI, kv, qj, qt, qZ, js, jr, kG]
  all_goals rfl
def cLt (c : Nat) : Bool := (decide (97 ≤ c) && decide (c ≤ 122)) || (decide (65 ≤ c) && decide (c ≤ 90))
def cDg (c : Nat) : Bool := decide (48 ≤ c) && decide (c ≤ 57)
def cHx (c : Nat) : Bool := cDg c || (decide (65 ≤ c) && decide (c ≤ 70))
def cNm (c : Nat) : Bool := cLt c || cDg c
def cTx (c : Nat) : Bool := decide (32 ≤ c) && !decide (c = 34)
theorem qzH {a c : Nat} : ((a : Int) ≤ (c : Int)) = (a ≤ c) := by simp
theorem qiZ {c : Nat} {H : List Obj} : zF pg 41 [.d (.i .u8 c)] H = some ⟨false, true, .d (.b (cLt c)), H, H.length⟩ := by
  rw [kf (fn := qeg) rfl rfl]
  have e1 : ((97 : Int) ≤ (c : Int)) = (97 ≤ c) := by rw [eq_iff_iff]; omega
  have e2 : ((c : Int) ≤ 122) = (c ≤ 122) := by rw [eq_iff_iff]; omega
  have e3 : ((65 : Int) ≤ (c : Int)) = (65 ≤ c) := by rw [eq_iff_iff]; omega
  have e4 : ((c : Int) ≤ 90) = (c ≤ 90) := by rw [eq_iff_iff]; omega
  by_cases h1 : 97 ≤ c <;> by_cases h2 : c ≤ 122 <;> by_cases h3 : 65 ≤ c <;> by_cases h4 : c ≤ 90
  all_goals simp only [qeg, qm, qzP, qp, qC, qD, qq, qh, kQ, qP, qQ, ke, qd, qi, kO, reduceCtorEq, qK, qJ, qF, qE, qn, ki, kx, qzR, jd, e1, h1, decide_true, qr, kW, zm, zi, ↓reduceIte, Nat.reduceEqDiff, zA, e2, h2, kB, zB, zT, qz6, qzL, zl, qgd, k9, qbD, qT, qO, qe, qI, kv, qj, qt, qZ, qN, js, jr, kG, cLt, qzM, h3, h4, qzY, decide_false, Bool.and_false, qz7, Bool.and_true, qAc, e3, e4, yc]
  all_goals rfl
theorem qhr {c : Nat} {H : List Obj} : zF pg 43 [.d (.i .u8 c)] H = some ⟨false, true, .d (.b (cDg c)), H, H.length⟩ := by
  rw [kf (fn := qeJ) rfl rfl]
  have e1 : ((48 : Int) ≤ (c : Int)) = (48 ≤ c) := by rw [eq_iff_iff]; omega
  have e2 : ((c : Int) ≤ 57) = (c ≤ 57) := by rw [eq_iff_iff]; omega
  by_cases h1 : 48 ≤ c <;> by_cases h2 : c ≤ 57
  all_goals simp only [qeJ, qm, qzP, qp, qC, qD, qq, qh, kQ, qP, qQ, ke, qd, qi, kO, reduceCtorEq, qK, qJ, qF, qE, qn, ki, kx, qzR, jd, e1, h1, decide_true, qr, kW, zm, zi, ↓reduceIte, Nat.reduceEqDiff, zA, e2, h2, kB, zB, qT, qO, qe, qI, kv, qj, qt, qZ, qN, js, jr, kG, cDg, qzM, decide_false, Bool.and_false, qzL, zl, k9, yc, Bool.and_true]
  all_goals rfl
theorem qsc {c : Nat} {H : List Obj} : zF pg 63 [.d (.i .u8 c)] H = some ⟨false, true, .d (.b (cHx c)), H, H.length⟩ := by
  rw [kf (fn := qf9) rfl rfl]
  have e1 : ((65 : Int) ≤ (c : Int)) = (65 ≤ c) := by rw [eq_iff_iff]; omega
  have e2 : ((c : Int) ≤ 70) = (c ≤ 70) := by rw [eq_iff_iff]; omega
  have hd := qhr (c := c) (H := H)
  cases hq : cDg c <;> rw [hq] at hd <;> by_cases h1 : 65 ≤ c <;> by_cases h2 : c ≤ 70
  all_goals simp only [qf9, qm, qzP, qp, qC, qD, qq, qh, kQ, qP, qQ, ke, qd, qi, kO, reduceCtorEq, qK, qJ, qF, qE, qy, qzN, qzT, qf, qN, ql, qzM, qY, hd, qz, qg, qk, qAb, zk, za, kh, kW, zT, qAc, zi, ↓reduceIte, Nat.reduceEqDiff, qn, ki, kx, qzR, jd, e1, h1, decide_true, qr, zm, zA, e2, h2, kB, zB, qzL, qT, qO, qe, qI, kv, qj, qt, qZ, js, jr, kG, cHx, hq, decide_false, Bool.and_false, qzY, zl, k9, yc, Bool.and_true, qz6, qgd, qbD, qz7]
  all_goals rfl
theorem qoe {c : Nat} {H : List Obj} : zF pg 61 [.d (.i .u8 c)] H = some ⟨false, true, .d (.b (cNm c)), H, H.length⟩ := by
  rw [kf (fn := qeD) rfl rfl]
  have hl := qiZ (c := c) (H := H)
  have hd := qhr (c := c) (H := H)
  cases hq : cDg c <;> rw [hq] at hd <;> cases hr : cLt c <;> rw [hr] at hl
  all_goals simp only [qeD, qm, qzP, qp, qC, qD, qq, qh, kQ, qP, qQ, ke, qd, qi, kO, reduceCtorEq, qK, qJ, qF, qE, qy, qzN, qzT, qf, qN, ql, qzM, qY, hl, qz, qg, qk, qAb, zk, za, kh, kW, zT, qAc, zi, ↓reduceIte, Nat.reduceEqDiff, hd, kB, zB, qzL, qr, qT, qO, qe, qI, kv, qj, qt, qZ, js, jr, kG, cNm, hr, hq, qzY, qz6, zl, k9, qbD, qz7, qzR]
  all_goals rfl
theorem qn9 {c : Nat} {H : List Obj} : zF pg 66 [.d (.i .u8 c)] H = some ⟨false, true, .d (.b (cTx c)), H, H.length⟩ := by
  rw [kf (fn := qbE) rfl rfl]
  have e1 : ((32 : Int) ≤ (c : Int)) = (32 ≤ c) := by rw [eq_iff_iff]; omega
  have e2 : ((c : Int) = 34) = (c = 34) := by rw [eq_iff_iff]; omega
  by_cases h1 : 32 ≤ c <;> by_cases h2 : c = 34
  all_goals simp only [qbE, h2, qAe, qm, qzP, qp, qC, qD, qq, qh, kQ, qP, qQ, ke, qd, qi, kO, reduceCtorEq, qK, qJ, qF, qE, qn, ki, kx, qzR, jd, Int.reduceLE, decide_true, qr, kW, zm, zi, ↓reduceIte, Nat.reduceEqDiff, qaJ, qz6, kB, zB, qT, qO, qe, qI, kv, qj, qt, qZ, qN, js, jr, kG, cTx, Nat.reduceLeDiff, Bool.and_false, e1, h1, e2, decide_false, qAc, qzM, qzL, zl, k9, yc, Bool.and_true]
  all_goals rfl
def run (P : Nat → Bool) : List Nat → Nat
  | [] => 0
  | c :: l => bif P c then run P l + 1 else 0
theorem qe7 (P : Nat → Bool) : ∀ l, run P l ≤ l.length
  | [] => qzZ _
  | c :: l => by simp only [run]; cases P c <;> simp [qe7 P l]
theorem qdv {a e : Int} {H : List Obj} : zF pg 59 [.d (.i .i64 a), .d (.i .i64 e)] H = some ⟨true, true, .ifc 66 (.d (.agg [.i .i64 a, .i .i64 e])), H, H.length⟩ := by
  rw [kf (fn := qfs) rfl rfl]
  simp only [qfs, qm, qzP, Nat.reduceAdd, qp, qD, qq, qh, kO, qJ, qF, qE, qQ, ke, Nat.reduceEqDiff, qK, reduceCtorEq, zn, qzN, qzT, zz, kD, kY, qzS, qzV, Nat.reduceLT, jS, qzU, qzX, zK, zL, zE, jp, zD, ze, zo, qr, qdo, qd1, qzM, Nat.reduceLeDiff, qsO, qAa, List.nil_append, List.drop_succ_cons, qz9, List.append_nil, qep, qgo, qem, qmZ, qcy, qrn, qcq, qbR, qkc, qct, qpp, js, qoi, kG]
  all_goals rfl
theorem yR {s : List Nat} {a : Nat} (h : a < s.length) : s.drop a = s[a] :: s.drop (a + 1) := by simp
theorem qok {F : Nat} {P : Nat → Bool} (hF : ∀ c H, zF pg F [.d (.i .u8 ((c : Nat) : Int))] H = some ⟨false, true, .d (.b (P c)), H, H.length⟩) {s : List Nat} (hz : s.length ≤ 1000000000000) {id : Nat} {z : Int} :
    ∀ (k a : Nat) (H : List Obj), s.length - a = k → a ≤ s.length → H[id]? = some (sc s a) → ∀ lo, lo ≤ H.length → ∃ lo', min lo id ≤ lo' ∧ (run P (s.drop a) = 0 ∨ lo' ≤ id) ∧ lo' ≤ lo ∧ yd 0 [0, 5] (qa0 pg (.ptr id 0) (.fn F [] []) (.d (.i .i64 z)) H lo) = some (.nrm, ⟨[(0, .ptr id 0), (5, .d (.i .i64 z))], zp H id (sc s (a + run P (s.drop a))), lo'⟩) := by
  intro k
  induction k with
  | zero =>
    intro a H hk ha hH lo hlo
    obtain rfl : a = s.length := by omega
    have h1 : ((s.length : Int) < (s.length : Int)) = False := by simp
    have hr : run P (s.drop s.length) = 0 := by simp [run]
    refine ⟨lo, Nat.min_le_left _ _, .inl hr, qzZ _, ?_⟩
    rw [qcO]
    simp only [yU, kE, qh1, q9, qC, jg, zS, qh, kO, qJ, qW, qE, zQ, jE, zR, qL, qr, qB, kU, qzP, qV, kp, hH, kR, qzQ, qzO, qzW, ky, yp, reduceCtorEq, qK, qAg, kc, qF, zf, qn, ki, qzY, Nat.reduceEqDiff, zq, h1, decide_false, zx, qeV, zm, qfI, qzL, ↓reduceIte, zl, kB, k9, kQ, yc, zy, qi, qA, qG, yO, jT, jC, qo, qs]
    rw [hr, qAg, qaj hH]
    all_goals rfl
  | succ k ih =>
    intro a H hk ha hH lo hlo
    have h1 : ((a : Int) < (s.length : Int)) = True := by rw [eq_iff_iff]; simp; omega
    have hlt : a < s.length := by omega
    have hix : ixV (.d (.s s)) (.d (.i .i64 (a : Int))) = some (.d (.i .u8 ((s[a] : Nat) : Int))) := qjP (by omega) (by simp)
    have hw : wr .i64 ((a : Int) + 1) = ((a + 1 : Nat) : Int) := by rw [jn (by omega) (by omega)]; omega
    have hf := hF s[a] H
    have hdr := yR hlt
    rw [qcO]
    have hm : min lo H.length = lo := by omega
    cases hp : P s[a] with
    | false =>
      rw [hp] at hf
      have hr : run P (s.drop a) = 0 := by rw [hdr]; simp [run, hp]
      refine ⟨lo, Nat.min_le_left _ _, .inl hr, qzZ _, ?_⟩
      simp only [yU, kE, qh1, q9, qC, jg, zS, qh, kO, qJ, qW, qE, zQ, jE, zR, qL, qr, qB, kU, qzP, qV, kp, hH, kR, qzQ, qzO, qzW, ky, yp, reduceCtorEq, qK, qAg, kc, qF, zf, qn, ki, qzY, Nat.reduceEqDiff, zq, h1, decide_true, zx, qeV, zm, qfI, ↓reduceIte, qmT, qo7, kM, hix, qy, qpg, qzN, qzT, qf, qN, ql, qzM, qnO, hf, qz, qg, qk, hm, kB, kQ, zB, zy, qi, qA, qG, qzL, yO, jT, jC, qo, qs]
      rw [hr, qAg, qaj hH]
      all_goals rfl
    | true =>
      rw [hp] at hf
      have hr : a + run P (s.drop a) = (a + 1) + run P (s.drop (a + 1)) := by rw [hdr]; simp only [run, hp, cond_true]; omega
      have hid : id < H.length := (List.getElem?_eq_some_iff.1 hH).1
      have hH2 : (zp H id (sc s (a + 1)))[id]? = some (sc s (a + 1)) := yi hH
      obtain ⟨lo', g1, g2, g3, ih'⟩ := ih (a + 1) (zp H id (sc s (a + 1))) (by omega) (by omega) hH2 (min lo id) (by simp only [qH]; omega)
      rw [hr]
      rw [kJ] at ih'
      refine ⟨lo', by omega, .inr (by omega), by omega, ?_⟩
      simp only [yU, kE, qh1, q9, qC, jg, zS, qh, kO, qJ, qW, qE, zQ, jE, zR, qL, qr, qB, kU, qzP, qV, kp, hH, kR, qzQ, qzO, qzW, ky, yp, reduceCtorEq, qK, qAg, kc, qF, zf, qn, ki, qzY, Nat.reduceEqDiff, zq, h1, decide_true, zx, qeV, zm, qfI, ↓reduceIte, qmT, qo7, kM, hix, qy, qpg, qzN, qzT, qf, qN, ql, qzM, qnO, hf, qz, qg, qk, hm, kB, kQ, zB, zy, qi, qA, qG, qX, qw, qD, qq, qQ, kr, ke, kx, qzR, kF, hw, qS, zc, zz, kD, qzS, qzV, kg, kY, ku, kl, Nat.reduceAdd, Nat.reduceLT, kw, qzX, qzU, kn, kz, qd, qU, qo, qs, qcK]
      exact ih'
theorem qhy {F : Nat} {P : Nat → Bool} (hF : ∀ c H, zF pg F [.d (.i .u8 ((c : Nat) : Int))] H = some ⟨false, true, .d (.b (P c)), H, H.length⟩) {s : List Nat} (hz : s.length ≤ 1000000000000) {id a : Nat} {H : List Obj} (ha : a ≤ s.length) (hH : H[id]? = some (sc s a)) :
    ∃ sm lo, id ≤ lo ∧ lo ≤ H.length ∧ (run P (s.drop a) = 0 ∨ lo ≤ id) ∧ zF pg 60 [.ptr id 0, .fn F [] []] H = some ⟨false, sm, .d (.s ((s.drop a).take (run P (s.drop a)))), zp H id (sc s (a + run P (s.drop a))), lo⟩ := by
  have hid : id < H.length := (List.getElem?_eq_some_iff.1 hH).1
  obtain ⟨lo, g1, g2, g3, hl⟩ := qok hF hz (z := (a : Int)) (s.length - a) a H rfl ha hH H.length (qzZ _)
  have hle := qe7 P (s.drop a)
  simp only [List.length_drop] at hle
  have hH2 : (zp H id (sc s (a + run P (s.drop a))))[id]? = some (sc s (a + run P (s.drop a))) := yi hH
  have hm := qiG (l := s) (a := a) (b := a + run P (s.drop a)) (by omega) (by omega)
  have hmm : (s.take (a + run P (s.drop a))).drop a = (s.drop a).take (run P (s.drop a)) := by
    rw [List.drop_take]; congr 1; omega
  rw [hmm] at hm
  rw [kf (fn := qbZ) rfl rfl]
  have hlv := fun (e : Env) => qe0 (pan := false) (v := .d (.s ((s.drop a).take (run P (s.drop a))))) (e := e) (lo := lo) (o := sc s (a + run P (s.drop a))) rfl rfl (fun _ => rfl) (by
    rcases g2 with h | h
    · left; rw [h, qAg]; exact qaj hH
    · right; exact h) hid
  simp only [qbZ, qm, qzP, Nat.reduceAdd, qp, qC, qD, qq, qh, kQ, qP, qQ, ke, qd, qi, kO, reduceCtorEq, qK, qJ, qW, qE, kr, qL, qr, qB, kU, qV, kp, hH, kR, qzQ, qzO, qzW, ky, qF, qw, qcK, kE, Nat.reduceEqDiff, qh1, q9]
  rw [hl]
  simp only [qdp, qi, qC, jg, zS, qh, kO, qJ, qW, qE, zQ, jE, zR, qL, qr, qB, kU, qAg, qV, kp, hH2, kR, qzO, qzW, ky, yp, Nat.reduceEqDiff, qK, reduceCtorEq, qF, qzP, qzQ, jA, jP, qcc, yx, hm, zx, zy, qT, qO, qe, qI, kv, qj, qt, qZ]
  obtain ⟨sm, h⟩ := hlv _
  exact ⟨sm, lo, by omega, by omega, g2, h⟩
end W

set_option linter.unusedSimpArgs false
set_option linter.unusedVariables false
namespace W
open Go (IntKind BinOp UnOp)
set_option maxRecDepth 20000
def blk (c : Nat) : Bool := decide (c = 9) || decide (c = 10) || decide (c = 13) || decide (c = 32)
theorem quD {c : Nat} (hc : c < 256) : ((0 : Int) ≤ ixN c [9, 10, 13, 32]) = (blk c = true) := by
  have h : ∀ c : Fin 256, decide ((0 : Int) ≤ ixN c [9, 10, 13, 32]) = blk c := by decide +kernel
  have := h ⟨c, hc⟩
  simp only at this
  rw [← this]; simp
def sk (deep frm a : Nat) : List Nat → Bool × Nat
  | [] => if deep = 0 then (true, a) else (false, frm)
  | [c] => if deep = 0 then (if blk c then (true, a + 1) else (true, a)) else (false, frm)
  | c :: d :: l =>
    if c = 40 ∧ d = 42 then sk (deep + 1) (if deep = 0 then a else frm) (a + 2) l
    else if 0 < deep ∧ c = 42 ∧ d = 41 then sk (deep - 1) frm (a + 2) l
    else if 0 < deep ∨ blk c = true then sk deep frm (a + 1) (d :: l)
    else (true, a)
theorem qkN {s : List Nat} {a c : Nat} {l : List Nat} (h : s.drop a = c :: l) : s[a]? = some c ∧ s.drop (a + 1) = l ∧ a < s.length := by
  have hl : a < s.length := by
    rcases Nat.lt_or_ge a s.length with h1 | h1
    · exact h1
    · rw [List.drop_eq_nil_of_le h1] at h; cases h
  rw [yR hl] at h
  injection h with h1 h2
  exact ⟨by rw [← h1]; simp, h2, hl⟩
def SkRes (id : Nat) (s : List Nat) (a : Nat) (H : List Obj) (lo : Nat) (r : Bool × Nat) (X : Option (Ex × St)) : Prop :=
  match r with
  | (true, a') => ∃ x e lo', (x = .nrm ∨ x = .ret) ∧ min lo id ≤ lo' ∧ (a' = a ∨ lo' ≤ id) ∧ lo' ≤ lo ∧ X = some (x, ⟨e, zp H id (sc s a'), lo'⟩)
  | (false, p) => ∃ e lo' a', min lo id ≤ lo' ∧ lo' ≤ lo ∧ (a' = a ∨ lo' ≤ id) ∧ X = some (.pan (.ifc 66 (.d (.agg [.i .i64 (p : Nat), .i .i64 30]))), ⟨e, zp H id (sc s a'), lo'⟩)
theorem SkRes.step {id : Nat} {s : List Nat} {a a2 : Nat} {H : List Obj} {lo : Nat} {r : Bool × Nat} {X : Option (Ex × St)} (h : SkRes id s a2 (zp H id (sc s a2)) (min lo id) r X) : SkRes id s a H lo r X := by
  obtain ⟨b, p⟩ := r
  cases b with
  | true =>
    obtain ⟨x, e, lo', h1, h2, h3, h4, h5⟩ := h
    rw [kJ] at h5
    exact ⟨x, e, lo', h1, by omega, .inr (by omega), by omega, h5⟩
  | false =>
    obtain ⟨e, lo', a', h1, h2, h3, h5⟩ := h
    rw [kJ] at h5
    exact ⟨e, lo', a', by omega, by omega, .inr (by omega), h5⟩
theorem SkRes.stay {id : Nat} {s : List Nat} {a : Nat} {H : List Obj} {lo : Nat} {X : Option (Ex × St)} (hH : H[id]? = some (sc s a)) (h : ∃ x e, (x = .nrm ∨ x = .ret) ∧ X = some (x, ⟨e, H, lo⟩)) : SkRes id s a H lo (true, a) X := by
  obtain ⟨x, e, hx, h⟩ := h
  exact ⟨x, e, lo, hx, Nat.min_le_left _ _, .inl rfl, qzZ _, by rw [qaj hH]; exact h⟩
theorem SkRes.bad {id p : Nat} {s : List Nat} {a : Nat} {H : List Obj} {lo : Nat} {X : Option (Ex × St)} (hH : H[id]? = some (sc s a)) (h : ∃ e, X = some (.pan (.ifc 66 (.d (.agg [.i .i64 (p : Nat), .i .i64 30]))), ⟨e, H, lo⟩)) : SkRes id s a H lo (false, p) X := by
  obtain ⟨e, h⟩ := h
  exact ⟨e, lo, a, Nat.min_le_left _ _, qzZ _, .inl rfl, by rw [qaj hH]; exact h⟩
theorem qth {x y c d : Nat} {l : List Nat} : pre [x, y] (c :: d :: l) = (decide (c = x ∧ d = y)) := by simp [pre]
theorem qqY {x y c : Nat} : pre [x, y] [c] = false := by simp [pre]
theorem qqG {s : List Nat} (hs : ∀ c ∈ s, c < 256) (hz : s.length ≤ 1000000000000) {id : Nat} :
    ∀ (k a deep frm : Nat) (H : List Obj) (lo : Nat), s.length - a ≤ k → a ≤ s.length → deep ≤ a → H[id]? = some (sc s a) → lo ≤ H.length →
      SkRes id s a H lo (sk deep frm a (s.drop a)) (yT pg (yd 0 [2, 3] (ym pg (.ptr id 0) (.d (.i .i64 (frm : Nat))) (.d (.i .i64 (deep : Nat))) H lo)) yq) := by
  have endc : ∀ (deep frm : Nat) (H : List Obj) (lo : Nat), H[id]? = some (sc s s.length) → lo ≤ H.length →
      SkRes id s s.length H lo (if deep = 0 then (true, s.length) else (false, frm)) (yT pg (yd 0 [2, 3] (ym pg (.ptr id 0) (.d (.i .i64 (frm : Nat))) (.d (.i .i64 (deep : Nat))) H lo)) yq) := by
    intro deep frm H lo hH hlo
    have h1 : ((s.length : Int) < (s.length : Int)) = False := by simp
    have hm : min lo H.length = lo := by omega
    have hsf := qaj hH
    rw [yL]
    by_cases hd : deep = 0
    · subst hd
      have h2 : ((0 : Int) < ((0 : Nat) : Int)) = False := by simp
      rw [if_pos rfl]
      refine .stay hH ⟨.nrm, ?_⟩
      simp only [reduceCtorEq, jt, kE, q9, qAe, qC, jg, zS, qh, kO, qJ, qW, qE, zQ, jE, zR, qL, qr, qB, kU, qzP, qV, kp, hH, kR, qzQ, qzO, qzW, ky, yp, qK, qAg, kc, qF, zf, qn, ki, qzY, Nat.reduceEqDiff, zq, h1, decide_false, zx, zy, qi, qA, qG, qzL, ↓reduceIte, yO, jT, jC, qo, qs, yq, qD, qq, qQ, ke, kx, qzR, kQ, jz, Int.reduceLT, qd, qX]
      exact ⟨_, by simp, rfl⟩
    · have h2 : ((0 : Int) < ((deep : Nat) : Int)) = True := by rw [eq_iff_iff]; simp; omega
      rw [if_neg hd]
      refine .bad hH ?_
      simp only [jt, kE, q9, qC, jg, zS, qh, kO, qJ, qW, qE, zQ, jE, zR, qL, qr, qB, kU, qzP, qV, kp, hH, kR, qzQ, qzO, qzW, ky, yp, reduceCtorEq, qK, qAg, kc, qF, zf, qn, ki, qzY, Nat.reduceEqDiff, zq, h1, decide_false, zx, zy, qi, qA, qG, qzL, ↓reduceIte, yO, jT, jC, qo, qs, yq, qD, qq, qQ, ke, kx, qzR, kQ, jz, h2, decide_true, qd, zk, za, kh, qy, qzN, qzT, qf, qN, ql, qzM, qY, qdv, qz, qg, qP, qk, hm, qcq]
      exact ⟨_, rfl⟩
  intro k
  induction k with
  | zero =>
    intro a deep frm H lo hk ha hda hH hlo
    obtain rfl : a = s.length := by omega
    rw [List.drop_length]
    exact endc deep frm H lo hH hlo
  | succ k ih =>
    intro a deep frm H lo hk ha hda hH hlo
    have hm : min lo H.length = lo := by omega
    have hid : id < H.length := (List.getElem?_eq_some_iff.1 hH).1
    match hL : s.drop a with
    | [] =>
      have : s.length ≤ a := by simpa using hL
      obtain rfl : a = s.length := by omega
      exact endc deep frm H lo hH hlo
    | c :: L =>
      obtain ⟨hget, hdr, hlt⟩ := qkN hL
      have h1 : ((a : Int) < (s.length : Int)) = True := by rw [eq_iff_iff]; simp; omega
      have hix : ixV (.d (.s s)) (.d (.i .i64 (a : Int))) = some (.d (.i .u8 ((c : Nat) : Int))) := qjP (by omega) (by simpa using hget)
      have hw1 : wr .i64 ((a : Int) + 1) = ((a + 1 : Nat) : Int) := by rw [jn (by omega) (by omega)]; omega
      have hw2 : wr .i64 ((a : Int) + 2) = ((a + 2 : Nat) : Int) := by rw [jn (by omega) (by omega)]; omega
      have hd1 : wr .i64 ((deep : Int) + 1) = ((deep + 1 : Nat) : Int) := by rw [jn (by omega) (by omega)]; omega
      have hc : c < 256 := hs c (List.mem_of_getElem? hget)
      have hh1 := qeX (t := [40, 42]) hH (by omega)
      have hh2 := qeX (t := [42, 41]) hH (by omega)
      have hi := fun (t : List Nat) => qpn (t := t) hc (H := H)
      have hb := quD hc
      rw [hL] at hh1 hh2
      -- one byte further
      have go1 : ∀ (h0 : (0 < deep ∨ blk c = true)) (p1 : pre [40, 42] (c :: L) = false) (p2 : 0 < deep → pre [42, 41] (c :: L) = false),
          SkRes id s a H lo (sk deep frm (a + 1) L) (yT pg (yd 0 [2, 3] (ym pg (.ptr id 0) (.d (.i .i64 (frm : Nat))) (.d (.i .i64 (deep : Nat))) H lo)) yq) := by
        intro h0 p1 p2
        have hH2 : (zp H id (sc s (a + 1)))[id]? = some (sc s (a + 1)) := yi hH
        have ih' := ih (a + 1) deep frm (zp H id (sc s (a + 1))) (min lo id) (by omega) (by omega) (by omega) hH2 (by simp only [qH]; omega)
        rw [hdr] at ih'
        refine SkRes.step (a2 := a + 1) ?_
        rw [yL]
        rw [p1] at hh1
        by_cases hd : deep = 0
        · subst hd
          have h2 : ((0 : Int) < ((0 : Nat) : Int)) = False := by simp
          have hbk : ((0 : Int) ≤ ixN c [9, 10, 13, 32]) = True := by rw [hb]; exact eq_true (h0.resolve_left (by omega))
          simp only [jt, kE, q9, qAe, qC, jg, zS, qh, kO, qJ, qW, qE, zQ, jE, zR, qL, qr, qB, kU, qzP, qV, kp, hH, kR, qzQ, qzO, qzW, ky, yp, reduceCtorEq, qK, qAg, kc, qF, zf, qn, ki, qzY, Nat.reduceEqDiff, zq, h1, decide_true, zx, zy, qi, qA, qG, ↓reduceIte, qX, qw, qD, qq, qQ, kr, qy, qzN, kQ, qzT, qf, qR, qN, ql, qzM, qY, hh1, qz, qg, qP, qk, hm, ke, zk, za, kh, qd, qzL, kx, qzR, jz, Int.reduceLT, decide_false, kW, zm, zi, zl, kB, k9, yc, qeV, zT, qAc, qfI, kM, hix, hi, jd, hbk, zB, kF, hw1, qS, zc, zz, kD, qzS, qzV, kg, kY, ku, kl, Nat.reduceAdd, Nat.reduceLT, kw, qzX, qzU, kn, kz, qU, qo, qs, jU]
          exact ih'
        · have h2 : ((0 : Int) < ((deep : Nat) : Int)) = True := by rw [eq_iff_iff]; simp; omega
          rw [p2 (by omega)] at hh2
          simp only [jt, kE, q9, qC, jg, zS, qh, kO, qJ, qW, qE, zQ, jE, zR, qL, qr, qB, kU, qzP, qV, kp, hH, kR, qzQ, qzO, qzW, ky, yp, reduceCtorEq, qK, qAg, kc, qF, zf, qn, ki, qzY, Nat.reduceEqDiff, zq, h1, decide_true, zx, zy, qi, qA, qG, ↓reduceIte, qX, qw, qD, qq, qQ, kr, qy, qzN, kQ, qzT, qf, qR, qN, ql, qzM, qY, hh1, qz, qg, qP, qk, hm, ke, zk, za, kh, qd, qzL, kx, qzR, jz, h2, kW, zm, zi, hh2, kB, zB, qeV, zT, qz6, qfI, zl, k9, qbD, kF, hw1, qS, zc, zz, kD, qzS, qzV, kg, kY, ku, kl, Nat.reduceAdd, Nat.reduceLT, kw, qzX, qzU, kn, kz, qU, qo, qs, jU]
          exact ih'
      -- no further
      have stop : ∀ (h0 : deep = 0) (hbk : blk c = false) (p1 : pre [40, 42] (c :: L) = false),
          SkRes id s a H lo (true, a) (yT pg (yd 0 [2, 3] (ym pg (.ptr id 0) (.d (.i .i64 (frm : Nat))) (.d (.i .i64 (deep : Nat))) H lo)) yq) := by
        intro h0 hbk p1
        subst h0
        have h2 : ((0 : Int) < ((0 : Nat) : Int)) = False := by simp
        have hbk : ((0 : Int) ≤ ixN c [9, 10, 13, 32]) = False := by rw [hb, hbk]; simp
        rw [p1] at hh1
        rw [yL]
        refine .stay hH ⟨.ret, ?_⟩
        simp only [reduceCtorEq, jt, kE, q9, qAe, qC, jg, zS, qh, kO, qJ, qW, qE, zQ, jE, zR, qL, qr, qB, kU, qzP, qV, kp, hH, kR, qzQ, qzO, qzW, ky, yp, qK, qAg, kc, qF, zf, qn, ki, qzY, Nat.reduceEqDiff, zq, h1, decide_true, zx, zy, qi, qA, qG, ↓reduceIte, qX, qw, qD, qq, qQ, kr, qy, qzN, kQ, qzT, qf, qR, qN, ql, qzM, qY, hh1, qz, qg, qP, qk, hm, ke, zk, za, kh, qd, qzL, kx, qzR, jz, Int.reduceLT, decide_false, kW, zm, zi, zl, kB, k9, yc, qeV, zT, qAc, qfI, kM, hix, hi, jd, hbk, zB, qT, kK, kq]
        exact ⟨_, by simp, rfl⟩
      match L, hdr, hh1, hh2 with
      | [], hdr, hh1, hh2 =>
        have p1 : pre [40, 42] [c] = false := qqY
        have p2 : pre [42, 41] [c] = false := qqY
        by_cases hd : deep = 0
        · cases hbk : blk c with
          | true => 
            have := go1 (.inr hbk) p1 (fun _ => p2)
            simpa [sk, hd, hbk] using this
          | false =>
            have := stop hd hbk p1
            simpa [sk, hd, hbk] using this
        · have := go1 (.inl (by omega)) p1 (fun _ => p2)
          simpa [sk, hd] using this
      | d :: l, hdr, hh1, hh2 =>
        obtain ⟨_, hdr2, hlt2⟩ := qkN hdr
        have hH2 : (zp H id (sc s (a + 2)))[id]? = some (sc s (a + 2)) := yi hH
        by_cases c1 : c = 40 ∧ d = 42
        · have ih' := ih (a + 2) (deep + 1) (if deep = 0 then a else frm) (zp H id (sc s (a + 2))) (min lo id) (by omega) (by omega) (by omega) hH2 (by simp only [qH]; omega)
          rw [hdr2] at ih'
          have p1 : pre [40, 42] (c :: d :: l) = true := by rw [qth]; simpa using c1
          rw [p1] at hh1
          refine SkRes.step (a2 := a + 2) ?_
          rw [yL, sk, if_pos c1]
          by_cases hd : deep = 0
          · have h2 : (((deep : Nat) : Int) = 0) = True := by rw [eq_iff_iff]; simp; omega
            rw [if_pos hd] at ih' ⊢
            simp only [jt, kE, q9, qC, jg, zS, qh, kO, qJ, qW, qE, zQ, jE, zR, qL, qr, qB, kU, qzP, qV, kp, hH, kR, qzQ, qzO, qzW, ky, yp, reduceCtorEq, qK, qAg, kc, qF, zf, qn, ki, qzY, Nat.reduceEqDiff, zq, h1, decide_true, zx, zy, qi, qA, qG, ↓reduceIte, qX, qw, qD, qq, qQ, kr, qy, qzN, kQ, qzT, qf, qR, qN, ql, qzM, qY, hh1, qz, qg, qP, qk, hm, ke, zk, za, kh, qd, kx, qzR, ko, h2, kF, hd1, hw2, qS, zc, zz, kD, qzS, qzV, kg, kY, ku, kl, Nat.reduceAdd, Nat.reduceLT, kw, qzX, qzU, kn, kz, qU, qo, qs, jU]
            exact ih'
          · have h2 : (((deep : Nat) : Int) = 0) = False := by rw [eq_iff_iff]; simp; omega
            rw [if_neg hd] at ih' ⊢
            simp only [jt, kE, q9, qC, jg, zS, qh, kO, qJ, qW, qE, zQ, jE, zR, qL, qr, qB, kU, qzP, qV, kp, hH, kR, qzQ, qzO, qzW, ky, yp, reduceCtorEq, qK, qAg, kc, qF, zf, qn, ki, qzY, Nat.reduceEqDiff, zq, h1, decide_true, zx, zy, qi, qA, qG, ↓reduceIte, qX, qw, qD, qq, qQ, kr, qy, qzN, kQ, qzT, qf, qR, qN, ql, qzM, qY, hh1, qz, qg, qP, qk, hm, ke, zk, za, kh, qd, kx, qzR, ko, h2, decide_false, qzL, kF, hd1, hw2, qS, zc, zz, kD, qzS, qzV, kg, kY, ku, kl, Nat.reduceAdd, Nat.reduceLT, kw, qzX, qzU, kn, kz, qU, qo, qs, jU]
            exact ih'
        · have p1 : pre [40, 42] (c :: d :: l) = false := by rw [qth]; simpa using c1
          by_cases c2 : 0 < deep ∧ c = 42 ∧ d = 41
          · have ih' := ih (a + 2) (deep - 1) frm (zp H id (sc s (a + 2))) (min lo id) (by omega) (by omega) (by omega) hH2 (by simp only [qH]; omega)
            rw [hdr2] at ih'
            have hd2 : wr .i64 ((deep : Int) - 1) = ((deep - 1 : Nat) : Int) := by rw [jn (by omega) (by omega)]; omega
            have p2 : pre [42, 41] (c :: d :: l) = true := by rw [qth]; simpa using c2.2
            have h2 : ((0 : Int) < ((deep : Nat) : Int)) = True := by rw [eq_iff_iff]; simp; omega
            rw [p1] at hh1
            rw [p2] at hh2
            refine SkRes.step (a2 := a + 2) ?_
            rw [yL, sk, if_neg c1, if_pos c2]
            simp only [jt, kE, q9, qC, jg, zS, qh, kO, qJ, qW, qE, zQ, jE, zR, qL, qr, qB, kU, qzP, qV, kp, hH, kR, qzQ, qzO, qzW, ky, yp, reduceCtorEq, qK, qAg, kc, qF, zf, qn, ki, qzY, Nat.reduceEqDiff, zq, h1, decide_true, zx, zy, qi, qA, qG, ↓reduceIte, qX, qw, qD, qq, qQ, kr, qy, qzN, kQ, qzT, qf, qR, qN, ql, qzM, qY, hh1, qz, qg, qP, qk, hm, ke, zk, za, kh, qd, qzL, kx, qzR, jz, h2, kW, zm, zi, hh2, kB, zB, zt, hd2, kF, hw2, qS, zc, zz, kD, qzS, qzV, kg, kY, ku, kl, Nat.reduceAdd, Nat.reduceLT, kw, qzX, qzU, kn, kz, qU, qo, qs, jU]
            exact ih'
          · have p2 : 0 < deep → pre [42, 41] (c :: d :: l) = false := fun h => by
              rw [qth]; simp only [decide_eq_false_iff_not]; exact fun h' => c2 ⟨h, h'⟩
            rw [sk, if_neg c1, if_neg c2]
            by_cases c3 : 0 < deep ∨ blk c = true
            · rw [if_pos c3]
              exact go1 c3 p1 p2
            · rw [if_neg c3]
              exact stop (by omega) (by simpa using fun h => c3 (.inr h)) p1
theorem qpy {s : List Nat} (hs : ∀ c ∈ s, c < 256) (hz : s.length ≤ 1000000000000) {id a : Nat} {H : List Obj} (ha : a ≤ s.length) (hH : H[id]? = some (sc s a)) :
    match sk 0 a a (s.drop a) with
    | (true, a') => ∃ sm lo, id ≤ lo ∧ lo ≤ H.length ∧ (a' = a ∨ lo ≤ id) ∧ zF pg 40 [.ptr id 0] H = some ⟨false, sm, .tup [], zp H id (sc s a'), lo⟩
    | (false, p) => ∃ sm lo a', id ≤ lo ∧ lo ≤ H.length ∧ (a' = a ∨ lo ≤ id) ∧ zF pg 40 [.ptr id 0] H = some ⟨true, sm, .ifc 66 (.d (.agg [.i .i64 (p : Nat), .i .i64 30])), zp H id (sc s a'), lo⟩ := by
  have hid : id < H.length := (List.getElem?_eq_some_iff.1 hH).1
  have hl := qqG hs hz (s.length - a) a 0 a H H.length (qzZ _) ha (by omega) hH (qzZ _)
  rw [kf (fn := qa9) rfl rfl]
  generalize hr : sk 0 a a (s.drop a) = r at hl
  obtain ⟨b, p⟩ := r
  have hz0 : ((0 : Nat) : Int) = 0 := rfl
  rw [hz0] at hl
  cases b with
  | true =>
    obtain ⟨x, e, lo', h1, h2, h3, h4, h5⟩ := hl
    obtain ⟨sm, hlv⟩ := qe0 (pan := false) (v := .tup []) (e := e) (lo := lo') (o := sc s p) rfl rfl (fun _ => rfl) (by
      rcases h3 with h | h
      · left; rw [h]; exact qaj hH
      · right; exact h) hid
    refine ⟨sm, lo', by omega, by omega, h3, ?_⟩
    simp only [qa9, qm, qzP, qp, qC, qD, qq, qh, kO, qJ, qW, qE, qQ, kr, qL, qr, qB, kU, qV, kp, hH, kR, qzQ, qzO, qzW, ky, ke, qF, kQ, qP, qd, qi, qw, jU, reduceCtorEq, qK, kE, Nat.reduceEqDiff, q9]
    rw [h5]
    rcases h1 with rfl | rfl
    · simp only [qid, qj, qnJ]; exact hlv
    · simp only [qO, qj, qnJ]; exact hlv
  | false =>
    obtain ⟨e, lo', a', h1, h2, h3, h5⟩ := hl
    obtain ⟨sm, hlv⟩ := qe0 (pan := true) (v := .ifc 66 (.d (.agg [.i .i64 (p : Nat), .i .i64 30]))) (e := e) (lo := lo') (o := sc s a') rfl rfl (fun _ => rfl) (by
      rcases h3 with h | h
      · left; rw [h]; exact qaj hH
      · right; exact h) hid
    refine ⟨sm, lo', a', by omega, by omega, h3, ?_⟩
    simp only [qa9, qm, qzP, qp, qC, qD, qq, qh, kO, qJ, qW, qE, qQ, kr, qL, qr, qB, kU, qV, kp, hH, kR, qzQ, qzO, qzW, ky, ke, qF, kQ, qP, qd, qi, qw, jU, reduceCtorEq, qK, kE, Nat.reduceEqDiff, q9]
    rw [h5]
    simp only [qbR]; exact hlv
end W

set_option linter.unusedSimpArgs false
set_option linter.unusedVariables false
namespace W
open Go (IntKind BinOp UnOp)
set_option maxRecDepth 20000
theorem qn1 {L : List (List Nat)} {t : List Nat} (hz : L.length ≤ 1000000000000) {H : List Obj} :
    ∀ (k i : Nat), L.length - i = k → i ≤ L.length → (∀ j, j < i → L[j]? ≠ some t) →
      ∃ e x r, (x = .nrm ∨ x = .ret) ∧ (decide ((0 : Int) ≤ r) = decide (t ∈ L)) ∧ get 4 e = .d (.i .i64 r) ∧
        yT pg (yd 0 [] (yl pg (.d (slD D.s L)) (.d (.s t)) (.d (.i .i64 (L.length : Nat))) (.d (.i .i64 (i : Nat))) H H.length)) yk = some (x, ⟨e, H, H.length⟩) := by
  intro k
  induction k with
  | zero =>
    intro i hk hi hno
    obtain rfl : i = L.length := by omega
    have h1 : ((L.length : Int) < (L.length : Int)) = False := by simp
    have hnm : t ∉ L := by
      intro h
      obtain ⟨j, hj⟩ := List.getElem?_of_mem h
      have : j < L.length := (List.getElem?_eq_some_iff.1 hj).1
      exact hno j this hj
    rw [qaX]
    simp only [jL, q9, qC, qD, qq, qn, ki, qzY, kO, reduceCtorEq, qK, Nat.reduceEqDiff, qJ, qF, zq, h1, decide_false, qr, qQ, ke, qd, qi, qA, qG, qzL, ↓reduceIte, yO, jT, jC, qs, yk, Int.reduceNeg, qh, kQ, qP, qT]
    exact ⟨_, _, -1, .inr rfl, by simp [hnm], rfl, rfl⟩
  | succ k ih =>
    intro i hk hi hno
    have h1 : ((i : Int) < (L.length : Int)) = True := by rw [eq_iff_iff]; simp; omega
    have hlt : i < L.length := by omega
    have hia : iaV (.d (slD D.s L)) (.d (.i .i64 (i : Int))) 1 none = some (.cp (.s L[i])) := qg7 (fun _ => rfl) (by omega) (by simp)
    have hw : wr .i64 ((i : Int) + 1) = ((i + 1 : Nat) : Int) := by rw [jn (by omega) (by omega)]; omega
    rw [qaX]
    by_cases he : t = L[i]
    · have h2 : (t = L[i]) = True := by simp [he]
      simp only [jL, q9, qC, qD, qq, qn, ki, qzY, kO, reduceCtorEq, qK, Nat.reduceEqDiff, qJ, qF, zq, h1, decide_true, qr, qQ, ke, qd, qi, qA, qG, ↓reduceIte, qX, qw, qh, qE, kI, hia, yJ, qV, zY, zX, yM, h2, qT, kK, kq, yk, Int.reduceNeg]
      exact ⟨_, _, (i : Int), .inr rfl, by rw [he]; simp, rfl, rfl⟩
    · have h2 : (t = L[i]) = False := by simp [he]
      have ih' := ih (i + 1) (by omega) (by omega) (fun j hj => by
        rcases Nat.lt_or_ge j i with h | h
        · exact hno j h
        · obtain rfl : j = i := by omega
          rw [qAf hlt]
          intro h'; exact he (Option.some.inj h').symm)
      simp only [jL, q9, qC, qD, qq, qn, ki, qzY, kO, reduceCtorEq, qK, Nat.reduceEqDiff, qJ, qF, zq, h1, decide_true, qr, qQ, ke, qd, qi, qA, qG, ↓reduceIte, qX, qw, qh, qE, kI, hia, yJ, qV, zY, zX, yM, h2, decide_false, qzL, qU, qo, qs, kx, qzR, kQ, kF, hw, qaV]
      exact ih'
theorem qon {L : List (List Nat)} {t : List Nat} (hz : L.length ≤ 1000000000000) {H : List Obj} :
    ∃ r : Int, decide ((0 : Int) ≤ r) = decide (t ∈ L) ∧ zF pg 74 [.d (slD D.s L), .d (.s t)] H = some ⟨false, true, .d (.i .i64 r), H, H.length⟩ := by
  obtain ⟨e, x, r, hx, h1, h2, h3⟩ := qn1 (t := t) hz (H := H) L.length 0 rfl (by omega) (by simp)
  refine ⟨r, h1, ?_⟩
  rw [kf (fn := yy) rfl rfl]
  have hz0 : ((0 : Nat) : Int) = 0 := rfl
  rw [hz0] at h3
  simp only [yy, qm, qzP, Nat.reduceAdd, qp, qC, qD, qq, qh, kQ, qP, qQ, ke, qd, qi, kO, reduceCtorEq, qK, qJ, qF, qE, jB, qde, qr, qw, qaV, q9, Nat.reduceEqDiff]
  rw [h3]
  rcases hx with rfl | rfl
  all_goals simp only [qid, qe, qI, h2, kv, qj, qt, qZ, qN, js, jr, kG, qO]
  all_goals rfl
theorem qk3 {t : List Nat} {H : List Obj} : zF pg 62 [.d (.sl (KW.map D.s)), .d (.s t)] H = some ⟨false, true, .d (.b (decide (t ∈ KW))), H, H.length⟩ := by
  obtain ⟨r, h1, h2⟩ := qon (L := KW) (t := t) (by decide) (H := H)
  have hk : slD D.s KW = .sl (KW.map D.s) := rfl
  rw [hk] at h2
  rw [kf (fn := yn) rfl rfl]
  simp only [yn, qm, qzP, Nat.reduceAdd, qp, qC, qD, qq, qh, kQ, qP, qQ, ke, qd, qi, zk, reduceCtorEq, qK, qJ, za, kh, Nat.reduceEqDiff, qy, qzN, qzT, qf, qN, ql, qzM, qY, h2, qz, qg, qk, qAb, qn, ki, kx, qzR, kO, qF, jd, h1, qr, qE, qT, qO, qe, qI, kv, qj, qt, qZ, js, jr, kG]
  all_goals rfl
def tok (k p e : Int) (t : List Nat) (n : Int) : D := .agg [.i .i64 k, .i .i64 p, .i .i64 e, .s t, .i .i32 n]
inductive Sy where
  | ok (k : Int) (t : List Nat) (n : Int) (a : Nat)
  | bad (e : Int)
def MRes (id : Nat) (s : List Nat) (a : Nat) (H : List Obj) (r : Sy) (X : Option Cr) : Prop :=
  match r with
  | .ok k t n a' => ∃ sm lo, id ≤ lo ∧ lo ≤ H.length ∧ (a' = a ∨ lo ≤ id) ∧ X = some ⟨false, sm, .d (tok k 0 0 t n), zp H id (sc s a'), lo⟩
  | .bad e => ∃ sm lo a', id ≤ lo ∧ lo ≤ H.length ∧ (a' = a ∨ lo ≤ id) ∧ X = some ⟨true, sm, .ifc 66 (.d (.agg [.i .i64 (a : Nat), .i .i64 e])), zp H id (sc s a'), lo⟩
theorem MRes.good {id : Nat} {s : List Nat} {a a' : Nat} {H : List Obj} {k n : Int} {t : List Nat} {e : Env} {lo : Nat} {X : Option Cr} (hid : id < H.length) (hH : H[id]? = some (sc s a)) (h1 : id ≤ lo) (h2 : lo ≤ H.length) (h3 : a' = a ∨ lo ≤ id)
    (h : X = leave H false (.d (tok k 0 0 t n)) ⟨e, zp H id (sc s a'), lo⟩) : MRes id s a H (.ok k t n a') X := by
  obtain ⟨sm, hlv⟩ := qe0 (pan := false) (v := .d (tok k 0 0 t n)) (e := e) (lo := lo) (o := sc s a') rfl rfl (fun _ => rfl) (by
      rcases h3 with h | h
      · left; rw [h]; exact qaj hH
      · right; exact h) hid
  exact ⟨sm, lo, h1, h2, h3, h.trans hlv⟩
theorem MRes.worse {id : Nat} {s : List Nat} {a a' : Nat} {H : List Obj} {x : Int} {e : Env} {lo : Nat} {X : Option Cr} (hid : id < H.length) (hH : H[id]? = some (sc s a)) (h1 : id ≤ lo) (h2 : lo ≤ H.length) (h3 : a' = a ∨ lo ≤ id)
    (h : X = leave H true (.ifc 66 (.d (.agg [.i .i64 (a : Nat), .i .i64 x]))) ⟨e, zp H id (sc s a'), lo⟩) : MRes id s a H (.bad x) X := by
  obtain ⟨sm, hlv⟩ := qe0 (pan := true) (v := .ifc 66 (.d (.agg [.i .i64 (a : Nat), .i .i64 x]))) (e := e) (lo := lo) (o := sc s a') rfl rfl (fun _ => rfl) (by
      rcases h3 with h | h
      · left; rw [h]; exact qaj hH
      · right; exact h) hid
  exact ⟨sm, lo, a', h1, h2, h3, h.trans hlv⟩
def qi8 (s : List Nat) (a : Nat) : Sy :=
  if 32 < run cNm (s.drop a) then .bad 34
  else if (s.drop a).take (run cNm (s.drop a)) ∈ KW then .ok 6 ((s.drop a).take (run cNm (s.drop a))) 0 (a + run cNm (s.drop a))
  else .ok 1 ((s.drop a).take (run cNm (s.drop a))) 0 (a + run cNm (s.drop a))
theorem qpP {s : List Nat} (hz : s.length ≤ 1000000000000) {id a : Nat} {H : List Obj} (ha : a ≤ s.length) (hH : H[id]? = some (sc s a)) : MRes id s a H (qi8 s a) (zF pg 42 [.ptr id 0] H) := by
  have hid : id < H.length := (List.getElem?_eq_some_iff.1 hH).1
  obtain ⟨sm, lo, g1, g2, g3, hw⟩ := qhy (F := 61) (P := cNm) (fun c H => qoe) hz ha hH
  have hle := qe7 cNm (s.drop a)
  rw [kf (fn := qar) rfl rfl]
  have hm1 : min H.length lo = lo := by omega
  have hm2 : min lo H.length = lo := by omega
  have hlen : ((s.drop a).take (run cNm (s.drop a))).length = run cNm (s.drop a) := by simp only [List.length_take]; omega
  have hc := fun (H : List Obj) => qk3 (t := (s.drop a).take (run cNm (s.drop a))) (H := H)
  have g3' : a + run cNm (s.drop a) = a ∨ lo ≤ id := by omega
  unfold qi8
  by_cases h1 : 32 < run cNm (s.drop a)
  · have e1 : ((32 : Int) < ((run cNm (s.drop a) : Nat) : Int)) = True := by rw [eq_iff_iff]; simp; omega
    rw [if_pos h1]
    refine MRes.worse hid hH g1 g2 g3' ?_ (e := ?_)
    rotate_left
    · simp only [qar, qm, qzP, qp, qC, qD, qq, kC, qzN, qzT, qQ, zH, kN, jo, kT, qd, qi, qh, kO, reduceCtorEq, qK, qJ, qW, qE, kr, qL, qr, qB, kU, qV, kp, hH, kR, qzQ, qzO, qzW, ky, ke, qF, zk, zM, kh, qy, qjf, qf, qR, qbM, ja, qzM, ql, qY, hw, qz, qg, qdi, qk, hm1, za, qw, kc, zf, hlen, qn, ki, kx, qzR, kQ, jz, e1, decide_true, qA, qG, ↓reduceIte, Nat.reduceEqDiff, qN, qdv, qH, qP, hm2, qcq, qcJ, qbr, qbR]
      rfl
  · have e1 : ((32 : Int) < ((run cNm (s.drop a) : Nat) : Int)) = False := by rw [eq_iff_iff]; simp; omega
    rw [if_neg h1]
    by_cases h2 : (s.drop a).take (run cNm (s.drop a)) ∈ KW
    · rw [if_pos h2]
      refine MRes.good hid hH g1 g2 g3' ?_ (e := ?_)
      rotate_left
      · simp only [qar, qm, qzP, qp, qC, qD, qq, kC, qzN, qzT, qQ, zH, kN, jo, kT, qd, qi, qh, kO, reduceCtorEq, qK, qJ, qW, qE, kr, qL, qr, qB, kU, qV, kp, hH, kR, qzQ, qzO, qzW, ky, ke, qF, zk, zM, kh, qy, qjf, qf, qR, qbM, ja, qzM, ql, qY, hw, qz, qg, qdi, qk, hm1, za, qw, kc, zf, hlen, qn, ki, kx, qzR, kQ, jz, e1, decide_false, qA, qG, qzL, ↓reduceIte, qpm, qH, hm2, Nat.reduceEqDiff, qN, hc, h2, decide_true, zn, zz, kD, kY, qzS, qzV, Nat.reduceAdd, Nat.reduceLT, jS, qzU, ji, qzX, zK, zL, zE, jp, zD, ze, zo, qS, zw, zu, zr, kg, ku, zg, kS, kZ, kz, qT, kK, kq, qO, qe, kV, zU, Nat.reduceLeDiff, jF, qz9, qz3, qAa, qj, qt, qZ]
        rfl
    · rw [if_neg h2]
      refine MRes.good hid hH g1 g2 g3' ?_ (e := ?_)
      rotate_left
      · simp only [qar, qm, qzP, qp, qC, qD, qq, kC, qzN, qzT, qQ, zH, kN, jo, kT, qd, qi, qh, kO, reduceCtorEq, qK, qJ, qW, qE, kr, qL, qr, qB, kU, qV, kp, hH, kR, qzQ, qzO, qzW, ky, ke, qF, zk, zM, kh, qy, qjf, qf, qR, qbM, ja, qzM, ql, qY, hw, qz, qg, qdi, qk, hm1, za, qw, kc, zf, hlen, qn, ki, kx, qzR, kQ, jz, e1, decide_false, qA, qG, qzL, ↓reduceIte, qpm, qH, hm2, Nat.reduceEqDiff, qN, hc, h2, qX, qU, qo, zj, q9, qs, zn, zz, kD, kY, qzS, qzV, Nat.reduceAdd, Nat.reduceLT, jS, qzU, ji, qzX, zK, zL, zE, jp, zD, ze, zo, qS, zw, zu, zr, kg, ku, zg, kS, kZ, kz, qT, qO, qe, kV, zU, Nat.reduceLeDiff, jF, qz9, qz3, qAa, qj, qt, qZ]
        rfl
end W

set_option linter.unusedSimpArgs false
set_option linter.unusedVariables false
namespace W
open Go (IntKind BinOp UnOp)
set_option maxRecDepth 20000
def dg (c : Nat) : Nat := if c ≤ 57 then c - 48 else c - 55
def pu (b mx : Nat) : Nat → List Nat → Option Nat
  | n, [] => some n
  | n, c :: l => if b ≤ dg c then none else if mx < n * b + dg c then none else pu b mx (n * b + dg c) l
theorem qqg {c : Nat} (h1 : 65 ≤ c) (h2 : c ≤ 70) {H : List Obj} : zF pg 85 [.d (.i .u8 (c : Nat))] H = some ⟨false, true, .d (.i .u8 ((c + 32 : Nat) : Int)), H, H.length⟩ := by
  rw [kf (fn := qaH) rfl rfl]
  have : c = 65 ∨ c = 66 ∨ c = 67 ∨ c = 68 ∨ c = 69 ∨ c = 70 := by omega
  rcases this with rfl | rfl | rfl | rfl | rfl | rfl
  all_goals simp only [qaH, qAe, qm, qzP, qp, qC, qD, qq, qh, kQ, qP, qQ, ke, qd, qi, kO, reduceCtorEq, qK, qJ, qF, qE, qn, ki, kx, qzR, qu2, qr, qT, qO, qe, qI, kv, qj, qt, qZ, qN, js, jr, kG, Nat.reduceAdd]
  all_goals rfl
def qld (H : List Obj) (r : Option Nat) (X : Option (Ex × St)) : Prop :=
  match r with
  | some u => ∃ e, get 6 e = .d (.i .u64 (u : Nat)) ∧ get 7 e = .d .ni ∧ X = some (.ret, ⟨e, H, H.length⟩)
  | none => ∃ e z er, (er = 1 ∨ er = 2) ∧ get 6 e = .d (.i .u64 z) ∧ get 7 e = .ifc 110 (.d (.i .i64 er)) ∧ X = some (.ret, ⟨e, H, H.length⟩)
theorem qsL {s s0 : List Nat} (hs : ∀ c ∈ s, cHx c = true) (hz : s.length ≤ 1000000000000) {b mx ct : Nat} (hb : b = 10 ∨ b = 16) (hmx : mx ≤ 4294967295) (hct : mx < ct) {H : List Obj} :
    ∀ (k i n : Nat), s.length - i = k → i ≤ s.length → n ≤ mx →
      qld H (pu b mx n (s.drop i)) (yT pg (yd 3 [9, 12, 13] (j0 pg (.d (.i .i64 (b : Nat))) (.d (.b false)) (.d (.s s0)) (.d (.i .u64 (ct : Nat))) (.d (.i .u64 (mx : Nat))) (.d (.b false)) (.d (.i .u64 (n : Nat))) (slV e8 s) (.d (.i .i64 (s.length : Nat))) (.d (.i .i64 (i : Nat))) H H.length)) yA) := by
  intro k
  induction k with
  | zero =>
    intro i n hk hi hn
    obtain rfl : i = s.length := by omega
    have h1 : ((s.length : Int) < (s.length : Int)) = False := by simp
    rw [List.drop_length, qbx]
    simp only [qld, pu, zP, q9, yQ, qC, qD, qq, qn, ki, qzY, kO, Nat.reduceEqDiff, qK, qJ, qF, zq, h1, decide_false, qr, qQ, ke, qd, qi, qA, qG, qzL, ↓reduceIte, yO, jT, jC, qo, qs, yA, qh, qE, kW, zm, zi, zl, kB, k9, kQ, yc, qX, qP, qT]
    exact ⟨_, rfl, rfl, rfl⟩
  | succ k ih =>
    intro i n hk hi hn
    have h1 : ((i : Int) < (s.length : Int)) = True := by rw [eq_iff_iff]; simp; omega
    have hlt : i < s.length := by omega
    obtain ⟨c, hget⟩ : ∃ c, s[i]? = some c := ⟨s[i], by simp⟩
    have hdr : s.drop i = c :: s.drop (i + 1) := by
      rw [yR hlt]
      congr 1
      have := qAf hlt
      rw [this] at hget
      exact Option.some.inj hget
    have hcx := hs c (List.mem_of_getElem? hget)
    have hcr : (48 ≤ c ∧ c ≤ 57) ∨ (65 ≤ c ∧ c ≤ 70) := by
      simp only [cHx, cDg, Bool.or_eq_true, qz0, decide_eq_true_eq] at hcx
      exact hcx
    have hia : iaV (.d (slD e8 s)) (.d (.i .i64 (i : Int))) 1 none = some (.cp (e8 c)) := qg7 (fun _ => rfl) (by omega) (by simpa using hget)
    have hw : wr .i64 ((i : Int) + 1) = ((i + 1 : Nat) : Int) := by rw [jn (by omega) (by omega)]; omega
    have h95 : ((c : Int) = 95) = False := by rw [eq_iff_iff]; simp; omega
    have hd : dg c < 16 := by unfold dg; split <;> omega
    have hb8 : wr .u8 ((b : Nat) : Int) = (b : Int) := qkh (by omega) (by omega)
    have hb64 : wr .u64 ((b : Nat) : Int) = (b : Int) := qf1 (by omega) (by omega)
    have hd64 : wr .u64 ((dg c : Nat) : Int) = (dg c : Int) := qf1 (by omega) (by omega)
    have hnb : n * b ≤ 4294967295 * 16 := Nat.mul_le_mul (by omega) (by omega)
    have hm64 : wr .u64 ((n : Int) * (b : Int)) = ((n * b : Nat) : Int) := by
      have e : ((n : Int) * (b : Int)) = ((n * b : Nat) : Int) := by push_cast; rfl
      rw [e]
      exact qf1 (by omega) (by omega)
    have ha64 : wr .u64 (((n * b : Nat) : Int) + (dg c : Int)) = ((n * b + dg c : Nat) : Int) := by rw [qf1 (by omega) (by omega)]; push_cast; rfl
    have hcut : ((ct : Int) ≤ (n : Int)) = False := by rw [eq_iff_iff]; simp; omega
    have hnn : n ≤ n * b := Nat.le_mul_of_pos_right n (by omega)
    have hlt2 : (((n * b + dg c : Nat) : Int) < ((n * b : Nat) : Int)) = False := by rw [eq_iff_iff]; simp; omega
    rw [hdr, qbx, pu]
    rcases hcr with ⟨g1, g2⟩ | ⟨g1, g2⟩
    · have e1 : ((48 : Int) ≤ (c : Int)) = True := by rw [eq_iff_iff]; simp; omega
      have e2 : ((c : Int) ≤ 57) = True := by rw [eq_iff_iff]; simp; omega
      have e3 : wr .u8 ((c : Int) - 48) = (dg c : Int) := by rw [qkh (by omega) (by omega)]; simp only [dg, g2, if_true]; omega
      by_cases q1 : b ≤ dg c
      · have f1 : ((b : Int) ≤ (dg c : Int)) = True := by rw [eq_iff_iff]; simp; omega
        rw [if_pos q1]
        simp only [qld, zP, q9, yQ, qC, qD, qq, qn, ki, qzY, kO, Nat.reduceEqDiff, qK, qJ, qF, zq, h1, decide_true, qr, qQ, ke, qd, qi, qA, qG, ↓reduceIte, qX, qw, kI, qbN, hia, e8, yJ, qV, zY, qch, qh, qE, kQ, qP, kx, qzR, ko, h95, decide_false, kW, zm, zi, qzL, zl, kB, k9, yc, qz7, zA, e1, e2, zB, zt, e3, qU, qo, qs, z8, hb8, jd, f1, qep, qgo, qem, qcy, qT, kq, kK]
        exact ⟨_, 0, 2, .inr rfl, rfl, rfl, rfl⟩
      · have f1 : ((b : Int) ≤ (dg c : Int)) = False := by rw [eq_iff_iff]; simp; omega
        rw [if_neg q1]
        by_cases q2 : mx < n * b + dg c
        · have f2 : ((mx : Int) < ((n * b + dg c : Nat) : Int)) = True := by rw [eq_iff_iff]; simp; omega
          rw [if_pos q2]
          simp only [qld, zP, q9, yQ, qC, qD, qq, qn, ki, qzY, kO, Nat.reduceEqDiff, qK, qJ, qF, zq, h1, decide_true, qr, qQ, ke, qd, qi, qA, qG, ↓reduceIte, qX, qw, kI, qbN, hia, e8, yJ, qV, zY, qch, qh, qE, kQ, qP, kx, qzR, ko, h95, decide_false, kW, zm, zi, qzL, zl, kB, k9, yc, qz7, zA, e1, e2, zB, zt, e3, qU, qo, qs, z8, hb8, jd, f1, hcut, hb64, qg0, hm64, hd64, kF, ha64, hlt2, zT, qAc, jz, f2, qep, qgo, qem, qcy, qT, kq, kK]
          exact ⟨_, _, 1, .inl rfl, rfl, rfl, rfl⟩
        · have f2 : ((mx : Int) < ((n * b + dg c : Nat) : Int)) = False := by rw [eq_iff_iff]; simp; omega
          rw [if_neg q2]
          have ih' := ih (i + 1) (n * b + dg c) (by omega) (by omega) (by omega)
          simp only [zP, q9, yQ, qC, qD, qq, qn, ki, qzY, kO, Nat.reduceEqDiff, qK, qJ, qF, zq, h1, decide_true, qr, qQ, ke, qd, qi, qA, qG, ↓reduceIte, qX, qw, kI, qbN, hia, e8, yJ, qV, zY, qch, qh, qE, kQ, qP, kx, qzR, ko, h95, decide_false, kW, zm, zi, qzL, zl, kB, k9, yc, qz7, zA, e1, e2, zB, zt, e3, qU, qo, qs, z8, hb8, jd, f1, hcut, hb64, qg0, hm64, hd64, kF, ha64, hlt2, zT, qAc, jz, f2, hw, jK]
          exact ih'
    · have e1 : ((48 : Int) ≤ (c : Int)) = True := by rw [eq_iff_iff]; simp; omega
      have e2 : ((c : Int) ≤ 57) = False := by rw [eq_iff_iff]; simp; omega
      have lw := fun (H : List Obj) => qqg g1 g2 (H := H)
      have e4 : ((97 : Int) ≤ ((c + 32 : Nat) : Int)) = True := by rw [eq_iff_iff]; simp; omega
      have e5 : (((c + 32 : Nat) : Int) ≤ 122) = True := by rw [eq_iff_iff]; simp; omega
      have e6 : wr .u8 (((c + 32 : Nat) : Int) - 97) = ((c - 65 : Nat) : Int) := by rw [qkh (by omega) (by omega)]; omega
      have e3 : wr .u8 (((c - 65 : Nat) : Int) + 10) = (dg c : Int) := by
        have : ¬ c ≤ 57 := by omega
        rw [qkh (by omega) (by omega)]; simp only [dg, this, if_false]; omega
      by_cases q1 : b ≤ dg c
      · have f1 : ((b : Int) ≤ (dg c : Int)) = True := by rw [eq_iff_iff]; simp; omega
        rw [if_pos q1]
        simp only [qld, zP, q9, yQ, qC, qD, qq, qn, ki, qzY, kO, Nat.reduceEqDiff, qK, qJ, qF, zq, h1, decide_true, qr, qQ, ke, qd, qi, qA, qG, ↓reduceIte, qX, qw, kI, qbN, hia, e8, yJ, qV, zY, qch, qh, qE, kQ, qP, kx, qzR, ko, h95, decide_false, kW, zm, zi, qzL, zl, kB, k9, yc, qz7, zA, e1, e2, zB, qy, qzN, qzT, qf, qN, ql, qzM, qY, lw, qz, qg, qk, qAb, e4, e5, zk, za, kh, zt, e6, kF, e3, qU, qo, qs, z8, hb8, jd, f1, qep, qgo, qem, qcy, qT, kq, kK]
        exact ⟨_, 0, 2, .inr rfl, rfl, rfl, rfl⟩
      · have f1 : ((b : Int) ≤ (dg c : Int)) = False := by rw [eq_iff_iff]; simp; omega
        rw [if_neg q1]
        by_cases q2 : mx < n * b + dg c
        · have f2 : ((mx : Int) < ((n * b + dg c : Nat) : Int)) = True := by rw [eq_iff_iff]; simp; omega
          rw [if_pos q2]
          simp only [qld, zP, q9, yQ, qC, qD, qq, qn, ki, qzY, kO, Nat.reduceEqDiff, qK, qJ, qF, zq, h1, decide_true, qr, qQ, ke, qd, qi, qA, qG, ↓reduceIte, qX, qw, kI, qbN, hia, e8, yJ, qV, zY, qch, qh, qE, kQ, qP, kx, qzR, ko, h95, decide_false, kW, zm, zi, qzL, zl, kB, k9, yc, qz7, zA, e1, e2, zB, qy, qzN, qzT, qf, qN, ql, qzM, qY, lw, qz, qg, qk, qAb, e4, e5, zk, za, kh, zt, e6, kF, e3, qU, qo, qs, z8, hb8, jd, f1, hcut, hb64, qg0, hm64, hd64, ha64, hlt2, zT, qAc, jz, f2, qep, qgo, qem, qcy, qT, kq, kK]
          exact ⟨_, _, 1, .inl rfl, rfl, rfl, rfl⟩
        · have f2 : ((mx : Int) < ((n * b + dg c : Nat) : Int)) = False := by rw [eq_iff_iff]; simp; omega
          rw [if_neg q2]
          have ih' := ih (i + 1) (n * b + dg c) (by omega) (by omega) (by omega)
          simp only [zP, q9, yQ, qC, qD, qq, qn, ki, qzY, kO, Nat.reduceEqDiff, qK, qJ, qF, zq, h1, decide_true, qr, qQ, ke, qd, qi, qA, qG, ↓reduceIte, qX, qw, kI, qbN, hia, e8, yJ, qV, zY, qch, qh, qE, kQ, qP, kx, qzR, ko, h95, decide_false, kW, zm, zi, qzL, zl, kB, k9, yc, qz7, zA, e1, e2, zB, qy, qzN, qzT, qf, qN, ql, qzM, qY, lw, qz, qg, qk, qAb, e4, e5, zk, za, kh, zt, e6, kF, e3, qU, qo, qs, z8, hb8, jd, f1, hcut, hb64, qg0, hm64, hd64, ha64, hlt2, zT, qAc, jz, f2, hw, jK]
          exact ih'
theorem qre {c : Nat} {l : List Nat} : (c :: l = ([] : List Nat)) = False := by simp
theorem qkz {c : Nat} {l : List Nat} : V.osl ((D.i .u8 (c : Nat)) :: l.map fun n : Nat => D.i .u8 n) = slV e8 (c :: l) := rfl
def PuC (H : List Obj) (r : Option Nat) (X : Option Cr) : Prop :=
  match r with
  | some u => X = some ⟨false, true, .tup [.d (.i .u64 (u : Nat)), .d .ni], H, H.length⟩
  | none => ∃ z er, (er = 1 ∨ er = 2) ∧ X = some ⟨false, true, .tup [.d (.i .u64 z), .ifc 110 (.d (.i .i64 er))], H, H.length⟩
theorem qsw {s : List Nat} (hs : ∀ c ∈ s, cHx c = true) (hne : s ≠ []) (hz : s.length ≤ 1000000000000) {b bits mx : Nat} (hb : b = 10 ∧ bits = 31 ∧ mx = 2147483647 ∨ b = 16 ∧ bits = 32 ∧ mx = 4294967295 ∨ b = 16 ∧ bits = 8 ∧ mx = 255) {H : List Obj} :
    PuC H (pu b mx 0 s) (zF pg 75 [.d (.s s), .d (.i .i64 (b : Nat)), .d (.i .i64 (bits : Nat))] H) := by
  obtain ⟨c, l, rfl⟩ : ∃ c l, s = c :: l := by
    cases s with
    | nil => exact absurd rfl hne
    | cons c l => exact ⟨c, l, rfl⟩
  rw [kf (fn := jV) rfl rfl]
  have key : ∀ (ct : Nat) X, mx < ct → (b = 10 ∨ b = 16) → mx ≤ 4294967295 → X = qha H false [.t 6, .t 7] (yT pg (yd 3 [9, 12, 13] (j0 pg (.d (.i .i64 (b : Nat))) (.d (.b false)) (.d (.s (c :: l))) (.d (.i .u64 (ct : Nat))) (.d (.i .u64 (mx : Nat))) (.d (.b false)) (.d (.i .u64 0)) (slV e8 (c :: l)) (.d (.i .i64 ((c :: l).length : Nat))) (.d (.i .i64 0)) H H.length)) yA) → PuC H (pu b mx 0 (c :: l)) X := by
    intro ct X hct hb hmx hX
    have hl := qsL (s0 := c :: l) hs hz hb hmx hct (H := H) (c :: l).length 0 0 (by omega) (by omega) (by omega)
    have hz0 : ((0 : Nat) : Int) = 0 := rfl
    rw [qz9, hz0] at hl
    subst hX
    generalize pu b mx 0 (c :: l) = r at hl
    cases r with
    | some u =>
      obtain ⟨e, h1, h2, h3⟩ := hl
      rw [h3]
      simp only [PuC, qO, qe, qI, h1, kv, h2, qj, qt, je, zJ, jj, qct, ja, qzM, jR, z7, js, jq, Nat.max_self, zO, kG]
      all_goals rfl
    | none =>
      obtain ⟨e, z, er, h0, h1, h2, h3⟩ := hl
      rw [h3]
      refine ⟨z, er, h0, ?_⟩
      simp only [qO, qe, qI, h1, kv, h2, qnU, qj, qt, je, zJ, jj, qct, qqM, ja, qzM, jR, z7, js, qpp, jq, Nat.max_self, zO, kG]
      all_goals rfl
  rcases hb with ⟨rfl, rfl, rfl⟩ | ⟨rfl, rfl, rfl⟩ | ⟨rfl, rfl, rfl⟩
  · refine key 1844674407370955162 _ (by omega) (by omega) (by omega) ?_
    have w1 : qaT .shl .num true (.d (.i .u64 1)) (.d (.i .u64 (wr .u64 31))) = some (.d (.i .u64 2147483648)) := rfl
    have w2 : wr .u64 (2147483648 - 1) = 2147483647 := rfl
    simp only [jV, qAe, qm, qzP, Nat.reduceAdd, qp, qC, qD, qq, qh, kQ, qP, qQ, ke, qd, qi, kO, reduceCtorEq, qK, qJ, qF, qE, qn, ki, kx, qzR, yM, qre, decide_false, qr, qA, qG, qzL, ↓reduceIte, qX, Nat.reduceEqDiff, ko, Int.reduceEq, qw, qz7, zA, Int.reduceLE, decide_true, kW, zm, zi, kB, zB, qU, qo, q9, qs, zq, Int.reduceLT, zT, qAc, jz, z8, w1, zt, Int.reduceSub, qgy, qzN, qiF, qkz, qfm, jB, qbN, qde, qzS, jK, yQ]
    all_goals rfl
  · refine key 1152921504606846976 _ (by omega) (by omega) (by omega) ?_
    have w1 : qaT .shl .num true (.d (.i .u64 1)) (.d (.i .u64 (wr .u64 32))) = some (.d (.i .u64 4294967296)) := rfl
    have w2 : wr .u64 (4294967296 - 1) = 4294967295 := rfl
    simp only [jV, qAe, qm, qzP, Nat.reduceAdd, qp, qC, qD, qq, qh, kQ, qP, qQ, ke, qd, qi, kO, reduceCtorEq, qK, qJ, qF, qE, qn, ki, kx, qzR, yM, qre, decide_false, qr, qA, qG, qzL, ↓reduceIte, qX, Nat.reduceEqDiff, ko, Int.reduceEq, qw, qz7, zA, Int.reduceLE, decide_true, kW, zm, zi, kB, zB, qU, qo, q9, qs, zq, Int.reduceLT, zT, qAc, jz, z8, w1, zt, Int.reduceSub, qgy, qzN, qiF, qkz, qfm, jB, qbN, qde, qzS, jK, yQ]
    all_goals rfl
  · refine key 1152921504606846976 _ (by omega) (by omega) (by omega) ?_
    have w1 : qaT .shl .num true (.d (.i .u64 1)) (.d (.i .u64 (wr .u64 8))) = some (.d (.i .u64 256)) := rfl
    have w2 : wr .u64 (256 - 1) = 255 := rfl
    simp only [jV, qAe, qm, qzP, Nat.reduceAdd, qp, qC, qD, qq, qh, kQ, qP, qQ, ke, qd, qi, kO, reduceCtorEq, qK, qJ, qF, qE, qn, ki, kx, qzR, yM, qre, decide_false, qr, qA, qG, qzL, ↓reduceIte, qX, Nat.reduceEqDiff, ko, Int.reduceEq, qw, qz7, zA, Int.reduceLE, decide_true, kW, zm, zi, kB, zB, qU, qo, q9, qs, zq, Int.reduceLT, zT, qAc, jz, z8, w1, zt, Int.reduceSub, qgy, qzN, qiF, qkz, qfm, jB, qbN, qde, qzS, jK, yQ]
    all_goals rfl
theorem qhu {s : List Nat} (hs : ∀ c ∈ s, cHx c = true) (hne : s ≠ []) (hz : s.length ≤ 1000000000000) {b bits mx : Nat} (hb : b = 10 ∧ bits = 31 ∧ mx = 2147483647 ∨ b = 16 ∧ bits = 32 ∧ mx = 4294967295 ∨ b = 16 ∧ bits = 8 ∧ mx = 255) {H : List Obj} :
    match pu b mx 0 s with
    | some u => zF pg 64 [.d (.s s), .d (.i .i64 (b : Nat)), .d (.i .i64 (bits : Nat))] H = some ⟨false, true, .tup [.d (.i .u64 (u : Nat)), .d .ni], H, H.length⟩
    | none => ∃ z, zF pg 64 [.d (.s s), .d (.i .i64 (b : Nat)), .d (.i .i64 (bits : Nat))] H = some ⟨false, true, .tup [.d (.i .u64 z), .ifc 112 .undef], H, H.length⟩ := by
  have h := qsw hs hne hz hb (H := H)
  rw [kf (fn := qa7) rfl rfl]
  generalize pu b mx 0 s = r at h
  cases r with
  | some u =>
    simp only [PuC] at h
    simp only [qa7, qm, qzP, Nat.reduceAdd, qp, qC, qD, qq, qh, kQ, qP, qQ, ke, qd, qi, kO, reduceCtorEq, qK, qJ, qF, qE, Nat.reduceEqDiff, qy, qzN, qzT, qf, qN, ql, qzM, qY, h, qz, qg, qk, qAb, zl, k9, zV, qbi, qbg, qr, qbk, qn, ki, kx, qzR, qj4, qA, qG, qzL, ↓reduceIte, qX, qT, qO, qe, qI, kv, qj, qt, je, zJ, jj, qct, ja, jR, z7, js, jq, Nat.max_self, zO, kG]
    all_goals rfl
  | none =>
    obtain ⟨z, er, h0, h⟩ := h
    have ht := fun (f : List Nat) => qsY (f := f) (t := s) (b := (b : Int)) (z := (bits : Int)) h0 hz (H := H)
    refine ⟨z, ?_⟩
    simp only [qa7, qm, qzP, Nat.reduceAdd, qp, qC, qD, qq, qh, kQ, qP, qQ, ke, qd, qi, kO, reduceCtorEq, qK, qJ, qF, qE, Nat.reduceEqDiff, qy, qzN, qzT, qf, qN, ql, qzM, qY, h, qz, qg, qk, qAb, zl, k9, zV, qbi, qbg, qr, qbk, qh8, qem, qcy, qn, ki, kx, qzR, qh2, qA, qG, ↓reduceIte, zk, za, kh, qqF, qkc, qct, ht, qT, kq, qO, qe, qI, kv, qnU, qj, qt, je, zJ, jj, qqM, qsh, ja]
    all_goals exact kG rfl rfl rfl
end W

set_option linter.unusedSimpArgs false
set_option linter.unusedVariables false
namespace W
open Go (IntKind BinOp UnOp)
set_option maxRecDepth 20000
theorem qlW (P : Nat → Bool) : ∀ (l : List Nat), ∀ c ∈ l.take (run P l), P c = true
  | [], c, h => by simp at h
  | x :: l, c, h => by
    simp only [run] at h
    cases hp : P x with
    | false => rw [hp] at h; simp at h
    | true =>
      rw [hp] at h
      simp only [cond_true, qz3, List.mem_cons] at h
      rcases h with rfl | h
      · exact hp
      · exact qlW P l c h
theorem qu0 {x c : Nat} {l : List Nat} : pre [x] (c :: l) = decide (c = x) := by simp [pre]
theorem qwL {x : Nat} : pre [x] [] = false := by simp [pre]
theorem qeh {x a : Nat} {s : List Nat} (h : pre [x] (s.drop a) = true) : a < s.length := by
  rcases Nat.lt_or_ge a s.length with h1 | h1
  · exact h1
  · rw [List.drop_eq_nil_of_le h1, qwL] at h; cases h
def qiP (kind : Int) (b mx : Nat) (t : List Nat) (a' : Nat) : Sy := match pu b mx 0 t with
  | none => .bad 30
  | some u => .ok kind [] (wr .i32 (wr .u32 (u : Nat))) a'
def qk4 (s : List Nat) (a : Nat) : Sy :=
  if pre [72] (s.drop (a + run cHx (s.drop a))) then qiP 2 16 4294967295 ((s.drop a).take (run cHx (s.drop a))) (a + run cHx (s.drop a) + 1)
  else if pre [88] (s.drop (a + run cHx (s.drop a))) then qiP 3 16 255 ((s.drop a).take (run cHx (s.drop a))) (a + run cHx (s.drop a) + 1)
  else qiP 2 10 2147483647 ((s.drop a).take (run cHx (s.drop a))) (a + run cHx (s.drop a))
theorem qmW {s : List Nat} (hz : s.length ≤ 1000000000000) {id a c : Nat} {l : List Nat} {H : List Obj} (hL : s.drop a = c :: l) (hc : cDg c = true) (hH : H[id]? = some (sc s a)) : MRes id s a H (qk4 s a) (zF pg 44 [.ptr id 0] H) := by
  have hid : id < H.length := (List.getElem?_eq_some_iff.1 hH).1
  have ha : a ≤ s.length := by have := (qkN hL).2.2; omega
  obtain ⟨sm, lo, g1, g2, g3, hw⟩ := qhy (F := 63) (P := cHx) (fun c H => qsc) hz ha hH
  have hle := qe7 cHx (s.drop a)
  have hk : 0 < run cHx (s.drop a) := by rw [hL]; simp [run, cHx, hc]
  have hall := qlW cHx (s.drop a)
  have hlen : ((s.drop a).take (run cHx (s.drop a))).length = run cHx (s.drop a) := by simp only [List.length_take]; omega
  simp only [List.length_drop] at hle
  unfold qk4
  generalize run cHx (s.drop a) = k at *
  generalize (s.drop a).take k = t at *
  have hne : t ≠ [] := by intro h; rw [h] at hlen; simp at hlen; omega
  have hm1 : min H.length lo = lo := by omega
  have hm2 : min lo H.length = lo := by omega
  have hm3 : min lo id = id := by omega
  have hm4 : min id H.length = id := by omega
  have hH1 : (zp H id (sc s (a + k)))[id]? = some (sc s (a + k)) := yi hH
  have hh1 := qeX (t := [72]) hH1 (by omega)
  have hh2 := qeX (t := [88]) hH1 (by omega)
  have hw1 : wr .i64 (((a + k : Nat) : Int) + 1) = ((a + k + 1 : Nat) : Int) := by rw [jn (by omega) (by omega)]; omega
  rw [kf (fn := jN) rfl rfl]
  have e10 : ((10 : Nat) : Int) = 10 := rfl
  have e16 : ((16 : Nat) : Int) = 16 := rfl
  have e31 : ((31 : Nat) : Int) = 31 := rfl
  have e32 : ((32 : Nat) : Int) = 32 := rfl
  have e8 : ((8 : Nat) : Int) = 8 := rfl
  cases hp1 : pre [72] (s.drop (a + k)) with
  | true =>
    rw [hp1] at hh1
    rw [if_pos rfl]
    have hlt := qeh hp1
    have hn := fun (H : List Obj) => qhu (b := 16) (bits := 32) (mx := 4294967295) hall hne (by omega) (by omega) (H := H)
    unfold qiP
    generalize pu 16 4294967295 0 t = r at hn
    simp only [e16, e32] at hn
    cases r with
    | some u =>
      simp only at hn ⊢
      refine MRes.good hid hH (lo := id) (qzZ _) (by omega) (.inr (qzZ _)) ?_ (e := ?_)
      rotate_left
      · simp only [jN, qm, qzP, qp, qC, qD, qq, kC, qzN, qzT, qQ, zH, kN, jo, kT, qd, qi, qh, kO, reduceCtorEq, qK, qJ, qW, qE, kr, qL, qr, qB, kU, qV, kp, hH, kR, qzQ, qzO, qzW, ky, ke, qF, qy, qjf, qf, qR, qbM, ja, qzM, ql, qY, hw, qz, qg, qdi, qk, hm1, zk, za, kh, kQ, qP, qw, qN, hh1, qH, hm2, qA, qG, ↓reduceIte, hH1, qn, ki, kx, qzR, kF, hw1, Nat.reduceEqDiff, qS, zc, zz, kD, qzS, qzV, kg, kY, ku, kl, Nat.reduceAdd, Nat.reduceLT, kw, qzX, qzU, kn, kJ, hm3, kz, qU, qo, zj, q9, qs, hn, hm4, zl, k9, zV, qbi, qbg, qbk, qj4, qzL, qX, z8, zn, jS, zK, zL, zE, jp, zD, ze, zo, zw, zu, zr, ji, zg, kS, kZ, qT, qO, qe, kV, zU, Nat.reduceLeDiff, jF, qz9, qz3, qAa, qj, qt, qZ]
        rfl
    | none =>
      obtain ⟨z, hn1⟩ := hn (zp H id (sc s (a + k + 1)))
      simp only
      refine MRes.worse hid hH (lo := id) (a' := a + k + 1) (qzZ _) (by omega) (.inr (qzZ _)) ?_ (e := ?_)
      rotate_left
      · simp only [jN, qm, qzP, qp, qC, qD, qq, kC, qzN, qzT, qQ, zH, kN, jo, kT, qd, qi, qh, kO, reduceCtorEq, qK, qJ, qW, qE, kr, qL, qr, qB, kU, qV, kp, hH, kR, qzQ, qzO, qzW, ky, ke, qF, qy, qjf, qf, qR, qbM, ja, qzM, ql, qY, hw, qz, qg, qdi, qk, hm1, zk, za, kh, kQ, qP, qw, qN, hh1, qH, hm2, qA, qG, ↓reduceIte, hH1, qn, ki, kx, qzR, kF, hw1, Nat.reduceEqDiff, qS, zc, zz, kD, qzS, qzV, kg, kY, ku, kl, Nat.reduceAdd, Nat.reduceLT, kw, qzX, qzU, kn, kJ, hm3, kz, qU, qo, zj, q9, qs, hn1, hm4, zl, k9, zV, qbi, qbg, qbk, qh8, qem, qcy, qh2, qdv, qcq, qbr, qbR]
        rfl
  | false =>
    rw [hp1] at hh1
    rw [if_neg (by simp)]
    cases hp2 : pre [88] (s.drop (a + k)) with
    | true =>
      rw [hp2] at hh2
      rw [if_pos rfl]
      have hlt := qeh hp2
      have hn := fun (H : List Obj) => qhu (b := 16) (bits := 8) (mx := 255) hall hne (by omega) (by omega) (H := H)
      unfold qiP
      generalize pu 16 255 0 t = r at hn
      simp only [e16, e8] at hn
      cases r with
      | some u =>
        simp only at hn ⊢
        refine MRes.good hid hH (lo := id) (qzZ _) (by omega) (.inr (qzZ _)) ?_ (e := ?_)
        rotate_left
        · simp only [jN, qm, qzP, qp, qC, qD, qq, kC, qzN, qzT, qQ, zH, kN, jo, kT, qd, qi, qh, kO, reduceCtorEq, qK, qJ, qW, qE, kr, qL, qr, qB, kU, qV, kp, hH, kR, qzQ, qzO, qzW, ky, ke, qF, qy, qjf, qf, qR, qbM, ja, qzM, ql, qY, hw, qz, qg, qdi, qk, hm1, zk, za, kh, kQ, qP, qw, qN, hh1, qH, hm2, qA, qG, qzL, ↓reduceIte, hh2, hH1, qn, ki, kx, qzR, kF, hw1, Nat.reduceEqDiff, qS, zc, zz, kD, qzS, qzV, kg, kY, ku, kl, Nat.reduceAdd, Nat.reduceLT, kw, qzX, qzU, kn, kJ, hm3, kz, qU, qo, zj, q9, qs, hn, hm4, zl, k9, zV, qbi, qbg, qbk, qj4, qX, z8, zn, jS, zK, zL, zE, jp, zD, ze, zo, zw, zu, zr, ji, zg, kS, kZ, qT, qO, qe, kV, zU, Nat.reduceLeDiff, jF, qz9, qz3, qAa, qj, qt, qZ]
          rfl
      | none =>
        obtain ⟨z, hn1⟩ := hn (zp H id (sc s (a + k + 1)))
        simp only
        refine MRes.worse hid hH (lo := id) (a' := a + k + 1) (qzZ _) (by omega) (.inr (qzZ _)) ?_ (e := ?_)
        rotate_left
        · simp only [jN, qm, qzP, qp, qC, qD, qq, kC, qzN, qzT, qQ, zH, kN, jo, kT, qd, qi, qh, kO, reduceCtorEq, qK, qJ, qW, qE, kr, qL, qr, qB, kU, qV, kp, hH, kR, qzQ, qzO, qzW, ky, ke, qF, qy, qjf, qf, qR, qbM, ja, qzM, ql, qY, hw, qz, qg, qdi, qk, hm1, zk, za, kh, kQ, qP, qw, qN, hh1, qH, hm2, qA, qG, qzL, ↓reduceIte, hh2, hH1, qn, ki, kx, qzR, kF, hw1, Nat.reduceEqDiff, qS, zc, zz, kD, qzS, qzV, kg, kY, ku, kl, Nat.reduceAdd, Nat.reduceLT, kw, qzX, qzU, kn, kJ, hm3, kz, qU, qo, zj, q9, qs, hn1, hm4, zl, k9, zV, qbi, qbg, qbk, qh8, qem, qcy, qh2, qdv, qcq, qbr, qbR]
          rfl
    | false =>
      rw [hp2] at hh2
      rw [if_neg (by simp)]
      have hn := fun (H : List Obj) => qhu (b := 10) (bits := 31) (mx := 2147483647) hall hne (by omega) (by omega) (H := H)
      unfold qiP
      generalize pu 10 2147483647 0 t = r at hn
      simp only [e10, e31] at hn
      have g3' : a + k = a ∨ lo ≤ id := by omega
      cases r with
      | some u =>
        simp only at hn ⊢
        refine MRes.good hid hH g1 g2 g3' ?_ (e := ?_)
        rotate_left
        · simp only [jN, qm, qzP, qp, qC, qD, qq, kC, qzN, qzT, qQ, zH, kN, jo, kT, qd, qi, qh, kO, reduceCtorEq, qK, qJ, qW, qE, kr, qL, qr, qB, kU, qV, kp, hH, kR, qzQ, qzO, qzW, ky, ke, qF, qy, qjf, qf, qR, qbM, ja, qzM, ql, qY, hw, qz, qg, qdi, qk, hm1, zk, za, kh, kQ, qP, qw, qN, hh1, qH, hm2, qA, qG, qzL, ↓reduceIte, hh2, qX, qU, qo, Nat.reduceEqDiff, zj, q9, qs, hn, zl, k9, zV, qbi, qbg, qbk, qn, ki, kx, qzR, qj4, z8, zn, zz, kD, kY, qzS, qzV, Nat.reduceAdd, Nat.reduceLT, jS, qzU, qzX, zK, zL, zE, jp, zD, ze, zo, qS, zw, zu, zr, kg, ji, ku, zg, kS, kZ, kz, qT, qO, qe, kV, zU, Nat.reduceLeDiff, jF, qz9, qz3, qAa, qj, qt, qZ]
          rfl
      | none =>
        obtain ⟨z, hn1⟩ := hn (zp H id (sc s (a + k)))
        simp only
        refine MRes.worse hid hH g1 g2 g3' ?_ (e := ?_)
        rotate_left
        · simp only [jN, qm, qzP, qp, qC, qD, qq, kC, qzN, qzT, qQ, zH, kN, jo, kT, qd, qi, qh, kO, reduceCtorEq, qK, qJ, qW, qE, kr, qL, qr, qB, kU, qV, kp, hH, kR, qzQ, qzO, qzW, ky, ke, qF, qy, qjf, qf, qR, qbM, ja, qzM, ql, qY, hw, qz, qg, qdi, qk, hm1, zk, za, kh, kQ, qP, qw, qN, hh1, qH, hm2, qA, qG, qzL, ↓reduceIte, hh2, qX, qU, qo, Nat.reduceEqDiff, zj, q9, qs, hn1, zl, k9, zV, qbi, qbg, qbk, qh8, qem, qcy, qn, ki, kx, qzR, qh2, qdv, qcq, qbr, qbR]
          rfl
def qhm (s : List Nat) (a : Nat) : Sy :=
  if pre [34] (s.drop (a + 1 + run cTx (s.drop (a + 1)))) then
    (if 120 < run cTx (s.drop (a + 1)) then .bad 34 else .ok 4 ((s.drop (a + 1)).take (run cTx (s.drop (a + 1)))) 0 (a + 1 + run cTx (s.drop (a + 1)) + 1))
  else .bad 30
theorem qp6 {s : List Nat} (hz : s.length ≤ 1000000000000) {id a : Nat} {H : List Obj} (ha : a < s.length) (hH : H[id]? = some (sc s a)) : MRes id s a H (qhm s a) (zF pg 46 [.ptr id 0] H) := by
  have hid : id < H.length := (List.getElem?_eq_some_iff.1 hH).1
  have hH1 : (zp H id (sc s (a + 1)))[id]? = some (sc s (a + 1)) := yi hH
  obtain ⟨sm, lo, g1, g2, g3, hw⟩ := qhy (F := 66) (P := cTx) (fun c H => qn9) hz (by omega) hH1
  have hle := qe7 cTx (s.drop (a + 1))
  have hlen : ((s.drop (a + 1)).take (run cTx (s.drop (a + 1)))).length = run cTx (s.drop (a + 1)) := by simp only [List.length_take]; omega
  simp only [List.length_drop] at hle
  rw [kJ] at hw
  rw [qH] at g2
  unfold qhm
  generalize run cTx (s.drop (a + 1)) = k at *
  generalize (s.drop (a + 1)).take k = t at *
  have hm1 : min H.length id = id := by omega
  have hm2 : min id lo = id := by omega
  have hm3 : min id H.length = id := by omega
  have hm4 : min id id = id := by omega
  have hH2 : (zp H id (sc s (a + 1 + k)))[id]? = some (sc s (a + 1 + k)) := yi hH
  have hh1 := qeX (t := [34]) hH2 (by omega)
  have hw0 : wr .i64 ((a : Int) + 1) = ((a + 1 : Nat) : Int) := by rw [jn (by omega) (by omega)]; omega
  have hw1 : wr .i64 (((a + 1 + k : Nat) : Int) + 1) = ((a + 1 + k + 1 : Nat) : Int) := by rw [jn (by omega) (by omega)]; omega
  rw [kf (fn := qaq) rfl rfl]
  cases hp : pre [34] (s.drop (a + 1 + k)) with
  | false =>
    rw [hp] at hh1
    rw [if_neg (by simp)]
    refine MRes.worse hid hH (lo := id) (a' := a + 1 + k) (qzZ _) (by omega) (.inr (qzZ _)) ?_ (e := ?_)
    rotate_left
    · simp only [qaq, qm, qzP, qp, qC, qD, qq, kC, qzN, qzT, qQ, zH, kN, jo, kT, qd, qi, qh, kO, reduceCtorEq, qK, qJ, qW, qE, kr, qL, qr, qB, kU, qV, kp, hH, kR, qzQ, qzO, qzW, ky, ke, qF, qn, ki, kx, qzR, kQ, kF, hw0, Nat.reduceEqDiff, qS, zc, zz, kD, qzS, qzV, kg, kY, ku, qzM, kl, Nat.reduceAdd, Nat.reduceLT, kw, qzX, qzU, kn, hm1, kz, qy, qjf, qf, qR, qbM, ja, ql, qY, hw, qz, qg, qdi, qk, hm2, zk, za, kh, qw, qN, hh1, qH, qP, hm3, qaR, qcH, qAc, qA, qG, ↓reduceIte, qdv, qcq, qcJ, qbr, qbR]
      rfl
  | true =>
    rw [hp] at hh1
    rw [if_pos rfl]
    have hlt := qeh hp
    by_cases h1 : 120 < k
    · have e1 : ((120 : Int) < ((k : Nat) : Int)) = True := by rw [eq_iff_iff]; simp; omega
      rw [if_pos h1]
      refine MRes.worse hid hH (lo := id) (a' := a + 1 + k) (qzZ _) (by omega) (.inr (qzZ _)) ?_ (e := ?_)
      rotate_left
      · simp only [qaq, qm, qzP, qp, qC, qD, qq, kC, qzN, qzT, qQ, zH, kN, jo, kT, qd, qi, qh, kO, reduceCtorEq, qK, qJ, qW, qE, kr, qL, qr, qB, kU, qV, kp, hH, kR, qzQ, qzO, qzW, ky, ke, qF, qn, ki, kx, qzR, kQ, kF, hw0, Nat.reduceEqDiff, qS, zc, zz, kD, qzS, qzV, kg, kY, ku, qzM, kl, Nat.reduceAdd, Nat.reduceLT, kw, qzX, qzU, kn, hm1, kz, qy, qjf, qf, qR, qbM, ja, ql, qY, hw, qz, qg, qdi, qk, hm2, zk, za, kh, qw, qN, hh1, qH, qP, hm3, qaR, qcH, qz6, qA, qG, qzL, ↓reduceIte, kc, zf, hlen, jz, e1, decide_true, qdv, qcq, qcJ, qbr, qbR]
        rfl
    · have e1 : ((120 : Int) < ((k : Nat) : Int)) = False := by rw [eq_iff_iff]; simp; omega
      rw [if_neg h1]
      refine MRes.good hid hH (lo := id) (qzZ _) (by omega) (.inr (qzZ _)) ?_ (e := ?_)
      rotate_left
      · simp only [qaq, qm, qzP, qp, qC, qD, qq, kC, qzN, qzT, qQ, zH, kN, jo, kT, qd, qi, qh, kO, reduceCtorEq, qK, qJ, qW, qE, kr, qL, qr, qB, kU, qV, kp, hH, kR, qzQ, qzO, qzW, ky, ke, qF, qn, ki, kx, qzR, kQ, kF, hw0, Nat.reduceEqDiff, qS, zc, zz, kD, qzS, qzV, kg, kY, ku, qzM, kl, Nat.reduceAdd, Nat.reduceLT, kw, qzX, qzU, kn, hm1, kz, qy, qjf, qf, qR, qbM, ja, ql, qY, hw, qz, qg, qdi, qk, hm2, zk, za, kh, qw, qN, hh1, qH, qP, hm3, qaR, qcH, qz6, qA, qG, qzL, ↓reduceIte, kc, zf, hlen, jz, e1, decide_false, qX, qU, qo, kE, zj, q9, qs, hH2, hw1, kJ, hm4, zn, jS, ji, zK, zL, zE, jp, zD, ze, zo, zw, zu, zr, zg, kS, kZ, qT, qO, qe, kV, zU, Nat.reduceLeDiff, jF, qz9, qz3, qAa, qj, qt, qZ]
        rfl
def SG : List Nat := [43, 45, 42, 47, 38, 126, 61, 35, 60, 62, 46, 44, 59, 58, 40, 41, 91, 93, 123, 125, 94, 124]
def qi4 (s : List Nat) (a c : Nat) : Sy :=
  if pre [60, 61] (s.drop a) then .ok 5 [60, 61] 0 (a + 2)
  else if pre [62, 61] (s.drop a) then .ok 5 [62, 61] 0 (a + 2)
  else if pre [58, 61] (s.drop a) then .ok 5 [58, 61] 0 (a + 2)
  else if pre [46, 46] (s.drop a) then .ok 5 [46, 46] 0 (a + 2)
  else if ixN c SG < 0 then .bad 30 else .ok 5 [c] 0 (a + 1)
theorem qpD {s : List Nat} (hs : ∀ c ∈ s, c < 256) (hz : s.length ≤ 1000000000000) {id a c : Nat} {l : List Nat} {H : List Obj} (hL : s.drop a = c :: l) (hH : H[id]? = some (sc s a)) : MRes id s a H (qi4 s a c) (zF pg 47 [.ptr id 0] H) := by
  have hid : id < H.length := (List.getElem?_eq_some_iff.1 hH).1
  obtain ⟨hget, hdr, hlt⟩ := qkN hL
  have hh := fun (t : List Nat) => qeX (t := t) hH (by omega)
  have hix : ixV (.d (.s s)) (.d (.i .i64 (a : Int))) = some (.d (.i .u8 ((c : Nat) : Int))) := qjP (by omega) (by simpa using hget)
  have hc : c < 256 := hs c (List.mem_of_getElem? hget)
  have hi := qpn (t := SG) hc (H := H)
  have hm1 : min H.length id = id := by omega
  have hw1 : wr .i64 ((a : Int) + 1) = ((a + 1 : Nat) : Int) := by rw [jn (by omega) (by omega)]; omega
  have hw2 : wr .i64 ((a : Int) + 2) = ((a + 2 : Nat) : Int) := by rw [jn (by omega) (by omega)]; omega
  have i0 : iaV (.d (.sl [.s [60, 61], .s [62, 61], .s [58, 61], .s [46, 46]])) (.d (.i .i64 0)) 1 none = some (.cp (.s [60, 61])) := rfl
  have i1 : iaV (.d (.sl [.s [60, 61], .s [62, 61], .s [58, 61], .s [46, 46]])) (.d (.i .i64 1)) 1 none = some (.cp (.s [62, 61])) := rfl
  have i2 : iaV (.d (.sl [.s [60, 61], .s [62, 61], .s [58, 61], .s [46, 46]])) (.d (.i .i64 2)) 1 none = some (.cp (.s [58, 61])) := rfl
  have i3 : iaV (.d (.sl [.s [60, 61], .s [62, 61], .s [58, 61], .s [46, 46]])) (.d (.i .i64 3)) 1 none = some (.cp (.s [46, 46])) := rfl
  have w1 : wr .i64 1 = 1 := rfl
  have w2 : wr .i64 2 = 2 := rfl
  have w3 : wr .i64 3 = 3 := rfl
  have w4 : wr .i64 4 = 4 := rfl
  rw [kf (fn := j8) rfl rfl]
  unfold qi4
  have h0 := hh [60, 61]
  have h1 := hh [62, 61]
  have h2 := hh [58, 61]
  have h3 := hh [46, 46]
  by_cases q0 : pre [60, 61] (s.drop a) = true
  · rw [if_pos q0]
    rw [q0] at h0
    refine MRes.good hid hH (lo := id) (qzZ _) (by omega) (.inr (qzZ _)) ?_ (e := ?_)
    rotate_left
    · simp only [j8, qm, qzP, qp, qC, qD, qq, kC, qzN, qzT, qQ, zH, kN, jo, kT, qd, qi, kP, jQ, qzS, qzV, List.reduceReplicate, kQ, Nat.reduceAdd, Nat.reduceLT, zI, qzU, qzX, zW, jk, ji, yS, jI, qzM, jl, qr, yz, jB, kO, qJ, jc, qft, qAe, ke, qh, qP, qw, yh, reduceCtorEq, qK, kE, Nat.reduceEqDiff, zj, qeS, q9, yj, jX, qn, ki, qzY, qF, zq, Int.reduceLT, decide_true, qA, qG, ↓reduceIte, qX, kI, i0, yJ, zZ, zY, qam, zX, qE, qW, kr, qy, qf, qR, qN, ql, qY, h0, qz, qg, qk, qAb, qL, qB, kU, qV, kp, hH, kR, qzQ, qzO, qzW, ky, kc, zf, kF, hw2, qS, zc, zz, kD, kg, kY, ku, kl, kw, kn, hm1, kz, zn, jS, zK, zL, zE, jp, zD, ze, zo, zw, zu, zr, zg, kS, kZ, qT, kK, kq, qO, qe, kV, zU, Nat.reduceLeDiff, jF, qz9, qz3, qAa, qj, qt, qZ]
      rfl
  rw [if_neg q0]
  rw [Bool.not_eq_true] at q0
  rw [q0] at h0
  by_cases q1 : pre [62, 61] (s.drop a) = true
  · rw [if_pos q1]
    rw [q1] at h1
    refine MRes.good hid hH (lo := id) (qzZ _) (by omega) (.inr (qzZ _)) ?_ (e := ?_)
    rotate_left
    · simp only [j8, qm, qzP, qp, qC, qD, qq, kC, qzN, qzT, qQ, zH, kN, jo, kT, qd, qi, kP, jQ, qzS, qzV, List.reduceReplicate, kQ, Nat.reduceAdd, Nat.reduceLT, zI, qzU, qzX, zW, jk, ji, yS, jI, qzM, jl, qr, yz, jB, kO, qJ, jc, qft, qAe, ke, qh, qP, qw, yh, reduceCtorEq, qK, kE, Nat.reduceEqDiff, zj, qeS, q9, yj, jX, qn, ki, qzY, qF, zq, Int.reduceLT, decide_true, qA, qG, ↓reduceIte, qX, kI, i0, yJ, zZ, zY, qam, zX, qE, qW, kr, qy, qf, qR, qN, ql, qY, h0, qz, qg, qk, qAb, qzL, qU, qo, qs, kx, qzR, kF, Int.reduceAdd, w1, i1, h1, qL, qB, kU, qV, kp, hH, kR, qzQ, qzO, qzW, ky, kc, zf, hw2, qS, zc, zz, kD, kg, kY, ku, kl, kw, kn, hm1, kz, zn, jS, zK, zL, zE, jp, zD, ze, zo, zw, zu, zr, zg, kS, kZ, qT, kK, kq, qO, qe, kV, zU, Nat.reduceLeDiff, jF, qz9, qz3, qAa, qj, qt, qZ]
      rfl
  rw [if_neg q1]
  rw [Bool.not_eq_true] at q1
  rw [q1] at h1
  by_cases q2 : pre [58, 61] (s.drop a) = true
  · rw [if_pos q2]
    rw [q2] at h2
    refine MRes.good hid hH (lo := id) (qzZ _) (by omega) (.inr (qzZ _)) ?_ (e := ?_)
    rotate_left
    · simp only [j8, qm, qzP, qp, qC, qD, qq, kC, qzN, qzT, qQ, zH, kN, jo, kT, qd, qi, kP, jQ, qzS, qzV, List.reduceReplicate, kQ, Nat.reduceAdd, Nat.reduceLT, zI, qzU, qzX, zW, jk, ji, yS, jI, qzM, jl, qr, yz, jB, kO, qJ, jc, qft, qAe, ke, qh, qP, qw, yh, reduceCtorEq, qK, kE, Nat.reduceEqDiff, zj, qeS, q9, yj, jX, qn, ki, qzY, qF, zq, Int.reduceLT, decide_true, qA, qG, ↓reduceIte, qX, kI, i0, yJ, zZ, zY, qam, zX, qE, qW, kr, qy, qf, qR, qN, ql, qY, h0, qz, qg, qk, qAb, qzL, qU, qo, qs, kx, qzR, kF, Int.reduceAdd, w1, i1, h1, w2, i2, h2, qL, qB, kU, qV, kp, hH, kR, qzQ, qzO, qzW, ky, kc, zf, hw2, qS, zc, zz, kD, kg, kY, ku, kl, kw, kn, hm1, kz, zn, jS, zK, zL, zE, jp, zD, ze, zo, zw, zu, zr, zg, kS, kZ, qT, kK, kq, qO, qe, kV, zU, Nat.reduceLeDiff, jF, qz9, qz3, qAa, qj, qt, qZ]
      rfl
  rw [if_neg q2]
  rw [Bool.not_eq_true] at q2
  rw [q2] at h2
  by_cases q3 : pre [46, 46] (s.drop a) = true
  · rw [if_pos q3]
    rw [q3] at h3
    refine MRes.good hid hH (lo := id) (qzZ _) (by omega) (.inr (qzZ _)) ?_ (e := ?_)
    rotate_left
    · simp only [j8, qm, qzP, qp, qC, qD, qq, kC, qzN, qzT, qQ, zH, kN, jo, kT, qd, qi, kP, jQ, qzS, qzV, List.reduceReplicate, kQ, Nat.reduceAdd, Nat.reduceLT, zI, qzU, qzX, zW, jk, ji, yS, jI, qzM, jl, qr, yz, jB, kO, qJ, jc, qft, qAe, ke, qh, qP, qw, yh, reduceCtorEq, qK, kE, Nat.reduceEqDiff, zj, qeS, q9, yj, jX, qn, ki, qzY, qF, zq, Int.reduceLT, decide_true, qA, qG, ↓reduceIte, qX, kI, i0, yJ, zZ, zY, qam, zX, qE, qW, kr, qy, qf, qR, qN, ql, qY, h0, qz, qg, qk, qAb, qzL, qU, qo, qs, kx, qzR, kF, Int.reduceAdd, w1, i1, h1, w2, i2, h2, w3, i3, h3, qL, qB, kU, qV, kp, hH, kR, qzQ, qzO, qzW, ky, kc, zf, hw2, qS, zc, zz, kD, kg, kY, ku, kl, kw, kn, hm1, kz, zn, jS, zK, zL, zE, jp, zD, ze, zo, zw, zu, zr, zg, kS, kZ, qT, kK, kq, qO, qe, kV, zU, Nat.reduceLeDiff, jF, qz9, qz3, qAa, qj, qt, qZ]
      rfl
  rw [if_neg q3]
  rw [Bool.not_eq_true] at q3
  rw [q3] at h3
  by_cases q4 : ixN c SG < 0
  · have e1 : (ixN c SG < 0) = True := eq_true q4
    rw [if_pos q4]
    simp only [SG] at hi e1
    refine MRes.worse hid hH (lo := H.length) (a' := a) (by omega) (qzZ _) (.inl rfl) ?_ (e := ?_)
    rotate_left
    · rw [qaj hH]
      simp only [j8, qcn, qm, qzP, qp, qC, qD, qq, kC, qzN, qzT, qQ, zH, kN, jo, kT, qd, qi, kP, jQ, qzS, qzV, List.reduceReplicate, kQ, Nat.reduceAdd, Nat.reduceLT, zI, qzU, qzX, zW, jk, ji, yS, jI, qzM, jl, qr, yz, jB, kO, qJ, jc, qft, qAe, ke, qh, qP, qw, yh, reduceCtorEq, qK, kE, Nat.reduceEqDiff, zj, qeS, q9, yj, jX, qn, ki, qzY, qF, zq, Int.reduceLT, decide_true, qA, qG, ↓reduceIte, qX, kI, i0, yJ, zZ, zY, qam, zX, qE, qW, kr, qy, qf, qR, qN, ql, qY, h0, qz, qg, qk, qAb, qzL, qU, qo, qs, kx, qzR, kF, Int.reduceAdd, w1, i1, h1, w2, i2, h2, w3, i3, h3, w4, decide_false, yO, jT, jC, jg, zS, zQ, jE, zR, qL, qB, kU, qAg, qV, kp, hH, kR, qzO, qzW, ky, yp, qzQ, kM, hix, zx, hi, e1, zy, qdv, qcq, qbr, qbR]
      rfl
  · have e1 : (ixN c SG < 0) = False := eq_false q4
    rw [if_neg q4]
    simp only [SG] at hi e1
    have hH1 : (zp H id (sc s (a + 1)))[id]? = some (sc s (a + 1)) := yi hH
    have hwm : wr .i64 (((a + 1 : Nat) : Int) - 1) = (a : Int) := by rw [jn (by omega) (by omega)]; omega
    have hmid := qiG (l := s) (a := a) (b := a + 1) (by omega) (by omega)
    have hmm : (s.take (a + 1)).drop a = [c] := by
      rw [List.drop_take, hL]; simp
    rw [hmm] at hmid
    refine MRes.good hid hH (lo := id) (qzZ _) (by omega) (.inr (qzZ _)) ?_ (e := ?_)
    rotate_left
    · simp only [j8, qcn, qm, qzP, qp, qC, qD, qq, kC, qzN, qzT, qQ, zH, kN, jo, kT, qd, qi, kP, jQ, qzS, qzV, List.reduceReplicate, kQ, Nat.reduceAdd, Nat.reduceLT, zI, qzU, qzX, zW, jk, ji, yS, jI, qzM, jl, qr, yz, jB, kO, qJ, jc, qft, qAe, ke, qh, qP, qw, yh, reduceCtorEq, qK, kE, Nat.reduceEqDiff, zj, qeS, q9, yj, jX, qn, ki, qzY, qF, zq, Int.reduceLT, decide_true, qA, qG, ↓reduceIte, qX, kI, i0, yJ, zZ, zY, qam, zX, qE, qW, kr, qy, qf, qR, qN, ql, qY, h0, qz, qg, qk, qAb, qzL, qU, qo, qs, kx, qzR, kF, Int.reduceAdd, w1, i1, h1, w2, i2, h2, w3, i3, h3, w4, decide_false, yO, jT, jC, jg, zS, zQ, jE, zR, qL, qB, kU, qAg, qV, kp, hH, kR, qzO, qzW, ky, yp, qzQ, kM, hix, zx, hi, e1, zy, hw1, qS, zc, zz, kD, kg, kY, ku, kl, kw, kn, hm1, kz, hH1, zt, hwm, jA, jP, qcc, yx, hmid, zn, jS, zK, zL, zE, jp, zD, ze, zo, zw, zu, zr, zg, kS, kZ, qdz, qT, qO, qe, kV, zU, Nat.reduceLeDiff, jF, qz9, qz3, qAa, qj, qt, qZ]
      rfl
end W

set_option linter.unusedSimpArgs false
set_option linter.unusedVariables false
namespace W
open Go (IntKind BinOp UnOp)
set_option maxRecDepth 20000
theorem qrb : ∀ (n deep frm a : Nat) (l : List Nat) (j : Nat), l.length ≤ n → sk deep frm a l = (true, j) → a ≤ j ∧ j ≤ a + l.length := by
  intro n
  induction n with
  | zero =>
    intro deep frm a l j hn h
    have : l = [] := List.length_eq_zero_iff.1 (by omega)
    subst this
    simp only [sk] at h
    split at h
    · cases h; simp
    · cases h
  | succ n ih =>
    intro deep frm a l j hn h
    match l, hn, h with
    | [], hn, h =>
      simp only [sk] at h
      split at h
      · cases h; simp
      · cases h
    | [c], hn, h =>
      simp only [sk] at h
      split at h
      · split at h
        · cases h; simp
        · cases h; simp
      · cases h
    | c :: d :: l, hn, h =>
      simp only [qzS] at hn ⊢
      rw [sk] at h
      split at h
      · have := ih _ _ _ _ _ (by omega) h; omega
      · split at h
        · have := ih _ _ _ _ _ (by omega) h; omega
        · split at h
          · have := ih _ _ _ _ _ (by simp only [qzS]; omega) h
            simp only [qzS] at this; omega
          · cases h; omega
def qiT (s : List Nat) (j : Nat) : Sy := match s.drop j with
  | [] => .bad 0
  | c :: _ => if cLt c = true then qi8 s j else if cDg c = true then qk4 s j else if c = 34 then qhm s j else qi4 s j c
inductive Nx where
  | ok (k : Int) (p e : Nat) (t : List Nat) (n : Int)
  | bad (p : Nat) (e : Int)
def qos (j : Nat) : Sy → Nx
  | .ok k t n a' => .ok k j a' t n
  | .bad e => .bad j e
def qj5 (s : List Nat) (a : Nat) : Nx := match sk 0 a a (s.drop a) with
  | (false, p) => .bad p 30
  | (true, j) => if j = s.length then .ok 0 j j [] 0 else qos j (qiT s j)
def NRes (id : Nat) (s : List Nat) (a : Nat) (H : List Obj) (r : Nx) (X : Option Cr) : Prop :=
  match r with
  | .ok k p e t n => ∃ sm lo, id ≤ lo ∧ lo ≤ H.length ∧ (e = a ∨ lo ≤ id) ∧ X = some ⟨false, sm, .d (tok k p e t n), zp H id (sc s e), lo⟩
  | .bad p x => ∃ sm lo a', id ≤ lo ∧ lo ≤ H.length ∧ (a' = a ∨ lo ≤ id) ∧ X = some ⟨true, sm, .ifc 66 (.d (.agg [.i .i64 (p : Nat), .i .i64 x])), zp H id (sc s a'), lo⟩
theorem NRes.good {id : Nat} {s : List Nat} {a p a' : Nat} {H : List Obj} {k n : Int} {t : List Nat} {e : Env} {lo : Nat} {X : Option Cr} (hid : id < H.length) (hH : H[id]? = some (sc s a)) (h1 : id ≤ lo) (h2 : lo ≤ H.length) (h3 : a' = a ∨ lo ≤ id)
    (h : X = leave H false (.d (tok k p a' t n)) ⟨e, zp H id (sc s a'), lo⟩) : NRes id s a H (.ok k p a' t n) X := by
  obtain ⟨sm, hlv⟩ := qe0 (pan := false) (v := .d (tok k p a' t n)) (e := e) (lo := lo) (o := sc s a') rfl rfl (fun _ => rfl) (by
      rcases h3 with h | h
      · left; rw [h]; exact qaj hH
      · right; exact h) hid
  exact ⟨sm, lo, h1, h2, h3, h.trans hlv⟩
theorem NRes.worse {id p : Nat} {s : List Nat} {a a' : Nat} {H : List Obj} {x : Int} {e : Env} {lo : Nat} {X : Option Cr} (hid : id < H.length) (hH : H[id]? = some (sc s a)) (h1 : id ≤ lo) (h2 : lo ≤ H.length) (h3 : a' = a ∨ lo ≤ id)
    (h : X = leave H true (.ifc 66 (.d (.agg [.i .i64 (p : Nat), .i .i64 x]))) ⟨e, zp H id (sc s a'), lo⟩) : NRes id s a H (.bad p x) X := by
  obtain ⟨sm, hlv⟩ := qe0 (pan := true) (v := .ifc 66 (.d (.agg [.i .i64 (p : Nat), .i .i64 x]))) (e := e) (lo := lo) (o := sc s a') rfl rfl (fun _ => rfl) (by
      rcases h3 with h | h
      · left; rw [h]; exact qaj hH
      · right; exact h) hid
  exact ⟨sm, lo, a', h1, h2, h3, h.trans hlv⟩
theorem qpF {s : List Nat} (hs : ∀ c ∈ s, c < 256) (hz : s.length ≤ 1000000000000) {id a : Nat} {H : List Obj} (ha : a ≤ s.length) (hH : H[id]? = some (sc s a)) : NRes id s a H (qj5 s a) (zF pg 28 [.ptr id 0] H) := by
  have hid : id < H.length := (List.getElem?_eq_some_iff.1 hH).1
  have hsk := qpy hs hz ha hH
  rw [kf (fn := f_scan_scanner_next) rfl rfl]
  unfold qj5
  have hjl := fun j => qrb (s.drop a).length 0 a a (s.drop a) j (qzZ _)
  generalize sk 0 a a (s.drop a) = r at hsk hjl
  obtain ⟨b, j⟩ := r
  cases b with
  | false =>
    obtain ⟨sm, lo, a', g1, g2, g3, hsk⟩ := hsk
    have hm1 : min H.length lo = lo := by omega
    refine NRes.worse hid hH g1 g2 g3 ?_ (e := ?_)
    rotate_left
    · simp only [f_scan_scanner_next, qm, qzP, qp, qC, qD, qq, kC, qzN, qzT, qQ, zH, kN, jo, kT, qd, qi, qh, kO, reduceCtorEq, qK, qJ, qW, qE, kr, qy, qf, qR, ql, qzM, qY, hsk, qz, qg, qk, hm1, qcq, qbr, qbR]
      rfl
  | true =>
    obtain ⟨sm, lo, g1, g2, g3, hsk⟩ := hsk
    have hjr := hjl j rfl
    simp only [List.length_drop] at hjr
    have hm1 : min H.length lo = lo := by omega
    have hm2 : min lo H.length = lo := by omega
    have hH1 : (zp H id (sc s j))[id]? = some (sc s j) := yi hH
    simp only
    by_cases hj : j = s.length
    · have e1 : ((j : Int) = (s.length : Int)) = True := by rw [eq_iff_iff]; simp; omega
      rw [if_pos hj]
      refine NRes.good hid hH g1 g2 g3 ?_ (e := ?_)
      rotate_left
      · simp only [f_scan_scanner_next, qm, qzP, qp, qC, qD, qq, kC, qzN, qzT, qQ, zH, kN, jo, kT, qd, qi, qh, kO, reduceCtorEq, qK, qJ, qW, qE, kr, qy, qf, qR, ql, qzM, qY, hsk, qz, qg, qk, hm1, zl, qL, qr, qB, kU, qV, kp, hH1, kR, qzQ, qzO, qzW, ky, ke, qF, ju, qbK, yu, qw, jg, zS, zQ, jE, zR, yp, qAg, kc, zf, qn, ki, qzY, Nat.reduceEqDiff, ko, e1, decide_true, zx, zy, qA, qG, ↓reduceIte, zn, kQ, zz, kD, kY, qzS, qzV, Nat.reduceAdd, Nat.reduceLT, jS, qzU, zK, zL, zE, jp, zD, ze, zo, qS, zw, zu, zr, kg, ji, ku, zg, kS, kZ, kz, qU, qo, kE, zj, q9, qs, qcC, qfW, qdl, qkH, qaz, kw, qzX, qdz, qa8, Nat.reduceLeDiff, jF, qz9, qz3, qAa, qT, qO, qe, kV, zU, qj, qt, qZ, tok]
        rfl
    · have e1 : ((j : Int) = (s.length : Int)) = False := by rw [eq_iff_iff]; simp; omega
      rw [if_neg hj]
      have hjlt : j < s.length := by omega
      have hL : s.drop j = s[j] :: s.drop (j + 1) := yR hjlt
      have hix : ixV (.d (.s s)) (.d (.i .i64 (j : Int))) = some (.d (.i .u8 ((s[j] : Nat) : Int))) := qjP (by omega) (by simp)
      generalize s[j] = c at hL hix
      have hlc := qiZ (c := c) (H := zp H id (sc s j))
      have hdc := qhr (c := c) (H := zp H id (sc s j))
      have hq := qeX (t := [34]) hH1 (by omega)
      rw [hL, qu0] at hq
      have fin : ∀ (r : Sy) (f : Nat), MRes id s j (zp H id (sc s j)) r (zF pg f [.ptr id 0] (zp H id (sc s j))) →
          (∀ sm2 lo2 k t n a', zF pg f [.ptr id 0] (zp H id (sc s j)) = some ⟨false, sm2, .d (tok k 0 0 t n), zp H id (sc s a'), lo2⟩ → r = .ok k t n a' → ∃ e, qha H true [.cell 2 ⟨5, true⟩] (exL pg f_scan_scanner_next.body ⟨ye 0 [.ptr id 0], H, H.length⟩) = leave H false (.d (tok k j a' t n)) ⟨e, zp H id (sc s a'), min lo lo2⟩) →
          (∀ sm2 lo2 x a', zF pg f [.ptr id 0] (zp H id (sc s j)) = some ⟨true, sm2, .ifc 66 (.d (.agg [.i .i64 (j : Nat), .i .i64 x])), zp H id (sc s a'), lo2⟩ → r = .bad x → ∃ e, qha H true [.cell 2 ⟨5, true⟩] (exL pg f_scan_scanner_next.body ⟨ye 0 [.ptr id 0], H, H.length⟩) = leave H true (.ifc 66 (.d (.agg [.i .i64 (j : Nat), .i .i64 x]))) ⟨e, zp H id (sc s a'), min lo lo2⟩) →
          NRes id s a H (qos j r) (qha H true [.cell 2 ⟨5, true⟩] (exL pg f_scan_scanner_next.body ⟨ye 0 [.ptr id 0], H, H.length⟩)) := by
        intro r f hm hgood hbad
        cases r with
        | ok k t n a' =>
          obtain ⟨sm2, lo2, q1, q2, q3, hc⟩ := hm
          rw [kJ] at hc
          rw [qH] at q2
          obtain ⟨e, he⟩ := hgood sm2 lo2 k t n a' hc rfl
          exact NRes.good hid hH (by omega) (by omega) (by omega) he
        | bad x =>
          obtain ⟨sm2, lo2, a', q1, q2, q3, hc⟩ := hm
          rw [kJ] at hc
          rw [qH] at q2
          obtain ⟨e, he⟩ := hbad sm2 lo2 x a' hc rfl
          exact NRes.worse hid hH (by omega) (by omega) (by omega) he
      have hsym : qiT s j = if cLt c = true then qi8 s j else if cDg c = true then qk4 s j else if c = 34 then qhm s j else qi4 s j c := by
        unfold qiT; rw [hL]
      rw [hsym]
      cases hlt : cLt c with
      | true =>
        rw [hlt] at hlc
        rw [if_pos rfl]
        refine fin _ 42 (qpP hz (by omega) hH1) ?_ ?_
        · intro sm2 lo2 k t n a' hc _
          have hH2 : (zp H id (sc s a'))[id]? = some (sc s a') := yi hH
          simp only [tok] at hc
          simp only [f_scan_scanner_next, qm, qzP, qp, qC, qD, qq, kC, qzN, qzT, qQ, zH, kN, jo, kT, qd, qi, qh, kO, reduceCtorEq, qK, qJ, qW, qE, kr, qy, qf, qR, ql, qzM, qY, hsk, qz, qg, qk, hm1, zl, qL, qr, qB, kU, qV, kp, hH1, kR, qzQ, qzO, qzW, ky, ke, qF, ju, qbK, yu, qw, jg, zS, zQ, jE, zR, yp, qAg, kc, zf, qn, ki, qzY, Nat.reduceEqDiff, ko, e1, decide_false, zx, zy, qA, qG, qzL, ↓reduceIte, kM, hix, qN, hlc, qH, hm2, zk, za, kh, hc, qS, zw, zu, zr, qzS, qzV, Nat.reduceAdd, kg, kY, zz, ji, ku, zg, kS, kZ, kz, qU, qo, kE, zj, q9, qs, hH2, qcC, qfW, qdl, qkH, qaz, kD, Nat.reduceLT, kw, qzX, qzU, qdz, qa8, Nat.reduceLeDiff, jF, qz9, qz3, qAa, zE, jp, zD, ze, zo, qT, qO, qe, kV, zU, qj, qt, qZ, tok]
          exact ⟨_, rfl⟩
        · intro sm2 lo2 x a' hc _
          simp only [f_scan_scanner_next, qm, qzP, qp, qC, qD, qq, kC, qzN, qzT, qQ, zH, kN, jo, kT, qd, qi, qh, kO, reduceCtorEq, qK, qJ, qW, qE, kr, qy, qf, qR, ql, qzM, qY, hsk, qz, qg, qk, hm1, zl, qL, qr, qB, kU, qV, kp, hH1, kR, qzQ, qzO, qzW, ky, ke, qF, ju, qbK, yu, qw, jg, zS, zQ, jE, zR, yp, qAg, kc, zf, qn, ki, qzY, Nat.reduceEqDiff, ko, e1, decide_false, zx, zy, qA, qG, qzL, ↓reduceIte, kM, hix, qN, hlc, qH, hm2, zk, za, kh, hc, qcq, qcJ, qbr, qbR]
          exact ⟨_, rfl⟩
      | false =>
        rw [hlt] at hlc
        rw [if_neg (by simp)]
        cases hdt : cDg c with
        | true =>
          rw [hdt] at hdc
          rw [if_pos rfl]
          refine fin _ 44 (qmW hz hL hdt hH1) ?_ ?_
          · intro sm2 lo2 k t n a' hc _
            have hH2 : (zp H id (sc s a'))[id]? = some (sc s a') := yi hH
            simp only [tok] at hc
            simp only [f_scan_scanner_next, qm, qzP, qp, qC, qD, qq, kC, qzN, qzT, qQ, zH, kN, jo, kT, qd, qi, qh, kO, reduceCtorEq, qK, qJ, qW, qE, kr, qy, qf, qR, ql, qzM, qY, hsk, qz, qg, qk, hm1, zl, qL, qr, qB, kU, qV, kp, hH1, kR, qzQ, qzO, qzW, ky, ke, qF, ju, qbK, yu, qw, jg, zS, zQ, jE, zR, yp, qAg, kc, zf, qn, ki, qzY, Nat.reduceEqDiff, ko, e1, decide_false, zx, zy, qA, qG, qzL, ↓reduceIte, kM, hix, qN, hlc, qH, hm2, zk, za, kh, hdc, hc, qS, zw, zu, zr, qzS, qzV, Nat.reduceAdd, kg, kY, zz, ji, ku, zg, kS, kZ, kz, qU, qo, kE, zj, q9, qs, hH2, qcC, qfW, qdl, qkH, qaz, kD, Nat.reduceLT, kw, qzX, qzU, qdz, qa8, Nat.reduceLeDiff, jF, qz9, qz3, qAa, zE, jp, zD, ze, zo, qT, qO, qe, kV, zU, qj, qt, qZ, tok]
            exact ⟨_, rfl⟩
          · intro sm2 lo2 x a' hc _
            simp only [f_scan_scanner_next, qm, qzP, qp, qC, qD, qq, kC, qzN, qzT, qQ, zH, kN, jo, kT, qd, qi, qh, kO, reduceCtorEq, qK, qJ, qW, qE, kr, qy, qf, qR, ql, qzM, qY, hsk, qz, qg, qk, hm1, zl, qL, qr, qB, kU, qV, kp, hH1, kR, qzQ, qzO, qzW, ky, ke, qF, ju, qbK, yu, qw, jg, zS, zQ, jE, zR, yp, qAg, kc, zf, qn, ki, qzY, Nat.reduceEqDiff, ko, e1, decide_false, zx, zy, qA, qG, qzL, ↓reduceIte, kM, hix, qN, hlc, qH, hm2, zk, za, kh, hdc, hc, qcq, qcJ, qbr, qbR]
            exact ⟨_, rfl⟩
        | false =>
          rw [hdt] at hdc
          rw [if_neg (by simp)]
          by_cases h34 : c = 34
          · rw [if_pos h34]
            rw [decide_eq_true h34] at hq
            refine fin _ 46 (qp6 hz (by omega) hH1) ?_ ?_
            · intro sm2 lo2 k t n a' hc _
              have hH2 : (zp H id (sc s a'))[id]? = some (sc s a') := yi hH
              simp only [tok] at hc
              simp only [f_scan_scanner_next, qm, qzP, qp, qC, qD, qq, kC, qzN, qzT, qQ, zH, kN, jo, kT, qd, qi, qh, kO, reduceCtorEq, qK, qJ, qW, qE, kr, qy, qf, qR, ql, qzM, qY, hsk, qz, qg, qk, hm1, zl, qL, qr, qB, kU, qV, kp, hH1, kR, qzQ, qzO, qzW, ky, ke, qF, ju, qbK, yu, qw, jg, zS, zQ, jE, zR, yp, qAg, kc, zf, qn, ki, qzY, Nat.reduceEqDiff, ko, e1, decide_false, zx, zy, qA, qG, qzL, ↓reduceIte, kM, hix, qN, hlc, qH, hm2, zk, za, kh, hdc, kQ, hq, qP, hc, qS, zw, zu, zr, qzS, qzV, Nat.reduceAdd, kg, kY, zz, ji, ku, zg, kS, kZ, kz, qU, qo, kE, zj, q9, qs, hH2, qcC, qfW, qdl, qkH, qaz, kD, Nat.reduceLT, kw, qzX, qzU, qdz, qa8, Nat.reduceLeDiff, jF, qz9, qz3, qAa, zE, jp, zD, ze, zo, qT, qO, qe, kV, zU, qj, qt, qZ, tok]
              exact ⟨_, rfl⟩
            · intro sm2 lo2 x a' hc _
              simp only [f_scan_scanner_next, qm, qzP, qp, qC, qD, qq, kC, qzN, qzT, qQ, zH, kN, jo, kT, qd, qi, qh, kO, reduceCtorEq, qK, qJ, qW, qE, kr, qy, qf, qR, ql, qzM, qY, hsk, qz, qg, qk, hm1, zl, qL, qr, qB, kU, qV, kp, hH1, kR, qzQ, qzO, qzW, ky, ke, qF, ju, qbK, yu, qw, jg, zS, zQ, jE, zR, yp, qAg, kc, zf, qn, ki, qzY, Nat.reduceEqDiff, ko, e1, decide_false, zx, zy, qA, qG, qzL, ↓reduceIte, kM, hix, qN, hlc, qH, hm2, zk, za, kh, hdc, kQ, hq, qP, hc, qcq, qcJ, qbr, qbR]
              exact ⟨_, rfl⟩
          · rw [if_neg h34]
            rw [decide_eq_false h34] at hq
            refine fin _ 47 (qpD hs hz hL hH1) ?_ ?_
            · intro sm2 lo2 k t n a' hc _
              have hH2 : (zp H id (sc s a'))[id]? = some (sc s a') := yi hH
              simp only [tok] at hc
              simp only [f_scan_scanner_next, qm, qzP, qp, qC, qD, qq, kC, qzN, qzT, qQ, zH, kN, jo, kT, qd, qi, qh, kO, reduceCtorEq, qK, qJ, qW, qE, kr, qy, qf, qR, ql, qzM, qY, hsk, qz, qg, qk, hm1, zl, qL, qr, qB, kU, qV, kp, hH1, kR, qzQ, qzO, qzW, ky, ke, qF, ju, qbK, yu, qw, jg, zS, zQ, jE, zR, yp, qAg, kc, zf, qn, ki, qzY, Nat.reduceEqDiff, ko, e1, decide_false, zx, zy, qA, qG, qzL, ↓reduceIte, kM, hix, qN, hlc, qH, hm2, zk, za, kh, hdc, kQ, hq, qP, hc, qS, zw, zu, zr, qzS, qzV, Nat.reduceAdd, kg, kY, zz, ji, ku, zg, kS, kZ, kz, qU, qo, kE, zj, q9, qs, hH2, qcC, qfW, qdl, qkH, qaz, kD, Nat.reduceLT, kw, qzX, qzU, qdz, qa8, Nat.reduceLeDiff, jF, qz9, qz3, qAa, zE, jp, zD, ze, zo, qT, qO, qe, kV, zU, qj, qt, qZ, tok]
              exact ⟨_, rfl⟩
            · intro sm2 lo2 x a' hc _
              simp only [f_scan_scanner_next, qm, qzP, qp, qC, qD, qq, kC, qzN, qzT, qQ, zH, kN, jo, kT, qd, qi, qh, kO, reduceCtorEq, qK, qJ, qW, qE, kr, qy, qf, qR, ql, qzM, qY, hsk, qz, qg, qk, hm1, zl, qL, qr, qB, kU, qV, kp, hH1, kR, qzQ, qzO, qzW, ky, ke, qF, ju, qbK, yu, qw, jg, zS, zQ, jE, zR, yp, qAg, kc, zf, qn, ki, qzY, Nat.reduceEqDiff, ko, e1, decide_false, zx, zy, qA, qG, qzL, ↓reduceIte, kM, hix, qN, hlc, qH, hm2, zk, za, kh, hdc, kQ, hq, qP, hc, qcq, qcJ, qbr, qbR]
              exact ⟨_, rfl⟩
end W

set_option linter.unusedSimpArgs false
set_option linter.unusedVariables false
namespace W
open Go (IntKind BinOp UnOp)
set_option maxRecDepth 20000
structure Tk where
  k : Int
  p : Nat
  e : Nat
  t : List Nat
  n : Int
  deriving DecidableEq
def eTk (x : Tk) : D := .agg [.i .i64 x.k, .i .i64 x.p, .i .i64 x.e, .s x.t, .i .i32 x.n]
def qet (s : List Nat) : Nat → Nat → List Tk → Sum (Nat × Int) (List Tk)
  | 0, _, _ => .inl (0, 0)
  | f + 1, a, acc => match qj5 s a with
    | .bad p e => .inl (p, e)
    | .ok k p e t n => if k = 0 then .inr (acc ++ [⟨k, p, e, t, n⟩]) else qet s f e (acc ++ [⟨k, p, e, t, n⟩])
noncomputable def qsD (pg : Pg) (fn : Fn) (H : List Obj) (t : Nat) (rest : C) (r : Option (Ex × St)) : Option Cr :=
  match r with
  | some (.nrm, st) => deferred pg (exL pg) fn H t rest st
  | some (.ret, st) => qaG fn H st
  | some (.pan v, st) => leave H true v st
  | _ => none
theorem qpw {pg : Pg} {f : Nat} {fn : Fn} {vs : List V} {H : List Obj} {t : Nat} {rest : C} (hf : pg.fn f = some fn) (hn : fn.np = vs.length) (hd : fn.dfr = some (t, rest)) (hr : fn.rcv = none) :
    zF pg f vs H = qsD pg fn H t rest (exL pg fn.body { env := ye 0 vs, H, lo := H.length }) := by
  rw [qfE]
  simp only [jD, hf, hn, hd, hr, and_self, if_true, qsD]
  all_goals rfl
theorem qrB {pg : Pg} {fn : Fn} {H : List Obj} {t : Nat} {rest : C} {st : St} : qsD pg fn H t rest (some (.nrm, st)) = deferred pg (exL pg) fn H t rest st := rfl
theorem qgw {fn : Fn} {H : List Obj} {st : St} : qaG fn H st = qha H fn.own fn.res (some (.ret, st)) := rfl
theorem qqX {pg : Pg} {fn : Fn} {H : List Obj} {t : Nat} {rest : C} {st : St} : qsD pg fn H t rest (some (.ret, st)) = qaG fn H st := rfl
theorem qsF {i0 i1 : Nat} {H : List Obj} {lo : Nat} : ∃ e, exL pg f_scan_All_1.body ⟨(5, .d .ni) :: ye 0 [.ptr i0 0, .ptr i1 0], H, lo⟩ = some (.nrm, ⟨e, H, lo⟩) := by
  simp only [f_scan_All_1, qm, qzP, Nat.reduceAdd, qp, qC, qD, qq, qh, kO, qJ, qF, qE, qQ, ke, qd, qi, qn, ki, kx, qzR, kQ, qj4, qr, qA, qG, qzL, ↓reduceIte, qX]
  exact ⟨_, rfl⟩
theorem qqQ {i0 i1 : Nat} {H : List Obj} {lo : Nat} {p e : Int} {v : V} (h0 : H[i0]? = some (.cells [v])) (h1 : H[i1]? = some (.cells [.d .nil])) (hne : (i1 = i0) = False) : ∃ en lo', min lo (min i0 i1) ≤ lo' ∧
    exL pg f_scan_All_1.body ⟨(5, .ifc 66 (.d (.agg [.i .i64 p, .i .i64 e]))) :: ye 0 [.ptr i0 0, .ptr i1 0], H, lo⟩ = some (.nrm, ⟨en, zp (zp H i0 (.cells [.d .nil])) i1 (.cells [.osl [.agg [.i .i64 p, .i .i64 e]]]), lo'⟩) := by
  have h2 : (zp H i0 (.cells [.d .nil]))[i1]? = some (.cells [.d .nil]) := by rw [qcw hne]; exact h1
  simp only [f_scan_All_1, qm, qzP, Nat.reduceAdd, qp, qC, qD, qq, qh, kO, qJ, qcy, qE, qQ, qem, qd, qi, qn, ki, kx, qzR, kQ, qh2, qr, ke, qA, qF, qG, ↓reduceIte, Nat.reduceEqDiff, qK, qj8, qnI, zl, k9, zV, qbi, qbg, qbk, kC, qzN, qzT, zH, kN, ju, qbK, qqz, jo, kT, qS, zw, zu, zr, qzS, qzV, kg, kY, zz, ku, qzM, zg, Nat.reduceLT, qog, qzU, qzX, kZ, kz, qaR, qcH, qz6, qzW, qzL, qX, jg, zS, qB, qcC, qAg, zQ, qfW, qdl, qkH, zR, qV, qaz, qa8, Nat.reduceLeDiff, jF, qz9, qz3, qAa, ky, zE, jp, zD, ze, zo, yp, kP, qdZ, List.reduceReplicate, zI, zW, jk, qiE, qdo, qd1, jI, jl, qdb, reduceCtorEq, qW, qP, zc, h0, qlK, kD, kl, kw, kn, zx, qdz, zk, qiA, kh, h2, qlh, qnn, zy]
  refine ⟨_, _, ?_, rfl⟩
  omega
theorem qjy {x y a : Nat} {s : List Nat} (h : pre [x, y] (s.drop a) = true) : a + 2 ≤ s.length := by
  simp only [pre, decide_eq_true_eq] at h
  have := congrArg List.length h
  simp only [List.length_take, List.length_drop, qzS, qzV] at this
  omega
theorem qnN {s : List Nat} {j : Nat} {k : Int} {t : List Nat} {n : Int} {a' : Nat} (h : qiT s j = .ok k t n a') : j < a' ∧ a' ≤ s.length ∧ k ≠ 0 := by
  unfold qiT at h
  split at h
  · cases h
  · rename_i c l hL
    obtain ⟨hget, hdr, hlt⟩ := qkN hL
    split at h
    · rename_i hc
      have hle := qe7 cNm (s.drop j)
      have hk : 0 < run cNm (s.drop j) := by rw [hL]; simp [run, cNm, hc]
      simp only [List.length_drop] at hle
      unfold qi8 at h
      split at h
      · cases h
      · split at h
        · cases h; exact ⟨by omega, by omega, by decide⟩
        · cases h; exact ⟨by omega, by omega, by decide⟩
    · split at h
      · rename_i hc
        have hle := qe7 cHx (s.drop j)
        have hk : 0 < run cHx (s.drop j) := by rw [hL]; simp [run, cHx, hc]
        simp only [List.length_drop] at hle
        unfold qk4 at h
        split at h
        · rename_i hp
          have := qeh hp
          unfold qiP at h
          split at h
          · cases h
          · cases h; exact ⟨by omega, by omega, by decide⟩
        · split at h
          · rename_i hp
            have := qeh hp
            unfold qiP at h
            split at h
            · cases h
            · cases h; exact ⟨by omega, by omega, by decide⟩
          · unfold qiP at h
            split at h
            · cases h
            · cases h; exact ⟨by omega, by omega, by decide⟩
      · split at h
        · unfold qhm at h
          split at h
          · rename_i hp
            have := qeh hp
            split at h
            · cases h
            · cases h; exact ⟨by omega, by omega, by decide⟩
          · cases h
        · unfold qi4 at h
          split at h
          · rename_i hp
            have := qjy hp
            cases h; exact ⟨by omega, by omega, by decide⟩
          · split at h
            · rename_i hp
              have := qjy hp
              cases h; exact ⟨by omega, by omega, by decide⟩
            · split at h
              · rename_i hp
                have := qjy hp
                cases h; exact ⟨by omega, by omega, by decide⟩
              · split at h
                · rename_i hp
                  have := qjy hp
                  cases h; exact ⟨by omega, by omega, by decide⟩
                · split at h
                  · cases h
                  · cases h; exact ⟨by omega, by omega, by decide⟩
theorem qiM {s : List Nat} {a : Nat} (ha : a ≤ s.length) {k : Int} {p e : Nat} {t : List Nat} {n : Int} (h : qj5 s a = .ok k p e t n) : a ≤ p ∧ p ≤ e ∧ e ≤ s.length ∧ (k ≠ 0 → a < e) := by
  unfold qj5 at h
  split at h
  · cases h
  · rename_i j hj
    have hjl := qrb (s.drop a).length 0 a a (s.drop a) j (qzZ _) hj
    simp only [List.length_drop] at hjl
    split at h
    · cases h
      exact ⟨by omega, by omega, by omega, fun h => absurd rfl h⟩
    · generalize hr : qiT s j = r at h
      cases r with
      | ok k' t' n' a' =>
        have := qnN hr
        simp only [qos] at h
        cases h
        exact ⟨by omega, by omega, by omega, fun _ => by omega⟩
      | bad e => simp only [qos] at h; cases h
def ARes (b : Nat) (r : Sum (Nat × Int) (List Tk)) (X : Option (Ex × St)) : Prop :=
  match r with
  | .inr L' => ∃ e H' lo', b ≤ lo' ∧ get 2 e = .ptr b 0 ∧ get 3 e = .ptr (b + 1) 0 ∧ H'[b]? = some (.cells [.d (slD eTk L')]) ∧ H'[b + 1]? = some (.cells [.d .nil]) ∧ X = some (.ret, ⟨e, H', lo'⟩)
  | .inl (p, x) => ∃ e H' lo' v, b ≤ lo' ∧ get 2 e = .ptr b 0 ∧ get 3 e = .ptr (b + 1) 0 ∧ H'[b]? = some (.cells [v]) ∧ H'[b + 1]? = some (.cells [.d .nil]) ∧ X = some (.pan (.ifc 66 (.d (.agg [.i .i64 (p : Nat), .i .i64 x]))), ⟨e, H', lo'⟩)
theorem ARes.good {b : Nat} {L' : List Tk} {e : Env} {H' : List Obj} {lo' : Nat} {X : Option (Ex × St)} (h5 : X = some (.ret, ⟨e, H', lo'⟩)) (h1 : b ≤ lo') (h2 : get 2 e = .ptr b 0) (h3 : get 3 e = .ptr (b + 1) 0) (h4 : H'[b]? = some (.cells [.d (slD eTk L')])) (h6 : H'[b + 1]? = some (.cells [.d .nil])) : ARes b (.inr L') X :=
  ⟨e, H', lo', h1, h2, h3, h4, h6, h5⟩
theorem ARes.bad {b p : Nat} {x : Int} {e : Env} {H' : List Obj} {lo' : Nat} {v : V} {X : Option (Ex × St)} (h5 : X = some (.pan (.ifc 66 (.d (.agg [.i .i64 (p : Nat), .i .i64 x]))), ⟨e, H', lo'⟩)) (h1 : b ≤ lo') (h2 : get 2 e = .ptr b 0) (h3 : get 3 e = .ptr (b + 1) 0) (h4 : H'[b]? = some (.cells [v])) (h6 : H'[b + 1]? = some (.cells [.d .nil])) : ARes b (.inl (p, x)) X :=
  ⟨e, H', lo', v, h1, h2, h3, h4, h6, h5⟩
theorem qrK {s : List Nat} (hs : ∀ c ∈ s, c < 256) (hz : s.length ≤ 1000000000000) {b : Nat} :
    ∀ (f a : Nat) (L : List Tk) (H : List Obj) (lo : Nat), s.length - a < f → a ≤ s.length → L.length ≤ a → b ≤ lo → lo ≤ H.length → H[b]? = some (.cells [slV eTk L]) → H[b + 1]? = some (.cells [.d .nil]) → H[b + 2]? = some (sc s a) →
      ARes b (qet s f a L) (yd 0 [2, 3] (qel pg (.ptr b 0) (.ptr (b + 1) 0) (.ptr (b + 2) 0) H lo)) := by
  intro f
  induction f with
  | zero => intro a L H lo h; omega
  | succ f ih =>
    intro a L H lo hf ha hLa hlo hloH h0 h1 h2
    have hn := qpF hs hz ha h2
    rw [qiU, qet]
    have d1 : (b = b + 2) = False := by simp
    have d2 : (b + 1 = b + 2) = False := by simp
    generalize hr : qj5 s a = r at hn
    cases r with
    | bad p x =>
      obtain ⟨sm, lo1, a', g1, g2, g3, hc⟩ := hn
      have e0 : (zp H (b + 2) (sc s a'))[b]? = some (.cells [slV eTk L]) := by rw [qcw d1]; exact h0
      have e1 : (zp H (b + 2) (sc s a'))[b + 1]? = some (.cells [.d .nil]) := by rw [qcw d2]; exact h1
      refine ARes.bad (e := ?e) (lo' := min lo lo1) ?h5 (by omega) ?g2 ?g3 e0 e1
      case h5 =>
        simp only [qcz, kE, qw, qC, qD, qq, qh, kO, Nat.reduceEqDiff, qK, qJ, qW, qE, qQ, kr, qy, qzN, qzT, qf, qR, ql, qzM, qY, hc, qz, qg, qk, qcq, qbr, qcJ]
        rfl
      case g2 => rfl
      case g3 => rfl
    | ok k p e t n =>
      obtain ⟨sm, lo1, g1, g2, g3, hc⟩ := hn
      have hpr := qiM ha hr
      have e0 : (zp H (b + 2) (sc s e))[b]? = some (.cells [slV eTk L]) := by rw [qcw d1]; exact h0
      have e1 : (zp H (b + 2) (sc s e))[b + 1]? = some (.cells [.d .nil]) := by rw [qcw d2]; exact h1
      have e2 : (zp H (b + 2) (sc s e))[b + 2]? = some (sc s e) := yi h2
      have d3 : (b + 1 = b) = False := by simp
      have d4 : (b + 2 = b) = False := by simp
      have e3 : (zp (zp H (b + 2) (sc s e)) b (.cells [.undef]))[b]? = some (.cells [.undef]) := yi e0
      have happ : qaU 5 48 (slV eTk L) (.d (.sl [.agg [.i .i64 k, .i .i64 p, .i .i64 e, .s t, .i .i32 n]])) = some (slV eTk (L ++ [⟨k, p, e, t, n⟩])) :=
        qki (x := (⟨k, p, e, t, n⟩ : Tk)) (fun _ => rfl) (qkj (by omega) (by omega))
      simp only [tok] at hc
      have e4 : ∀ o, (zp (zp H (b + 2) (sc s e)) b o)[b]? = some o := fun o => yi e0
      have e5 : ∀ o, (zp (zp H (b + 2) (sc s e)) b o)[b + 1]? = some (.cells [.d .nil]) := fun o => by rw [qcw d3]; exact e1
      have e6 : ∀ o, (zp (zp H (b + 2) (sc s e)) b o)[b + 2]? = some (sc s e) := fun o => by rw [qcw d4]; exact e2
      by_cases hk : k = 0
      · subst hk
        have d5 : (b = b + 1) = False := by simp
        simp only [if_true]
        have key : ∃ e', yd 0 [2, 3] (yT pg (exL pg qcz ⟨[(2, kL (.ptr b 0)), (3, kL (.ptr (b + 1) 0)), (4, kL (.ptr (b + 2) 0))], H, lo⟩) qcA) = some (.ret, ⟨e', zp (zp (zp H (b + 2) (sc s e)) b (.cells [.d (slD eTk (L ++ [⟨0, p, e, t, n⟩]))])) (b + 1) (.cells [.d .nil]), min (min (min (min (min lo lo1) b) b) b) (b + 1)⟩) ∧ get 2 e' = .ptr b 0 ∧ get 3 e' = .ptr (b + 1) 0 := by
          simp only [qcz, kE, qw, qC, qD, qq, qh, kO, Nat.reduceEqDiff, qK, qJ, qW, qE, qQ, kr, qy, qzN, qzT, qf, qR, ql, qzM, qY, hc, qz, qg, qk, ke, kC, zH, kN, ju, jo, kT, qS, zk, za, zw, kh, zu, zr, qzS, qzV, qzP, Nat.reduceAdd, kg, kY, zz, ji, ku, zg, kS, kZ, kz, qd, qi, qii, e0, qzO, qzU, qfm, qV, qa8, Nat.reduceLeDiff, jF, qz9, qz3, qAa, ky, zE, jp, zD, ze, zo, qr, kP, qdZ, List.reduceReplicate, qF, Nat.reduceLT, zI, zW, jk, qiE, qdo, qd1, jI, jl, yz, qeP, qfJ, jc, happ, qgV, zc, e3, qlg, qmD, kl, kw, kn, kJ, qB, qcC, qAg, qe5, qaz, qiu, qzW, qn, ki, kx, qzR, kQ, ko, decide_true, qA, qG, ↓reduceIte, kp, e4, kR, qp2, qsJ, kD, qP, e5, qlK, qT, kK, kq]
          exact ⟨_, rfl, rfl, rfl⟩
        obtain ⟨e', k1, k2, k3⟩ := key
        exact ARes.good k1 (by omega) k2 k3 (by rw [qcw d5]; exact e4 _) (yi (e5 _))
      · have q1 : (k = 0) = False := eq_false hk
        simp only [hk, if_false]
        have ih' := ih e (L ++ [⟨k, p, e, t, n⟩]) (zp (zp H (b + 2) (sc s e)) b (.cells [slV eTk (L ++ [⟨k, p, e, t, n⟩])])) (min (min (min lo lo1) b) b) (by omega) (by omega) (by simp only [List.length_append, qzS, qzV]; omega) (by omega) (by simp only [qH]; omega) (e4 _) (e5 _) (e6 _)
        simp only [qcz, kE, qw, qC, qD, qq, qh, kO, Nat.reduceEqDiff, qK, qJ, qW, qE, qQ, kr, qy, qzN, qzT, qf, qR, ql, qzM, qY, hc, qz, qg, qk, ke, kC, zH, kN, ju, jo, kT, qS, zk, za, zw, kh, zu, zr, qzS, qzV, qzP, Nat.reduceAdd, kg, kY, zz, ji, ku, zg, kS, kZ, kz, qd, qi, qii, e0, qzO, qzU, qfm, qV, qa8, Nat.reduceLeDiff, jF, qz9, qz3, qAa, ky, zE, jp, zD, ze, zo, qr, kP, qdZ, List.reduceReplicate, qF, Nat.reduceLT, zI, zW, jk, qiE, qdo, qd1, jI, jl, yz, qeP, qfJ, jc, happ, qgV, zc, e3, qlg, qmD, kl, kw, kn, kJ, qB, qcC, qAg, qe5, qaz, qiu, qzW, qn, ki, kx, qzR, kQ, ko, q1, decide_false, qA, qG, qzL, ↓reduceIte, qX, qU, qo, qs, qfO]
        exact ih'
theorem qmu {pg : Pg} {fn : Fn} {H : List Obj} {t hd : Nat} {first cap : List V} {rest : C} {st st' : St} (h : get t st.env = .fn hd first cap) (hk : V.ok.oks (first ++ cap) = true) (hx : exL pg rest st = some (.ret, st')) : deferred pg (exL pg) fn H t rest st = handle pg (exL pg) fn H hd (first ++ cap) (.d .ni) st' := by
  simp only [deferred, h, hk, hx, cond_true]
theorem qmy {pg : Pg} {fn : Fn} {H : List Obj} {t hd : Nat} {first cap : List V} {rest : C} {st st' : St} {v : V} (h : get t st.env = .fn hd first cap) (hk : V.ok.oks (first ++ cap) = true) (hx : exL pg rest st = some (.pan v, st')) (hv : qru v = true) : deferred pg (exL pg) fn H t rest st = handle pg (exL pg) fn H hd (first ++ cap) v st' := by
  simp only [deferred, h, hk, hx, hv, cond_true]
theorem qj1 {pg : Pg} {fn hf : Fn} {H : List Obj} {hd d : Nat} {vs : List V} {v : V} {st st' : St} (h1 : pg.fn hd = some hf) (h2 : hf.rcv = some d) (h3 : (qz5 hf.np vs.length && hf.res.isEmpty) = true) (hx : exL pg hf.body ⟨(d, v) :: ye 0 vs, st.H, st.lo⟩ = some (.nrm, st')) :
    handle pg (exL pg) fn H hd vs v st = qaG fn H ⟨st.env, st'.H, st'.lo⟩ := by
  simp only [handle, h1, h2, h3, hx, cond_true]
theorem qw8 {s : List Nat} (hs : ∀ c ∈ s, c < 256) (hz : s.length ≤ 1000000000000) {H : List Obj} {e : Env} (g0 : get 0 e = .d (.s s)) (g2 : get 2 e = .ptr H.length 0) (g3 : get 3 e = .ptr (H.length + 1) 0) :
    ARes H.length (qet s (s.length + 1) 0 []) (exL pg qf2 ⟨e, H ++ [.cells [.d .nil]] ++ [.cells [.d .nil]], H.length⟩) := by
  have hl := qrK hs hz (b := H.length) (s.length + 1) 0 [] (H ++ [.cells [.d .nil]] ++ [.cells [.d .nil]] ++ [sc s 0]) H.length (by omega) (by omega) (by simp) (qzZ _) (by simp) (by simp [slV]) (by simp) (by simp)
  have hz0 : ((0 : Nat) : Int) = 0 := rfl
  have hs0 : slV eTk [] = .d .nil := rfl
  simp only [qf2, qC, qX, qi, qD, qq, qh, kO, g0, qF, qE, qQ, ke, zn, qzN, qzT, qJ, ji, kD, kY, qzS, qzV, qzP, Nat.reduceAdd, Nat.reduceLT, jS, qzU, zK, zL, zE, jp, zD, ze, zo, qr, qll, zr, kg, zz, ku, qzM, qrz, List.length_append, kr, qW, qd, qw, qfO, Nat.reduceEqDiff, qK, g2, kE, g3]
  exact hl
theorem qrA {s : List Nat} (hs : ∀ c ∈ s, c < 256) (hz : s.length ≤ 1000000000000) {H : List Obj} :
    ∃ lo, H.length ≤ lo ∧ zF pg 16 [.d (.s s)] H = some ⟨false, true, (if 20000 < s.length then .tup [.d .nil, .d (.sl [.agg [.i .i64 20000, .i .i64 34]])] else match qet s (s.length + 1) 0 [] with
      | .inr L => .tup [.d (slD eTk L), .d .nil]
      | .inl (p, x) => .tup [.d .nil, .d (.sl [.agg [.i .i64 (p : Nat), .i .i64 x]])]), H, lo⟩ := by
  rw [qpw (fn := f_scan_All) rfl rfl rfl rfl]
  have a0 : (H ++ [Obj.cells [.d .nil]])[H.length]? = some (.cells [.d .nil]) := by simp
  have a1 : ((H ++ [Obj.cells [.d .nil]]) ++ [Obj.cells [.d .nil]])[H.length]? = some (.cells [.d .nil]) := by simp
  have a2 : ((H ++ [Obj.cells [.d .nil]]) ++ [Obj.cells [.d .nil]])[H.length + 1]? = some (.cells [.d .nil]) := by simp
  have d3 : (H.length + 1 = H.length) = False := by simp
  have d5 : (H.length = H.length + 1) = False := by simp
  have b1 : ∀ o, (zp ((H ++ [Obj.cells [.d .nil]]) ++ [Obj.cells [.d .nil]]) H.length o)[H.length + 1]? = some (.cells [.d .nil]) := fun o => by rw [qcw d3]; exact a2
  have b2 : ∀ o o', (zp (zp ((H ++ [Obj.cells [.d .nil]]) ++ [Obj.cells [.d .nil]]) H.length o) (H.length + 1) o')[H.length]? = some o := fun o o' => by rw [qcw d5]; exact yi a1
  have b3 : ∀ o o', (zp (zp ((H ++ [Obj.cells [.d .nil]]) ++ [Obj.cells [.d .nil]]) H.length o) (H.length + 1) o')[H.length + 1]? = some o' := fun o o' => yi (b1 o)
  by_cases h1 : 20000 < s.length
  · have e1 : ((20000 : Int) < (s.length : Int)) = True := by rw [eq_iff_iff]; simp; omega
    rw [if_pos h1]
    simp only [f_scan_All, qm, qzP, qp, qC, qD, qq, qjc, qzN, qzT, qQ, kr, List.length_append, qzS, qzV, qd, qi, qh, kO, reduceCtorEq, qK, qJ, qF, qE, ke, kc, zf, qr, qn, ki, kx, qzR, kQ, jz, e1, decide_true, qA, qG, ↓reduceIte, zn, zz, kD, kY, Nat.reduceAdd, Nat.reduceLT, jS, qzU, qzX, zK, zL, zE, jp, zD, ze, zo, kP, qdZ, List.reduceReplicate, zI, zW, jk, qiE, qdo, qd1, qzM, jI, jl, yz, qS, Nat.reduceEqDiff, qW, qP, zc, a1, qlK, kg, ku, kl, kw, kn, qAb, kz, zk, qiA, kh, b1, qlh, qnn, qT, kq, qqX, qgw, qO, qe, kV, qkC, kp, b2, kR, qzO, qzW, ky, b3, qlb, qj, qt, je]
    refine ⟨_, ?_, qd4 rfl (Nat.zero_le _) (by simp only; omega)⟩
    simp only; omega
  · have e1 : ((20000 : Int) < (s.length : Int)) = False := by rw [eq_iff_iff]; simp; omega
    rw [if_neg h1]
    have hb : ∃ e, get 0 e = .d (.s s) ∧ get 2 e = .ptr H.length 0 ∧ get 3 e = .ptr (H.length + 1) 0 ∧ get 11 e = .fn 27 [] [.ptr H.length 0, .ptr (H.length + 1) 0] ∧ exL pg f_scan_All.body ⟨ye 0 [.d (.s s)], H, H.length⟩ = some (.nrm, ⟨e, H ++ [.cells [.d .nil]] ++ [.cells [.d .nil]], H.length⟩) := by
      simp only [f_scan_All, qm, qzP, qp, qC, qD, qq, qjc, qzN, qzT, qQ, kr, List.length_append, qzS, qzV, qd, qi, qh, kO, reduceCtorEq, qK, qJ, qF, qE, ke, kc, zf, qr, qn, ki, kx, qzR, kQ, jz, e1, decide_false, qA, qG, qzL, ↓reduceIte, qX, qoT, Nat.reduceEqDiff, qW, ja, jj, quq, qzM, qrE, quj]
      exact ⟨_, rfl, rfl, rfl, rfl, rfl⟩
    obtain ⟨e, g0, g2, g3, g11, hb⟩ := hb
    rw [hb, qrB]
    have hD := qw8 hs hz g0 g2 g3
    generalize qet s (s.length + 1) 0 [] = r at hD
    cases r with
    | inr L =>
      obtain ⟨e', H', lo', k1, k2, k3, k4, k5, k6⟩ := hD
      rw [qmu g11 rfl k6]
      obtain ⟨e2, hh⟩ := qsF (i0 := H.length) (i1 := H.length + 1) (H := H') (lo := lo')
      rw [qj1 (hf := f_scan_All_1) (d := 5) rfl rfl rfl hh, qgw]
      have hr : f_scan_All.res = [.cell 2 ⟨1, false⟩, .cell 3 ⟨1, false⟩] := rfl
      have ho : f_scan_All.own = false := rfl
      simp only [ho, hr, qO, qe, kV, k2, qkC, kp, k4, kR, qzO, qzW, ky, k3, k5, qj, qt, je]
      exact ⟨_, k1, qd4 rfl (Nat.zero_le _) k1⟩
    | inl q =>
      obtain ⟨p, x⟩ := q
      obtain ⟨e', H', lo', v, k1, k2, k3, k4, k5, k6⟩ := hD
      rw [qmy g11 rfl k6 rfl]
      obtain ⟨e2, lo2, hlo, hh⟩ := qqQ (p := (p : Int)) (e := x) (lo := lo') k4 k5 d3
      rw [qj1 (hf := f_scan_All_1) (d := 5) rfl rfl rfl hh, qgw]
      have hr : f_scan_All.res = [.cell 2 ⟨1, false⟩, .cell 3 ⟨1, false⟩] := rfl
      have ho : f_scan_All.own = false := rfl
      have q1 : (zp H' H.length (.cells [.d .nil]))[H.length + 1]? = some (.cells [.d .nil]) := by rw [qcw d3]; exact k5
      have q2 : ∀ o', (zp (zp H' H.length (.cells [.d .nil])) (H.length + 1) o')[H.length]? = some (.cells [.d .nil]) := fun o' => by rw [qcw d5]; exact yi k4
      have q3 : ∀ o', (zp (zp H' H.length (.cells [.d .nil])) (H.length + 1) o')[H.length + 1]? = some o' := fun o' => yi q1
      simp only [ho, hr, qO, qe, kV, k2, qkC, kp, q2, kR, qzO, qzW, ky, k3, q3, qlb, qj, qt, je]
      refine ⟨_, ?_, qd4 rfl (Nat.zero_le _) (by simp only; omega)⟩
      simp only; omega
end W

