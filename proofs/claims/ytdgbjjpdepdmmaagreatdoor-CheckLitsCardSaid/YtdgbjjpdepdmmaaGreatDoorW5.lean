/-
  CheckLits: which constants are right, of any type; both checkers, of any constant: part 5 of what the proof rests on (a value semantics for a part of the language, sound against the model; the walks).
-/
import Derived.Below
import Derived.Test.YtdgbjjpdepdmmaaGreatDoorW4
/-
  What an operation looks at, and what it changes.
-/
set_option linter.unusedSimpArgs false
set_option linter.unusedVariables false
open Bool renaming false_eq_true → qDt, and_self → qDA, and_eq_true → qDB, or_true → qDC, cond_eq_ite → qDH, or_self → qDJ, not_true → qDL, not_false → qDM
open List renaming getElem?_cons_zero → qDu, getElem?_cons_succ → qDv, map_cons → qDy, length_nil → qDD, length_cons → qDE, map_nil → qDF, set_cons_zero → qDK, take_succ_cons → qDN, set_cons_succ → qDO, drop_zero → qDQ, take_zero → qDT, drop_succ_cons → qDX
open Option renaming map_some → qDw, bind_eq_some_iff → qDI, bind_eq_bind → qDP, pure_def → qDV
open Nat renaming le_refl → qDx, zero_add → qDz, beq → qDG, eq_of_beq_eq_true → qDR, zero_le → qDS, add_zero → qDU
open Int renaming cast_ofNat_Int → qDW
namespace W
open Go (IntKind BinOp UnOp)
structure Fr (k : OpK) (st st2 : St) (r r2 : Or) : Prop where
  pan : r2.pan = r.pan
  same : r2.same = r.same
  v : r2.v = r.v
  inn : ∀ s, s ∈ k.boxW → get s r2.st.env = get s r.st.env
  out1 : ∀ s, s ∉ k.boxW → get s r.st.env = get s st.env
  out2 : ∀ s, s ∉ k.boxW → get s r2.st.env = get s st2.env
  H1 : k.free = true → r.same = true → r.st.H = st.H ∧ r2.st.H = st2.H
  H2 : st2.H = st.H → r2.st.H = r.st.H
  lp : ∀ n, qcA n r.st.env = qcA n st.env
  lp2 : ∀ n, qcA n r2.st.env = qcA n st2.env
def qDq (k : OpK) (e e2 : Env) : Prop := ∀ s, s ∈ yB k.rds ∨ s ∈ k.boxR → get s e2 = get s e
theorem qht {e e2 : Env} {x : O} (h : ∀ s, s ∈ yB [x] → get s e2 = get s e) : rd e2 x = rd e x := by
  cases x with
  | t n => simp only [rd]; rw [h n (by simp [yB])]
  | mv n => simp only [rd]; rw [h n (by simp [yB])]
  | c x => rfl
  | f i => rfl
  | g i x => rfl
theorem qcj (a b : List O) : yB (a ++ b) = yB a ++ yB b := by
  induction a with
  | nil => rfl
  | cons x l ih => cases x <;> simp [yB, ih]
theorem qa9 (x : O) (l : List O) : yB (x :: l) = yB [x] ++ yB l := qcj [x] l
theorem qgu {e e2 : Env} : ∀ {l : List O}, (∀ s, s ∈ yB l → get s e2 = get s e) → l.map (rd e2) = l.map (rd e)
  | [], _ => rfl
  | x :: l, h => by
    rw [qa9] at h
    simp only [qDy]
    rw [qht (fun s hs => h s (by simp [hs])), qgu (fun s hs => h s (by simp [hs]))]
theorem qcJ {e e2 : Env} {x : Option O} (h : ∀ s, s ∈ yB x.toList → get s e2 = get s e) : j3 e2 x = j3 e x := by
  cases x with
  | none => rfl
  | some x => simp only [j3]; rw [qht (x := x) (by simpa using h)]
theorem qiJ (n : Nat) (x : O) (e : Env) : qcA n (spent x e) = qcA n e := by cases x <;> rfl
theorem qdw (n : Nat) : ∀ (l : List O) (e : Env), qcA n (spentAll l e) = qcA n e
  | [], _ => rfl
  | x :: l, e => by simp only [spentAll]; rw [qdw n l, qiJ]
theorem qfv (x : O) (e : Env) (k : Nat) : get k (spent x e) = if k ∈ qa5 [x] then .undef else get k e := yO [x] e k
variable {st st2 : St} {r : Or}
theorem qnp {k : OpK} (hst : r.st = st) {r2 : Or} (h2 : r2 = { r with st := st2 }) (hW : ∀ s, s ∈ k.boxW → get s st2.env = get s st.env) : Fr k st st2 r r2 := by
  subst h2
  refine ⟨rfl, rfl, rfl, fun s hs => (by rw [hst]; exact hW s hs), fun s _ => (by rw [hst]), fun s _ => rfl, fun _ _ => ⟨by rw [hst], rfl⟩, fun h => (by rw [hst]; exact h), fun n => (by rw [hst]), fun n => rfl⟩
theorem qgE {k : OpK} {l : List O} {v : V} (hW : k.boxW = qa5 l) {same : Bool} {pan : Bool} {H' H2' : List Obj} {lo lo2 : Nat} (h1 : k.free = true → same = true → H' = st.H ∧ H2' = st2.H) (h2 : st2.H = st.H → H2' = H') :
    Fr k st st2 ⟨pan, same, v, { env := spentAll l st.env, H := H', lo := lo }⟩ ⟨pan, same, v, { env := spentAll l st2.env, H := H2', lo := lo2 }⟩ := by
  refine ⟨rfl, rfl, rfl, fun s hs => ?_, fun s hs => ?_, fun s hs => ?_, h1, h2, fun n => qdw n l _, fun n => qdw n l _⟩
  · rw [hW] at hs; simp only [yO, hs, if_true]
  · rw [hW] at hs; simp only [yO, hs, if_false]
  · rw [hW] at hs; simp only [yO, hs, if_false]
theorem zL {v : V} (h : ok v st = some r) : r.st = st ∧ ok v st2 = some { r with st := st2 } := by
  simp only [ok, Option.some.injEq] at h; subst h; exact ⟨rfl, rfl⟩
theorem qzV {c a b : O} (h : qg8 c a b st = some r) (e1 : rd st2.env c = rd st.env c) (e2 : rd st2.env a = rd st.env a) (e3 : rd st2.env b = rd st.env b) : r.st = st ∧ qg8 c a b st2 = some { r with st := st2 } := by
  unfold qg8 at h ⊢; rw [e1, e2, e3]
  split at h
  · rename_i hz; (try simp only [hz]); exact zL h
  · cases h
theorem qwY {z : List D} {p : List (Nat × Nat × O)} (h : qeL z p st = some r) (e : (p.map fun (o, s, x) => (o, s, rd st2.env x)) = (p.map fun (o, s, x) => (o, s, rd st.env x))) : r.st = st ∧ qeL z p st2 = some { r with st := st2 } := by
  unfold qeL at h ⊢; rw [e]
  cases hk : qcs (p.map fun (o, s, x) => (o, s, rd st.env x)) with
  | false => rw [hk] at h; simp at h
  | true =>
    rw [hk] at h
    simp only [qDL, cond_false] at h ⊢
    split at h
    · rename_i hz; (try simp only [hz]); exact zL h
    · cases h
theorem qnX {z : D} {n : Nat} {p : List (Nat × O)} (h : qa8 z n p st = some r) (e : (p.map fun (j, x) => (j, rd st2.env x)) = (p.map fun (j, x) => (j, rd st.env x))) : r.st = st ∧ qa8 z n p st2 = some { r with st := st2 } := by
  unfold qa8 at h ⊢; rw [e]
  split at h
  · rename_i hz; (try simp only [hz])
    split at h
    · rename_i hw; (try simp only [hw, if_true]); exact zL h
    · cases h
  · cases h
theorem qu3 {z : List D} {p : List (Nat × Nat × O)} (h : qdH z p st = some r) (e : (p.map fun (o, s, x) => (o, s, rd st2.env x)) = (p.map fun (o, s, x) => (o, s, rd st.env x))) : r.st = st ∧ qdH z p st2 = some { r with st := st2 } := by
  unfold qdH at h ⊢; rw [e]
  cases hk : qcs (p.map fun (o, s, x) => (o, s, rd st.env x)) with
  | false => rw [hk] at h; simp at h
  | true =>
    rw [hk] at h
    simp only [qDL, cond_false] at h ⊢
    split at h
    · rename_i hz; (try simp only [hz]); exact zL h
    · cases h
theorem qoO {z : D} {n : Nat} {p : List (Nat × O)} (h : qbA z n p st = some r) (e : (p.map fun (j, x) => (j, rd st2.env x)) = (p.map fun (j, x) => (j, rd st.env x))) : r.st = st ∧ qbA z n p st2 = some { r with st := st2 } := by
  unfold qbA at h ⊢; rw [e]
  split at h
  · rename_i hz; (try simp only [hz])
    split at h
    · rename_i hw; (try simp only [hw, if_true]); exact zL h
    · cases h
  · cases h
theorem qqL {x : O} (h : qcz x st = some r) (e1 : rd st2.env x = rd st.env x) : r.st = st ∧ qcz x st2 = some { r with st := st2 } := by
  unfold qcz at h ⊢; rw [e1]
  split at h
  · rename_i hz; (try simp only [hz]); exact zL h
  · rename_i hz; (try simp only [hz]); exact zL h
  · rename_i hz; (try simp only [hz]); exact zL h
  · cases h
theorem qCv {op : BinOp} {kd : Kd} {x y : O} (h : qkC op kd x y st = some r) (e1 : rd st2.env x = rd st.env x) (e2 : rd st2.env y = rd st.env y) : r.st = st ∧ qkC op kd x y st2 = some { r with st := st2 } := by
  unfold qkC at h ⊢; rw [e1, e2]
  split at h
  · rename_i hz; (try simp only [hz]); exact zL h
  · cases h
theorem qDj {op : UnOp} {x : O} (h : eUn op x st = some r) (e1 : rd st2.env x = rd st.env x) : r.st = st ∧ eUn op x st2 = some { r with st := st2 } := by
  unfold eUn at h ⊢; rw [e1]
  split at h
  · rename_i hz; (try simp only [hz])
    split at h
    · rename_i hw; (try simp only [hw]); exact zL h
    · cases h
  · cases h
theorem qAR {k : IntKind} {x : O} (h : qhr k x st = some r) (e1 : rd st2.env x = rd st.env x) : r.st = st ∧ qhr k x st2 = some { r with st := st2 } := by
  unfold qhr at h ⊢; rw [e1]
  split at h
  · rename_i hz; (try simp only [hz]); exact zL h
  · cases h
theorem qwC {x : O} (h : qfL x st = some r) (e1 : rd st2.env x = rd st.env x) : r.st = st ∧ qfL x st2 = some { r with st := st2 } := by
  unfold qfL at h ⊢; rw [e1]
  split at h
  · rename_i hz; (try simp only [hz]); exact zL h
  · cases h
theorem qze {x : O} (h : qho x st = some r) (e1 : rd st2.env x = rd st.env x) (hH : st2.H = st.H) : r.st = st ∧ qho x st2 = some { r with st := st2 } := by
  unfold qho at h ⊢; rw [e1, hH]
  simp only [qDH] at h ⊢
  split at h
  · rename_i hz; (try simp only [hz]); exact zL h
  · rename_i hz; (try simp only [hz])
    split at h
    · rename_i hw; (try simp only [hw]); exact zL h
    · cases h
  · rename_i hz; (try simp only [hz])
    split at h
    · rename_i hw; (try simp only [hw])
      split at h
      · rename_i hw2; (try simp only [hw2, if_true])
        split at h
        · rename_i hw3; (try simp only [hw3])
          split at h
          · rename_i hw4; (try simp only [hw4]); exact zL h
          · cases h
        · cases h
      · cases h
    · cases h
  · cases h
theorem qzZ {x : O} (h : qhB x st = some r) (e1 : rd st2.env x = rd st.env x) : r.st = st ∧ qhB x st2 = some { r with st := st2 } := by
  unfold qhB at h ⊢; rw [e1]
  split at h
  · rename_i hz; (try simp only [hz]); exact zL h
  · cases h
theorem qwv {t : Nat} {x : O} (h : qgS t x st = some r) (e1 : rd st2.env x = rd st.env x) : r.st = st ∧ qgS t x st2 = some { r with st := st2 } := by
  unfold qgS at h ⊢; rw [e1]
  split at h
  · rename_i hz; (try simp only [hz, if_true]); exact zL h
  · cases h
theorem qp1 {t : Nat} {z : D} {x : O} (h : qcw t z x st = some r) (e1 : rd st2.env x = rd st.env x) : r.st = st ∧ qcw t z x st2 = some { r with st := st2 } := by
  unfold qcw at h ⊢; rw [e1]
  split at h
  · rename_i t' v hz
    (try simp only [hz])
    cases hb : qDG t' t with
    | true => simp only [hb, cond_true] at h ⊢; exact zL h
    | false => simp only [hb, cond_false] at h ⊢; exact zL h
  · rename_i hz; (try simp only [hz]); exact zL h
  · cases h
theorem qzx {f : Nat} {a b : List O} (h : qi3 f a b st = some r) (e1 : a.map (rd st2.env) = a.map (rd st.env)) (e2 : b.map (rd st2.env) = b.map (rd st.env)) : r.st = st ∧ qi3 f a b st2 = some { r with st := st2 } := by
  unfold qi3 at h ⊢; rw [e1, e2]
  split at h
  · rename_i hz; (try simp only [hz, if_true]); exact zL h
  · cases h
theorem qvO {x : O} {a b : Option O} (h : qet x a b st = some r) (e1 : rd st2.env x = rd st.env x) (e2 : j3 st2.env a = j3 st.env a) (e3 : j3 st2.env b = j3 st.env b) : r.st = st ∧ qet x a b st2 = some { r with st := st2 } := by
  unfold qet at h ⊢; rw [e1, e2, e3]
  split at h
  · rename_i hz1 hz2; (try simp only [hz1, hz2])
    split at h
    · rename_i hw; (try simp only [hw]); exact zL h
    · cases h
  · cases h
theorem qu0 {n : Nat} {x : O} {a b : Option O} (h : qd6 n x a b st = some r) (e1 : rd st2.env x = rd st.env x) (e2 : j3 st2.env a = j3 st.env a) (e3 : j3 st2.env b = j3 st.env b) : r.st = st ∧ qd6 n x a b st2 = some { r with st := st2 } := by
  unfold qd6 at h ⊢; rw [e1, e2, e3]
  split at h
  · rename_i hz1 hz2; (try simp only [hz1, hz2])
    split at h
    · rename_i hw; (try simp only [hw]); exact zL h
    · cases h
  · cases h
theorem qvM {n : Nat} {x : O} {a b : Option O} (h : qd3 n x a b st = some r) (e1 : rd st2.env x = rd st.env x) (e2 : j3 st2.env a = j3 st.env a) (e3 : j3 st2.env b = j3 st.env b) : r.st = st ∧ qd3 n x a b st2 = some { r with st := st2 } := by
  unfold qd3 at h ⊢; rw [e1, e2, e3]
  split at h
  · rename_i hz1 hz2; (try simp only [hz1, hz2])
    split at h
    · rename_i hw; (try simp only [hw]); exact zL h
    · cases h
  · cases h
theorem qvY {n : Nat} {x : O} {a : Option O} {b m : O} (h : qd9 n x a b m st = some r) (e1 : rd st2.env x = rd st.env x) (e2 : j3 st2.env a = j3 st.env a) (e3 : rd st2.env b = rd st.env b) (e4 : rd st2.env m = rd st.env m) : r.st = st ∧ qd9 n x a b m st2 = some { r with st := st2 } := by
  unfold qd9 at h ⊢; rw [e1, e2, e3, e4]
  split at h
  · rename_i hz1 hz2 hz3; (try simp only [hz1, hz2, hz3])
    split at h
    · rename_i hw; (try simp only [hw]); exact zL h
    · cases h
  · cases h
theorem qoX {x : O} {o : Nat} {l : L} (h : qaS x o l st = some r) (e1 : rd st2.env x = rd st.env x) : r.st = st ∧ qaS x o l st2 = some { r with st := st2 } := by
  unfold qaS at h ⊢; rw [e1]
  split at h
  · rename_i hz; (try simp only [hz]); exact zL h
  · rename_i hz; (try simp only [hz]); exact zL h
  · rename_i hz; (try simp only [hz])
    split at h
    · rename_i hw; (try simp only [hw])
      split at h
      · rename_i hq; (try simp only [hq, if_true]); exact zL h
      · cases h
    · cases h
  · cases h
theorem qxn {x : O} {o : Nat} {l : L} (h : qfP x o l st = some r) (e1 : rd st2.env x = rd st.env x) : r.st = st ∧ qfP x o l st2 = some { r with st := st2 } := by
  unfold qfP at h ⊢; rw [e1]
  split at h
  · rename_i hz; (try simp only [hz])
    split at h
    · rename_i hw; (try simp only [hw]); exact zL h
    · cases h
  · rename_i hz; (try simp only [hz])
    split at h
    · rename_i hw; (try simp only [hw]); exact zL h
    · cases h
  · cases h
theorem qoy {x i : O} {n : Nat} {arr : Option Nat} (h : qal x i n arr st = some r) (e1 : rd st2.env x = rd st.env x) (e2 : rd st2.env i = rd st.env i) : r.st = st ∧ qal x i n arr st2 = some { r with st := st2 } := by
  unfold qal at h ⊢; rw [e2]
  split at h
  · rename_i hz; (try simp only [hz])
    cases arr with
    | some len =>
      simp only [qdj, qDH, e1] at h ⊢
      split at h
      · rename_i hw; (try simp only [hw, if_true])
        split at h
        · rename_i hq; (try simp only [hq]); exact zL h
        · rename_i hq; (try simp only [hq]); exact zL h
        · rename_i hq; (try simp only [hq])
          split at h
          · rename_i hq1; (try simp only [hq1, if_true])
            split at h
            · rename_i hq2; (try simp only [hq2])
              split at h
              · rename_i hq3; (try simp only [hq3, if_true]); exact zL h
              · cases h
            · cases h
          · cases h
        · cases h
      · cases h
    | none =>
      simp only [qdl, qDH, e1] at h ⊢
      split at h
      · rename_i hw; (try simp only [hw, if_true])
        split at h
        · rename_i hq; (try simp only [hq])
          split at h
          · rename_i hq2; (try simp only [hq2])
            split at h
            · rename_i hq3; (try simp only [hq3, if_true]); exact zL h
            · cases h
          · cases h
        · rename_i hq; (try simp only [hq])
          split at h
          · rename_i hq3; (try simp only [hq3, if_true]); exact zL h
          · cases h
        · cases h
      · cases h
  · cases h
theorem qxs {x i : O} (h : qfB x i st = some r) (e1 : rd st2.env x = rd st.env x) (e2 : rd st2.env i = rd st.env i) : r.st = st ∧ qfB x i st2 = some { r with st := st2 } := by
  unfold qfB at h ⊢; rw [e1, e2]
  split at h
  · rename_i hz1 hz2; (try simp only [hz1, hz2, qDH] at h ⊢)
    split at h
    · rename_i hw; (try simp only [hw, if_true])
      split at h
      · rename_i hq; (try simp only [hq]); exact zL h
      · cases h
    · cases h
  · cases h
theorem qvF {kk : Nat} {z : D} {m k : O} {c : Bool} (h : qeb kk z m k c st = some r) (e1 : rd st2.env m = rd st.env m) (e2 : rd st2.env k = rd st.env k) (eH : st2.H = st.H) : r.st = st ∧ qeb kk z m k c st2 = some { r with st := st2 } := by
  unfold qeb at h ⊢; rw [e1, e2]
  split at h
  · rename_i hz1 hz2; (try simp only [hz1, hz2])
    split at h
    · rename_i hw; (try simp only [hw, if_true]); exact zL h
    · cases h
  · rename_i hz1 hz2; (try simp only [hz1, hz2, eH])
    split at h
    · rename_i hw; (try simp only [hw])
      split at h
      · rename_i hq; (try simp only [hq, if_true])
        split at h
        · rename_i hq2; (try simp only [hq2]); exact zL h
        · rename_i hq2; (try simp only [hq2]); exact zL h
        · cases h
      · cases h
    · cases h
  · cases h
theorem qtb {x : O} {i : Nat} (h : qda x i st = some r) (e : ∀ s, s ∈ yB [x] → get s st2.env = get s st.env) : r.st = st ∧ qda x i st2 = some { r with st := st2 } := by
  unfold qda at h ⊢
  split at h
  · rename_i n
    rw [e n (by simp [yB])]
    split at h
    · rename_i hz; (try simp only [hz])
      split at h
      · rename_i hw; (try simp only [hw]); exact zL h
      · cases h
    · cases h
  · cases h
end W

/-
  What an operation looks at, and what it changes: those that change something.
-/
set_option linter.unusedSimpArgs false
set_option linter.unusedVariables false
namespace W
open Go (IntKind BinOp UnOp)
variable {st st2 : St} {r : Or}
theorem qsO {v : V} (h : ∀ m o, v ≠ .lp m o) (n k : Nat) (e : Env) : qcA n ((k, v) :: e) = qcA n e := by
  cases v <;> first | rfl | exact absurd rfl (h _ _)
theorem qBM {x : O} (h : qnu x st = some r) (e1 : rd st2.env x = rd st.env x) : ∃ r2, qnu x st2 = some r2 ∧ Fr (.mov x) st st2 r r2 := by
  simp only [qnu, ok, Option.some.injEq] at h ⊢
  subst h
  refine ⟨_, rfl, ?_⟩
  rw [e1]
  exact qgE (l := [x]) rfl (fun _ _ => ⟨rfl, rfl⟩) (fun h => h)
theorem qxS {loc : Bool} {z : List D} (h : qgi loc z st = some r) (eH : (!loc) = true → st2.H = st.H) : ∃ r2, qgi loc z st2 = some r2 ∧ Fr (.alloc loc z) st st2 r r2 := by
  cases loc with
  | true =>
    simp only [qgi, cond_true] at h ⊢
    obtain ⟨h1, h2⟩ := zL (st2 := st2) h
    exact ⟨_, h2, qnp h1 rfl (fun s hs => by cases hs)⟩
  | false =>
    simp only [qgi, cond_false, okH, Option.some.injEq] at h ⊢
    subst h
    have e := eH rfl
    refine ⟨_, rfl, rfl, rfl, by rw [e], fun s hs => (by cases hs), fun s _ => rfl, fun s _ => rfl, fun h => (by cases h), fun _ => by rw [e], fun n => rfl, fun n => rfl⟩
theorem qBw {loc : Bool} {x : O} (h : qly loc x st = some r) (e1 : rd st2.env x = rd st.env x) (eH : (!loc) = true → st2.H = st.H) : ∃ r2, qly loc x st2 = some r2 ∧ Fr (.box loc x) st st2 r r2 := by
  simp only [qly] at h ⊢
  rw [e1]
  split at h
  · cases h
  · rename_i hv
    (try rw [if_neg hv])
    cases loc with
    | true =>
      simp only [cond_true, ok, Option.some.injEq] at h ⊢
      subst h
      exact ⟨_, rfl, qgE (l := [x]) rfl (fun _ _ => ⟨rfl, rfl⟩) (fun h => h)⟩
    | false =>
      simp only [cond_false] at h ⊢
      split at h
      · rename_i hv2
        (try rw [if_pos hv2])
        simp only [okH, Option.some.injEq] at h ⊢
        subst h
        have e := eH rfl
        rw [e]
        exact ⟨_, rfl, qgE (l := [x]) rfl (fun h => by cases h) (fun h => rfl)⟩
      · cases h
theorem qx5 (h : qhf st = some r) (eH : st2.H = st.H) : ∃ r2, qhf st2 = some r2 ∧ Fr .mkMap st st2 r r2 := by
  simp only [qhf, okH, Option.some.injEq] at h ⊢
  subst h
  refine ⟨_, rfl, rfl, rfl, by rw [eH], fun s hs => (by cases hs), fun s _ => rfl, fun s _ => rfl, fun h => (by cases h), fun _ => by rw [eH], fun n => rfl, fun n => rfl⟩
theorem qtE {z : D} {a b : O} (h : qd8 z a b st = some r) (e1 : rd st2.env a = rd st.env a) (e2 : rd st2.env b = rd st.env b) (eH : st2.H = st.H) : ∃ r2, qd8 z a b st2 = some r2 ∧ Fr (.mkSlice z a b) st st2 r r2 := by
  unfold qd8 at h ⊢
  rw [e1, e2]
  split at h
  · rename_i hz1 hz2; (try simp only [hz1, hz2])
    split at h
    · rename_i hw; (try simp only [hw])
      split at h
      · rename_i hq; (try simp only [hq, if_true])
        simp only [okH, Option.some.injEq] at h
        subst h
        (try rw [if_pos hw])
        refine ⟨_, rfl, rfl, rfl, by rw [eH, hq], fun s hs => (by cases hs), fun s _ => rfl, fun s _ => rfl, fun h => (by cases h), fun _ => by rw [eH, hq], fun n => rfl, fun n => rfl⟩
      · cases h
    · cases h
  · cases h
theorem qq9 {z : D} {n : Nat} {p : List (Nat × O)} (h : qcE z n p st = some r) (e : (p.map fun (j, x) => (j, rd st2.env x)) = (p.map fun (j, x) => (j, rd st.env x))) (eH : st2.H = st.H) : ∃ r2, qcE z n p st2 = some r2 ∧ Fr (.buildRow z n p) st st2 r r2 := by
  unfold qcE at h ⊢
  rw [e]
  split at h
  · rename_i xs hz; (try simp only [hz])
    split at h
    · rename_i hw
      (try rw [if_pos hw])
      simp only [okH, Option.some.injEq] at h
      subst h
      refine ⟨_, rfl, rfl, rfl, by rw [eH], fun s hs => (by cases hs), fun s _ => rfl, fun s _ => rfl, fun h => (by cases h), fun _ => by rw [eH], fun n => rfl, fun n => rfl⟩
    · cases h
  · cases h
theorem qqJ {x : O} (h : qcx x st = some r) (e : rd st2.env x = rd st.env x) (eH : st2.H = st.H) : ∃ r2, qcx x st2 = some r2 ∧ Fr (.bytesRow x) st st2 r r2 := by
  unfold qcx at h ⊢
  rw [e]
  split at h
  · rename_i t hz; (try simp only [hz])
    simp only [okH, Option.some.injEq] at h
    subst h
    refine ⟨_, rfl, rfl, rfl, by rw [eH], fun s hs => (by cases hs), fun s _ => rfl, fun s _ => rfl, fun h => (by cases h), fun _ => by rw [eH], fun n => rfl, fun n => rfl⟩
  · cases h
theorem qo3 {kk : Nat} {m k x : O} (h : qbx kk m k x st = some r) (e1 : rd st2.env m = rd st.env m) (e2 : rd st2.env k = rd st.env k) (e3 : rd st2.env x = rd st.env x) (eH : st2.H = st.H) :
    ∃ r2, qbx kk m k x st2 = some r2 ∧ Fr (.mapUpdate kk m k x) st st2 r r2 := by
  unfold qbx at h ⊢
  rw [e1, e2, e3, eH]
  split at h
  · rename_i hz1 hz2; (try simp only [hz1, hz2])
    split at h
    · rename_i hw; (try simp only [hw])
      simp only at h
      split at h
      · rename_i hq
        (try rw [if_pos hq])
        split at h
        · rename_i hq2; (try simp only [hq2])
          simp only [okH, Option.some.injEq] at h
          subst h
          exact ⟨_, rfl, qgE (l := [x]) rfl (fun h => by cases h) (fun _ => rfl)⟩
        · cases h
      · cases h
    · cases h
  · cases h
theorem qzU {call : Call} (hc : qa6 call) {f : O} {l : List O} (h : qfE call f l st = some r) (e1 : rd st2.env f = rd st.env f) (e2 : l.map (rd st2.env) = l.map (rd st.env)) (eH : st2.H = st.H) :
    ∃ r2, qfE call f l st2 = some r2 ∧ Fr (.call f l) st st2 r r2 := by
  unfold qfE at h ⊢
  rw [e1, e2, eH]
  split at h
  · rename_i hz; (try simp only [hz])
    simp only at h ⊢
    split at h
    · rename_i hw
      (try rw [if_pos hw])
      split at h
      · rename_i q hq; (try simp only [hq])
        simp only [Option.some.injEq] at h
        subst h
        have hs := (hc _ _ _ _ hq).2.2
        exact ⟨_, rfl, qgE (l := l) rfl (fun _ hh => ⟨hs hh, by rw [eH]; exact hs hh⟩) (fun _ => rfl)⟩
      · cases h
    · cases h
  · cases h
theorem qfw : ∀ {l : List O} {s : Nat}, s ∈ qa5 l → s ∈ yB l
  | .mv n :: l, s, h => by
    simp only [qa5, yB, List.mem_cons] at h ⊢
    exact h.imp id qfw
  | .t n :: l, s, h => by
    simp only [yB, List.mem_cons]
    exact .inr (qfw (l := l) h)
  | .c _ :: l, s, h => qfw (l := l) h
  | .f _ :: l, s, h => qfw (l := l) h
  | .g _ _ :: l, s, h => qfw (l := l) h
theorem qoR (x : O) (l : List O) : qa5 (x :: l) = qa5 [x] ++ qa5 l := by cases x <;> rfl
theorem qwf {size bytes : Nat} {x y : O} (h : qeT size bytes x y st = some r) (e1 : rd st2.env x = rd st.env x) (e2 : rd st2.env y = rd st.env y) (hy : ∀ s, s ∈ qa5 [y] → get s st2.env = get s st.env) :
    ∃ r2, qeT size bytes x y st2 = some r2 ∧ Fr (.bi (.append size bytes) [x, y]) st st2 r r2 := by
  unfold qeT at h ⊢
  rw [e1, e2]
  split at h
  · rename_i hz; (try simp only [hz])
    simp only [ok, Option.some.injEq] at h
    subst h
    have hW : ∀ s, s ∈ (OpK.bi (.append size bytes) [x, y]).boxW ↔ s ∈ qa5 [x] ∨ s ∈ qa5 [y] := fun s => by
      show s ∈ qa5 [x, y] ↔ _
      rw [qoR]; simp
    refine ⟨_, rfl, rfl, rfl, rfl, fun s hs => ?_, fun s hs => ?_, fun s hs => ?_, fun _ _ => ⟨rfl, rfl⟩, fun h => h, fun n => qiJ n x _, fun n => qiJ n x _⟩
    · show get s (spent x st2.env) = get s (spent x st.env)
      rw [qfv, qfv]
      split
      · rfl
      · rename_i hx
        exact hy s (((hW s).1 hs).resolve_left hx)
    · rw [hW, not_or] at hs
      show get s (spent x st.env) = _
      rw [qfv, if_neg hs.1]
    · rw [hW, not_or] at hs
      show get s (spent x st2.env) = _
      rw [qfv, if_neg hs.1]
  · cases h
theorem qxU {l : L} {a : O} (h : qgc l a st = some r) (e1 : rd st2.env a = rd st.env a) : r.st = st ∧ qgc l a st2 = some { r with st := st2 } := by
  unfold qgc at h ⊢
  rw [e1]
  split at h
  · rename_i x hx
    split at h
    · rename_i v hv
      have hv2 : qaW l st2 (.cp x) = some v := hv
      simp only [hv2]
      exact zL h
    · cases h
  · cases h
theorem qzF {sl : Option Nat} {l : L} {a : O} (h : qdf false sl l a st = some r) (e1 : rd st2.env a = rd st.env a) (e2 : ∀ s, sl = some s → get s st2.env = get s st.env) (eH : sl.isNone = true → st2.H = st.H) :
    ∃ r2, qdf false sl l a st2 = some r2 ∧ Fr (.load false sl l a) st st2 r r2 := by
  unfold qdf at h ⊢
  rw [e1]
  cases hs : yJ sl (rd st.env a) with
  | false => rw [hs] at h; simp at h
  | true =>
    rw [hs] at h
    simp only [qDL, cond_false] at h ⊢
    have key : ∀ v, qaW l st (rd st.env a) = some v → qaW l st2 (rd st.env a) = some v := by
      intro v hv
      unfold qaW at hv ⊢
      split at hv
      · rename_i s off hz
        have hsl : sl = some s := by
          rw [hz] at hs
          cases sl with
          | none => simp [yJ] at hs
          | some n => exact congrArg some (by simpa [yJ] using hs)
        rw [e2 s hsl]; exact hv
      · exact hv
      · rename_i id off hz
        have hsl : sl.isNone = true := by
          rw [hz] at hs
          cases sl with
          | none => rfl
          | some n => simp [yJ] at hs
        rw [eH hsl]; exact hv
      · cases hv
    split at h
    · rename_i v hv
      rw [key v hv]
      obtain ⟨h1, h2⟩ := zL (st2 := st2) h
      exact ⟨_, h2, qnp h1 rfl (fun s hs => by cases hs)⟩
    · cases h
theorem qpD {k : OpK} {s : Nat} {l : List O} {cs : List V} {v : V} {same pan : Bool} (hW : ∀ n, n ∈ k.boxW ↔ n = s ∨ n ∈ qa5 l) :
    Fr k st st2 ⟨pan, same, v, { st with env := (s, .box cs) :: spentAll l st.env }⟩ ⟨pan, same, v, { st2 with env := (s, .box cs) :: spentAll l st2.env }⟩ := by
  refine ⟨rfl, rfl, rfl, fun n hn => ?_, fun n hn => ?_, fun n hn => ?_, fun _ _ => ⟨rfl, rfl⟩, fun h => h, fun n => qdw n l _, fun n => qdw n l _⟩
  · rw [hW] at hn
    simp only [j8, yO]
    rcases hn with h | h
    · simp [h]
    · simp [h]
  · rw [hW, not_or] at hn
    simp only [j8, yO, hn.1, hn.2, if_false]
  · rw [hW, not_or] at hn
    simp only [j8, yO, hn.1, hn.2, if_false]
theorem quw {sl : Option Nat} {l : L} {a : O} (h : qdf true sl l a st = some r) (e1 : rd st2.env a = rd st.env a) (e2 : ∀ s, sl = some s → get s st2.env = get s st.env) (eH : sl.isNone = true → st2.H = st.H) :
    ∃ r2, qdf true sl l a st2 = some r2 ∧ Fr (.load true sl l a) st st2 r r2 := by
  unfold qdf at h ⊢
  rw [e1]
  cases hs : yJ sl (rd st.env a) with
  | false => rw [hs] at h; simp at h
  | true =>
    rw [hs] at h
    simp only [qDL, cond_false, cond_true] at h ⊢
    cases hl : l.agg with
    | true => rw [hl] at h; simp at h
    | false =>
      rw [hl] at h
      simp only [cond_false] at h ⊢
      split at h
      · rename_i v st' hst
        unfold qjB at hst ⊢
        split at hst
        · rename_i s off hz
          have hsl : sl = some s := by
            rw [hz] at hs
            cases sl with
            | none => simp [yJ] at hs
            | some n => exact congrArg some (by simpa [yJ] using hs)
          subst hsl
          rw [e2 s rfl]
          split at hst
          · rename_i cs hb
            split at hst
            · rename_i v' hc
              simp only [Option.some.injEq, Prod.mk.injEq] at hst
              obtain ⟨rfl, rfl⟩ := hst
              simp only [ok, Option.some.injEq] at h ⊢
              subst h
              exact ⟨_, rfl, qpD (l := []) (fun n => by simp [OpK.boxW, qa5])⟩
            · cases hst
          · cases hst
        · rename_i id off hz
          have hsl : sl = none := by
            rw [hz] at hs
            cases sl with
            | none => rfl
            | some n => simp [yJ] at hs
          subst hsl
          rw [eH rfl]
          split at hst
          · rename_i cs hb
            split at hst
            · rename_i v' hc
              simp only [Option.some.injEq, Prod.mk.injEq] at hst
              obtain ⟨rfl, rfl⟩ := hst
              simp only [okH, Option.some.injEq] at h ⊢
              subst h
              exact ⟨_, rfl, rfl, rfl, rfl, fun s hs => (by cases hs), fun s _ => rfl, fun s _ => rfl, fun h => (by cases h), fun _ => rfl, fun n => rfl, fun n => rfl⟩
            · cases hst
          · cases hst
        · cases hst
      · cases h
theorem qwX {sl : Option Nat} {l : L} {a x : O} (h : qfQ sl l a x st = some r) (e1 : rd st2.env a = rd st.env a) (e3 : rd st2.env x = rd st.env x) (e2 : ∀ s, sl = some s → get s st2.env = get s st.env) (eH : sl.isNone = true → st2.H = st.H) :
    ∃ r2, qfQ sl l a x st2 = some r2 ∧ Fr (.store sl l a x) st st2 r r2 := by
  unfold qfQ at h ⊢
  rw [e1, e3]
  cases hs : yJ sl (rd st.env a) with
  | false => rw [hs] at h; simp at h
  | true =>
    rw [hs] at h
    simp only [qDL, cond_false] at h ⊢
    split at h
    · rename_i st' hst
      unfold qeO at hst ⊢
      split at hst
      · rename_i s off hz
        have hsl : sl = some s := by
          rw [hz] at hs
          cases sl with
          | none => simp [yJ] at hs
          | some n => exact congrArg some (by simpa [yJ] using hs)
        subst hsl
        have e4 : get s (spent x st2.env) = get s (spent x st.env) := by rw [qfv, qfv, e2 s rfl]
        simp only [e4]
        split at hst
        · rename_i cs hb
          split at hst
          · rename_i hc
            (try rw [if_pos hc])
            split at hst
            · rename_i cs' hset
              simp only [Option.some.injEq] at hst
              subst hst
              (try simp only [hb, if_pos hc, hset])
              simp only [ok, Option.some.injEq] at h ⊢
              subst h
              exact ⟨_, rfl, qpD (l := [x]) (fun n => by simp [OpK.boxW])⟩
            · cases hst
          · cases hst
        · cases hst
      · rename_i id off hz
        have hsl : sl = none := by
          rw [hz] at hs
          cases sl with
          | none => rfl
          | some n => simp [yJ] at hs
        subst hsl
        simp only [eH rfl]
        split at hst
        · rename_i cs hb
          split at hst
          · rename_i hc
            (try rw [if_pos hc])
            split at hst
            · rename_i cs' hset
              simp only [Option.some.injEq] at hst
              subst hst
              (try simp only [hb, if_pos hc, hset])
              simp only [okH, Option.some.injEq] at h ⊢
              subst h
              exact ⟨_, rfl, qgE (l := [x]) rfl (fun h => by cases h) (fun _ => rfl)⟩
            · cases hst
          · cases hst
        · cases hst
      · cases hst
    · cases h
theorem qzR {x : O} (h : qit x st = some r) (e1 : rd st2.env x = rd st.env x) : r.st = st ∧ qit x st2 = some { r with st := st2 } := by
  unfold qit at h ⊢; rw [e1]
  split at h
  · rename_i hz; (try simp only [hz]); exact zL h
  · cases h
theorem qAZ {x : O} (h : qf1 x st = some r) (e1 : rd st2.env x = rd st.env x) : r.st = st ∧ qf1 x st2 = some { r with st := st2 } := by
  unfold qf1 at h ⊢; rw [e1]
  split at h
  · rename_i hz; (try simp only [hz])
    split at h
    · rename_i hw; (try simp only [hw]); exact zL h
    · cases h
  · rename_i hz; (try simp only [hz]); exact zL h
  · cases h
theorem qz7 {x : O} (h : qiy x st = some r) (e1 : rd st2.env x = rd st.env x) (eH : st2.H = st.H) : r.st = st ∧ qiy x st2 = some { r with st := st2 } := by
  unfold qiy at h ⊢; rw [e1, eH]
  split at h
  · rename_i hz; (try simp only [hz]); exact zL h
  · rename_i hz; (try simp only [hz])
    split at h
    · rename_i hw; (try simp only [hw]); exact zL h
    · cases h
  · cases h
theorem qhO {e e2 : Env} : ∀ {p : List (Nat × Nat × O)}, (∀ s, s ∈ yB (p.map (·.2.2)) → get s e2 = get s e) → (p.map fun (o, s, x) => (o, s, rd e2 x)) = (p.map fun (o, s, x) => (o, s, rd e x))
  | [], _ => rfl
  | (o, n, x) :: l, h => by
    simp only [qDy] at h ⊢
    rw [qa9] at h
    rw [qht (fun s hs => h s (by simp [hs])), qhO (fun s hs => h s (by simp [hs]))]
theorem qfm {e e2 : Env} : ∀ {p : List (Nat × O)}, (∀ s, s ∈ yB (p.map (·.2)) → get s e2 = get s e) → (p.map fun (j, x) => (j, rd e2 x)) = (p.map fun (j, x) => (j, rd e x))
  | [], _ => rfl
  | (o, x) :: l, h => by
    simp only [qDy] at h ⊢
    rw [qa9] at h
    rw [qht (fun s hs => h s (by simp [hs])), qfm (fun s hs => h s (by simp [hs]))]
theorem qvx {call : Call} (hc : qa6 call) {k : OpK} (h : kM call k st = some r) (hs : qDq k st.env st2.env) (hH : k.looks = true → st2.H = st.H) : ∃ r2, kM call k st2 = some r2 ∧ Fr k st st2 r r2 := by
  have s1 : ∀ {x : O} {l l' : List O}, k.rds = l ++ x :: l' → rd st2.env x = rd st.env x := fun {x l l'} e => qht (fun s hs' => hs s (.inl (by rw [e, qcj, qa9]; simp [hs'])))
  have pure : ∀ {f : St → Option Or}, kM call k = f → (r.st = st ∧ f st2 = some { r with st := st2 }) → (∀ s, s ∈ k.boxW → get s st2.env = get s st.env) → ∃ r2, kM call k st2 = some r2 ∧ Fr k st st2 r r2 := fun hf ⟨h1, h2⟩ hW => ⟨_, by rw [hf]; exact h2, qnp h1 rfl hW⟩
  have nW : ∀ {s : Nat}, s ∈ ([] : List Nat) → get s st2.env = get s st.env := fun h => by cases h
  cases k with
  | mov x => exact qBM h (s1 (l := []) rfl)
  | pick c a b => exact pure rfl (qzV h (s1 (l := []) rfl) (s1 (l := [c]) rfl) (s1 (l := [c, a]) rfl)) (fun s h => nW h)
  | alloc loc z => exact qxS h hH
  | box loc x => exact qBw h (s1 (l := []) rfl) hH
  | build z p => exact pure rfl (qwY h (qhO fun s h => hs s (.inl h))) (fun s h => nW h)
  | buildSlice z n p => exact pure rfl (qnX h (qfm fun s h => hs s (.inl h))) (fun s h => nW h)
  | buildV z p => exact pure rfl (qu3 h (qhO fun s h => hs s (.inl h))) (fun s h => nW h)
  | buildFull z n p => exact pure rfl (qoO h (qfm fun s h => hs s (.inl h))) (fun s h => nW h)
  | load mv sl l a =>
    have e2 : ∀ s, sl = some s → get s st2.env = get s st.env := fun s e => hs s (.inr (by subst e; simp [OpK.boxR]))
    cases mv with
    | false => exact qzF h (s1 (l := []) rfl) e2 hH
    | true => exact quw h (s1 (l := []) rfl) e2 hH
  | loadC l a => exact pure rfl (qxU h (s1 (l := []) rfl)) (fun s h => nW h)
  | store sl l a x => exact qwX h (s1 (l := []) rfl) (s1 (l := [a]) rfl) (fun s e => hs s (.inr (by subst e; simp [OpK.boxR]))) hH
  | nilCheck x => exact pure rfl (qqL h (s1 (l := []) rfl)) (fun s h => nW h)
  | bin op kd x y => exact pure rfl (qCv h (s1 (l := []) rfl) (s1 (l := [x]) rfl)) (fun s h => nW h)
  | un op x => exact pure rfl (qDj h (s1 (l := []) rfl)) (fun s h => nW h)
  | conv k x => exact pure rfl (qAR h (s1 (l := []) rfl)) (fun s h => nW h)
  | bytes x => exact pure rfl (qwC h (s1 (l := []) rfl)) (fun s h => nW h)
  | text x => exact pure rfl (qze h (s1 (l := []) rfl) (hH rfl)) (fun s h => nW h)
  | movS x => exact pure rfl (qzZ h (s1 (l := []) rfl)) (fun s h => nW h)
  | mkIfc t x => exact pure rfl (qwv h (s1 (l := []) rfl)) (fun s h => nW h)
  | mkFn f a b => exact pure rfl (qzx h (qgu fun s h => hs s (.inl (by show s ∈ yB (a ++ b); rw [qcj]; simp [h]))) (qgu fun s h => hs s (.inl (by show s ∈ yB (a ++ b); rw [qcj]; simp [h])))) (fun s h => nW h)
  | mkMap => exact qx5 h (hH rfl)
  | mkSlice z a b => exact qtE h (s1 (l := []) rfl) (s1 (l := [a]) rfl) (hH rfl)
  | bytesRow x => exact qqJ h (s1 (l := []) rfl) (hH rfl)
  | buildRow z n p => exact qq9 h (qfm fun s h => hs s (.inl h)) (hH rfl)
  | assertOk t z x => exact pure rfl (qp1 h (s1 (l := []) rfl)) (fun s h => nW h)
  | sliceS x a b =>
    have e : ∀ s, s ∈ yB a.toList ∨ s ∈ yB b.toList → get s st2.env = get s st.env := fun s h => hs s (.inl (by
      show s ∈ yB (x :: (a.toList ++ b.toList)); rw [qa9, qcj]; simp only [List.mem_append]; exact .inr h))
    exact pure rfl (qvO h (s1 (l := []) rfl) (qcJ fun s h => e s (.inl h)) (qcJ fun s h => e s (.inr h))) (fun s h => nW h)
  | sliceL n x a b =>
    have e : ∀ s, s ∈ yB a.toList ∨ s ∈ yB b.toList → get s st2.env = get s st.env := fun s h => hs s (.inl (by
      show s ∈ yB (x :: (a.toList ++ b.toList)); rw [qa9, qcj]; simp only [List.mem_append]; exact .inr h))
    exact pure rfl (qu0 h (s1 (l := []) rfl) (qcJ fun s h => e s (.inl h)) (qcJ fun s h => e s (.inr h))) (fun s h => nW h)
  | sliceA n x a b =>
    have e : ∀ s, s ∈ yB a.toList ∨ s ∈ yB b.toList → get s st2.env = get s st.env := fun s h => hs s (.inl (by
      show s ∈ yB (x :: (a.toList ++ b.toList)); rw [qa9, qcj]; simp only [List.mem_append]; exact .inr h))
    exact pure rfl (qvM h (s1 (l := []) rfl) (qcJ fun s h => e s (.inl h)) (qcJ fun s h => e s (.inr h))) (fun s h => nW h)
  | sliceM n x a b m =>
    have e : ∀ s, s ∈ yB a.toList → get s st2.env = get s st.env := fun s h => hs s (.inl (by
      show s ∈ yB (m :: b :: x :: a.toList); rw [qa9 m, qa9 b, qa9 x]; simp only [List.mem_append]; exact Or.inr (Or.inr (Or.inr h))))
    exact pure rfl (qvY h (s1 (l := [m, b]) rfl) (qcJ fun s h => e s h) (s1 (l := [m]) rfl) (s1 (l := []) rfl)) (fun s h => nW h)
  | stuck => cases h
  | fieldAddr x o l => exact pure rfl (qoX h (s1 (l := []) rfl)) (fun s h => nW h)
  | field x o l => exact pure rfl (qxn h (s1 (l := []) rfl)) (fun s h => nW h)
  | indexAddr x i n arr => exact pure rfl (qoy h (s1 (l := []) rfl) (s1 (l := [x]) rfl)) (fun s h => nW h)
  | index x i => exact pure rfl (qxs h (s1 (l := []) rfl) (s1 (l := [x]) rfl)) (fun s h => nW h)
  | lookup kk z m k c => exact pure rfl (qvF h (s1 (l := []) rfl) (s1 (l := [m]) rfl) (hH rfl)) (fun s h => nW h)
  | mapUpdate kk m k x => exact qo3 h (s1 (l := []) rfl) (s1 (l := [m]) rfl) (s1 (l := [m, k]) rfl) (hH rfl)
  | extract x i => exact pure rfl (qtb h (fun s h => hs s (.inl h))) (fun s h => nW h)
  | call f l => exact qzU hc h (s1 (l := []) rfl) (qgu fun s h => hs s (.inl (by show s ∈ yB (f :: l); rw [qa9]; simp [h]))) (hH rfl)
  | panic x =>
    refine pure rfl ?_ (fun s h => nW h)
    have e := s1 (x := x) (l := []) (l' := []) rfl
    simp only [kM] at h
    show r.st = st ∧ qiT x st2 = _
    unfold qiT at h ⊢
    rw [e]
    split at h
    · rename_i hz; (try simp only [hz])
      simp only [Option.some.injEq] at h
      subst h
      exact ⟨rfl, rfl⟩
    · cases h
  | bi b l =>
    have hW : ∀ s, s ∈ qa5 l → get s st2.env = get s st.env := fun s h => hs s (.inl (qfw h))
    have eL : l.map (rd st2.env) = l.map (rd st.env) := qgu fun s h => hs s (.inl h)
    simp only [kM, eBi] at h
    cases b with
    | lenS =>
      rcases l with _ | ⟨x, _ | ⟨y, l⟩⟩
      · cases h
      · exact pure rfl (qzR h (s1 (l := []) rfl)) hW
      · cases h
    | lenL =>
      rcases l with _ | ⟨x, _ | ⟨y, l⟩⟩
      · cases h
      · exact pure rfl (qAZ h (s1 (l := []) rfl)) hW
      · cases h
    | lenM =>
      rcases l with _ | ⟨x, _ | ⟨y, l⟩⟩
      · cases h
      · exact pure rfl (qz7 h (s1 (l := []) rfl) (hH rfl)) hW
      · cases h
    | append size bytes =>
      rcases l with _ | ⟨x, _ | ⟨y, _ | ⟨z, l⟩⟩⟩
      · cases h
      · cases h
      · exact qwf h (s1 (l := []) rfl) (s1 (l := [x]) rfl) (fun s h => hW s (by rw [qoR]; simp [h]))
      · cases h
    | max =>
      refine pure (f := fun st => eBi .max l st) rfl ?_ hW
      have h' : (match qjU (l.map (rd st.env)) with | some v => ok v st | none => none) = some r := by cases l <;> exact h
      have g : eBi .max l st2 = (match qjU (l.map (rd st2.env)) with | some v => ok v st2 | none => none) := by cases l <;> rfl
      show r.st = st ∧ eBi .max l st2 = _
      rw [g, eL]
      split at h'
      · rename_i hz; (try simp only [hz]); exact zL h'
      · cases h'
    | min =>
      refine pure (f := fun st => eBi .min l st) rfl ?_ hW
      have h' : (match qj5 (l.map (rd st.env)) with | some v => ok v st | none => none) = some r := by cases l <;> exact h
      have g : eBi .min l st2 = (match qj5 (l.map (rd st2.env)) with | some v => ok v st2 | none => none) := by cases l <;> rfl
      show r.st = st ∧ eBi .min l st2 = _
      rw [g, eL]
      split at h'
      · rename_i hz; (try simp only [hz]); exact zL h'
      · cases h'
end W

/-
  Regions whose order is open: whatever the order, the same.
-/
set_option linter.unusedSimpArgs false
set_option linter.unusedVariables false
namespace W
open Go (IntKind BinOp UnOp Oper)
abbrev El := Op × Bool × List Nat
def qgl (call : Call) (x : El) (st : St) : Option St :=
  match wanted x.1.g st.env with
  | some true => match kM call x.1.k st with
    | some r => bif r.pan || !(r.same || x.2.1) then none else qe1 (qm8 x.1.k) x.2.2 x.1.dst r.v r.st
    | none => none
  | some false => some (put x.1.dst (.tup []) st)
  | none => none
def qjr (call : Call) : List El → St → Option St
  | [], st => some st
  | x :: l, st => match qgl call x st with
    | some st' => qjr call l st'
    | none => none
theorem qft {call : Call} : ∀ {l : List El} {st : St} {e : Ex} {st' : St}, j4 call l st = some (e, st') → e = .nrm ∧ qjr call l st = some st'
  | [], st, e, st', h => by simp only [j4, Option.some.injEq, Prod.mk.injEq] at h; exact ⟨h.1.symm, by rw [← h.2]; rfl⟩
  | (o, s, no) :: l, st, e, st', h => by
    simp only [j4] at h
    simp only [qjr, qgl]
    split at h
    · rename_i hw
      simp only [hw]
      split at h
      · rename_i r hr
        simp only [hr]
        rw [qDH] at h ⊢
        split at h
        · cases h
        · rename_i hp
          rw [if_neg hp]
          split at h
          · rename_i st1 h1
            simp only [h1]
            exact qft h
          · cases h
      · cases h
    · rename_i hw
      simp only [hw]
      exact qft h
    · cases h
structure Eqv (st st2 : St) : Prop where
  e : ∀ k, get k st2.env = get k st.env
  H : st2.H = st.H
  lp : ∀ n, qcA n st2.env = qcA n st.env
theorem Eqv.refl (st : St) : Eqv st st := ⟨fun _ => rfl, rfl, fun _ => rfl⟩
theorem Eqv.trans {a b c : St} (h : Eqv a b) (h' : Eqv b c) : Eqv a c := ⟨fun k => (h'.e k).trans (h.e k), h'.H.trans h.H, fun n => (h'.lp n).trans (h.lp n)⟩
structure FrD (x : El) (st st2 st1 st1' : St) (b : Nat → Bool) : Prop where
  inn : ∀ s, s ∈ x.1.wr → get s st1'.env = get s st1.env
  out1 : ∀ s, s ∉ x.1.wr → get s st1.env = get s st.env
  out2 : ∀ s, s ∉ x.1.wr → get s st1'.env = get s st2.env
  H1 : x.2.1 = false → st1.H = st.H ∧ st1'.H = st2.H
  H2 : st2.H = st.H → st1'.H = st1.H
  lp : ∀ n, qcA n st1.env = (qcA n st.env && b n)
  lp2 : ∀ n, qcA n st1'.env = (qcA n st2.env && b n)
  no : ∀ n, qeJ n x.2.2 = true → b n = true
theorem qlr {n : Nat} : ∀ {l : List Nat}, n ∈ l → qeJ n l = true
  | m :: l, h => by
    simp only [qeJ, Bool.or_eq_true]
    rcases List.mem_cons.1 h with e | h
    · subst e; exact .inl (by simp)
    · exact .inr (qlr h)
theorem qnO {g : Option (Nat × Bool)} {e e2 : Env} (h : ∀ n w, g = some (n, w) → get n e2 = get n e) : wanted g e2 = wanted g e := by
  cases g with
  | none => rfl
  | some nw => obtain ⟨n, w⟩ := nw; simp only [wanted]; rw [h n w rfl]
theorem quM {o : Op} {s : Nat} (h : s ∈ yB o.k.rds ∨ s ∈ o.k.boxR) : s ∈ o.re := by
  unfold Op.re
  simp only [List.mem_append]
  rcases h with h | h
  · exact .inr (.inl h)
  · exact .inr (.inr (.inl h))
theorem qoF {o : Op} {s : Nat} (h : s ∈ o.k.boxW) : s ∈ o.re := by
  unfold Op.re
  simp only [List.mem_append]
  exact .inr (.inr (.inr h))
theorem qt4 {o : Op} {n : Nat} {w : Bool} (h : o.g = some (n, w)) : n ∈ o.re := by
  unfold Op.re; rw [h]; simp
theorem frD {call : Call} (hc : qa6 call) {x : El} {st st2 st1 : St} (h : qgl call x st = some st1) (hfl : x.2.1 = false → x.1.k.free = true) (hs : ∀ s, s ∈ x.1.re → get s st2.env = get s st.env) (hH : x.1.k.looks = true → st2.H = st.H)
    (hbx : ∀ n, n ∈ qgt x.1 → qcA n st.env = true → qcA n st2.env = true) : ∃ st1' b, qgl call x st2 = some st1' ∧ FrD x st st2 st1 st1' b := by
  unfold qgl at h ⊢
  rw [qnO (e := st.env) (fun n w hg => hs n (qt4 hg))]
  split at h
  · rename_i hw
    (try simp only [hw])
    split at h
    · rename_i r hr
      obtain ⟨r2, hr2, F⟩ := qvx hc hr (fun s h => hs s (quM h)) hH
      simp only [hr2]
      rw [qDH] at h ⊢
      rw [F.pan, F.same]
      split at h
      · cases h
      · rename_i hp
        rw [if_neg hp]
        have hsame : x.2.1 = false → r.same = true := fun hf => by
          simp only [Bool.or_eq_true, not_or, Bool.not_eq_true', hf, Bool.or_false] at hp
          simpa using hp.2
        have done : ∀ {v : V} {b : Nat → Bool} {n : Nat}, x.1.dst = some n → (∀ m (e : Env), qcA m ((n, v) :: e) = (qcA m e && b m)) → (∀ m, qeJ m x.2.2 = true → b m = true) →
            FrD x st st2 { r.st with env := (n, v) :: r.st.env } { r2.st with env := (n, v) :: r2.st.env } b := by
          intro v b n hdst hb hno
          have hwr : ∀ s, s ∈ x.1.wr ↔ s = n ∨ s ∈ x.1.k.boxW := fun s => by unfold Op.wr; rw [hdst]; simp
          refine ⟨fun s hs => ?_, fun s hs => ?_, fun s hs => ?_, fun hf => F.H1 (hfl hf) (hsame hf), F.H2, fun m => ?_, fun m => ?_, hno⟩
          · show get s ((n, v) :: r2.st.env) = get s ((n, v) :: r.st.env)
            rw [j8, j8]
            split
            · rfl
            · rename_i hne; exact F.inn s (((hwr s).1 hs).resolve_left hne)
          · rw [hwr, not_or] at hs
            show get s ((n, v) :: r.st.env) = _
            rw [j8, if_neg hs.1]; exact F.out1 s hs.2
          · rw [hwr, not_or] at hs
            show get s ((n, v) :: r2.st.env) = _
            rw [j8, if_neg hs.1]; exact F.out2 s hs.2
          · show qcA m ((n, v) :: r.st.env) = _
            rw [hb, F.lp]
          · show qcA m ((n, v) :: r2.st.env) = _
            rw [hb, F.lp2]
        unfold qe1 at h ⊢
        rw [F.v]
        cases hdst : x.1.dst with
        | none =>
          rw [hdst] at h
          simp only [Option.some.injEq] at h
          subst h
          have hwr : ∀ s, s ∈ x.1.wr ↔ s ∈ x.1.k.boxW := fun s => by unfold Op.wr; rw [hdst]; simp
          exact ⟨_, fun _ => true, rfl, fun s hs => F.inn s ((hwr s).1 hs), fun s hs => F.out1 s (fun h => hs ((hwr s).2 h)), fun s hs => F.out2 s (fun h => hs ((hwr s).2 h)), fun hf => F.H1 (hfl hf) (hsame hf), F.H2,
            fun n => by rw [F.lp]; simp, fun n => by rw [F.lp2]; simp, fun _ _ => rfl⟩
        | some n =>
          rw [hdst] at h
          simp only at h ⊢
          split at h
          · rename_i cs hv
            rw [qDH] at h
            split at h
            · rename_i hb
              simp only [Option.some.injEq] at h
              subst h
              simp only [qDB] at hb
              have hb2 : (qm8 x.1.k && qcA n r2.st.env) = true := by
                rw [qDB]
                refine ⟨hb.1, ?_⟩
                rw [F.lp2]
                exact hbx n (by unfold qgt; rw [hb.1, hdst]; simp) (by rw [← F.lp]; exact hb.2)
              rw [hb2]
              simp only [cond_true]
              exact ⟨_, fun _ => true, rfl, done hdst (fun m e => by simp [qcA]) (fun _ _ => rfl)⟩
            · cases h
          · rename_i m o hv
            rw [qDH] at h
            split at h
            · cases h
            · rename_i hb
              simp only [Option.some.injEq] at h
              subst h
              have hb' : qeJ m x.2.2 = false := by simpa using hb
              simp only [hb', cond_false]
              refine ⟨_, fun k => !Nat.beq m k, rfl, done hdst (fun k e => by simp only [qcA]; rw [Bool.and_comm]) (fun k hk => ?_)⟩
              cases hq : qDG m k with
              | false => rfl
              | true =>
                have := qDR hq
                subst this
                rw [hb'] at hk; cases hk
          · rename_i h1 h2
            simp only [Option.some.injEq] at h
            subst h
            refine ⟨_, fun _ => true, rfl, ?_⟩
            exact done hdst (fun m e => by rw [qsO (fun k o => h2 k o)]; simp) (fun _ _ => rfl)
    · cases h
  · rename_i hw
    (try simp only [hw])
    simp only [Option.some.injEq] at h
    subst h
    cases hdst : x.1.dst with
    | none =>
      refine ⟨_, fun _ => true, rfl, fun s hs' => ?_, fun s _ => rfl, fun s _ => rfl, fun _ => ⟨rfl, rfl⟩, fun h => h, fun n => by simp [put], fun n => by simp [put], fun _ _ => rfl⟩
      unfold Op.wr at hs'
      rw [hdst] at hs'
      exact hs s (qoF (by simpa using hs'))
    | some n =>
      have hwr : ∀ s, s ∈ x.1.wr ↔ s = n ∨ s ∈ x.1.k.boxW := fun s => by unfold Op.wr; rw [hdst]; simp
      refine ⟨_, fun _ => true, rfl, fun s hs' => ?_, fun s hs' => ?_, fun s hs' => ?_, fun _ => ⟨rfl, rfl⟩, fun h => h, fun m => by simp [put, qcA], fun m => by simp [put, qcA], fun _ _ => rfl⟩
      · show get s ((n, .tup []) :: st2.env) = get s ((n, .tup []) :: st.env)
        rw [j8, j8]
        split
        · rfl
        · rename_i hne; exact hs s (qoF (((hwr s).1 hs').resolve_left hne))
      · rw [hwr, not_or] at hs'
        show get s ((n, .tup []) :: st.env) = _
        rw [j8, if_neg hs'.1]
      · rw [hwr, not_or] at hs'
        show get s ((n, .tup []) :: st2.env) = _
        rw [j8, if_neg hs'.1]
  · cases h
theorem qkk {a b : List Nat} (h : meets a b = false) : ∀ n, n ∈ a → n ∉ b := by
  intro n hn hb
  simp only [meets, List.any_eq_false] at h
  exact h n hn (by simpa using hb)
structure Apart (o o' : Op) : Prop where
  f1 : o.k.free = true ∨ (o'.k.looks = false ∧ o'.k.free = true)
  f2 : o'.k.free = true ∨ (o.k.looks = false ∧ o.k.free = true)
  w1 : ∀ n, n ∈ o.wr → n ∉ o'.wr ∧ n ∉ o'.re
  w2 : ∀ n, n ∈ o'.wr → n ∉ o.wr ∧ n ∉ o.re
theorem ql0 {o o' : Op} (h : apart o o' = true) : Apart o o' := by
  simp only [apart, qDB, Bool.not_eq_true', Bool.and_eq_false_iff, Bool.or_eq_false_iff, Bool.not_eq_false'] at h
  obtain ⟨⟨⟨h1, h2⟩, h3⟩, h4⟩ := h
  refine ⟨by rcases h1 with h | h; exact .inl h; exact .inr h, by rcases h2 with h | h; exact .inl h; exact .inr h, fun n hn => ?_, fun n hn => ?_⟩
  · have := qkk h3 n hn
    simpa [not_or] using this
  · have := qkk h4 n hn
    simpa [not_or] using this
theorem commute {call : Call} (hc : qa6 call) {x y : El} {st st1 st2 : St} (hx : qgl call x st = some st1) (hy : qgl call y st1 = some st2) (lx : x.2.1 = false → x.1.k.free = true) (ly : y.2.1 = false → y.1.k.free = true) (fx : x.2.1 = false ∨ (y.1.k.looks = false ∧ y.2.1 = false)) (fy : y.2.1 = false ∨ (x.1.k.looks = false ∧ x.2.1 = false)) (hap : Apart x.1 y.1)
    (hno : ∀ n, n ∈ qgt x.1 → qeJ n y.2.2 = true) : ∃ st1' st2', qgl call y st = some st1' ∧ qgl call x st1' = some st2' ∧ Eqv st2 st2' := by
  -- x, once more in its own state: what it changes
  obtain ⟨_, bx, hx0, Fx⟩ := frD hc (st2 := st) hx lx (fun _ _ => rfl) (fun _ => rfl) (fun _ _ h => h)
  rw [hx] at hx0
  cases hx0
  -- y ahead
  obtain ⟨st1', by_, hy', Fy⟩ := frD hc (st2 := st) hy ly (fun s hs => (Fx.out1 s (fun h => (hap.w1 s h).2 hs)).symm) (fun hl => by
      rcases fx with h | h
      · exact (Fx.H1 h).1.symm
      · rw [h.1] at hl; cases hl) (fun n hn h => by
      rw [Fx.lp] at h; simp only [qDB] at h; exact h.1)
  -- x behind it
  obtain ⟨st2', b3, hx', Fx'⟩ := frD hc (st2 := st1') hx lx (fun s hs => Fy.out2 s (fun h => (hap.w2 s h).2 hs)) (fun hl => by
      rcases fy with h | h
      · exact (Fy.H1 h).2
      · rw [h.1] at hl; cases hl) (fun n hn h => by
      rw [Fy.lp2, h, Fy.no n (hno n hn)]; rfl)
  refine ⟨st1', st2', hy', hx', fun s => ?_, ?_, fun n => ?_⟩
  · by_cases h1 : s ∈ x.1.wr
    · have h2 : s ∉ y.1.wr := (hap.w1 s h1).1
      rw [Fx'.inn s h1, Fy.out1 s h2]
    · rw [Fx'.out2 s h1]
      by_cases h2 : s ∈ y.1.wr
      · rw [Fy.inn s h2]
      · rw [Fy.out2 s h2, Fy.out1 s h2, Fx.out1 s h1]
  · rcases fx with h | h
    · -- x leaves the objects alone
      rw [(Fx'.H1 h).2]
      exact Fy.H2 (Fx.H1 h).1.symm
    · rw [(Fy.H1 h.2).1]
      exact Fx'.H2 (Fy.H1 h.2).2
  · rw [Fx'.lp2, Fy.lp2, Fy.lp, Fx.lp]
    -- what x adds is the same
    have e : (qcA n st.env && bx n) = (qcA n st.env && b3 n) := by rw [← Fx.lp, ← Fx'.lp]
    cases h1 : qcA n st.env with
    | false => simp
    | true =>
      rw [h1] at e
      simp only [Bool.true_and] at e ⊢
      rw [e, Bool.and_comm]
theorem qtk {call : Call} (hc : qa6 call) {x : El} {st st2 st1 : St} (h : qgl call x st = some st1) (lx : x.2.1 = false → x.1.k.free = true) (he : Eqv st st2) : ∃ st1', qgl call x st2 = some st1' ∧ Eqv st1 st1' := by
  obtain ⟨st1', b, h1, F⟩ := frD hc h lx (fun s _ => he.e s) (fun _ => he.H) (fun n _ h => by rw [he.lp]; exact h)
  refine ⟨st1', h1, fun s => ?_, F.H2 he.H, fun n => by rw [F.lp, F.lp2, he.lp]⟩
  by_cases hs : s ∈ x.1.wr
  · exact F.inn s hs
  · rw [F.out2 s hs, F.out1 s hs, he.e]
theorem qpd {call : Call} (hc : qa6 call) : ∀ {l : List El} {st st2 stF : St}, (∀ x ∈ l, x.2.1 = false → x.1.k.free = true) → qjr call l st = some stF → Eqv st st2 → ∃ stF2, qjr call l st2 = some stF2 ∧ Eqv stF stF2
  | [], st, st2, stF, _, h, he => by simp only [qjr, Option.some.injEq] at h; subst h; exact ⟨st2, rfl, he⟩
  | x :: l, st, st2, stF, hf, h, he => by
    simp only [qjr] at h ⊢
    split at h
    · rename_i st1 h1
      obtain ⟨st1', h2, he2⟩ := qtk hc h1 (hf x (by simp)) he
      simp only [h2]
      exact qpd hc (fun y hy => hf y (by simp [hy])) h he2
    · cases h
theorem qpK {call : Call} (hc : qa6 call) {x : El} {post : List El} : ∀ {pre : List El} {st stF : St}, (∀ y ∈ pre ++ x :: post, y.2.1 = false → y.1.k.free = true) → (∀ y ∈ pre, (y.2.1 = false ∨ (x.1.k.looks = false ∧ x.2.1 = false)) ∧ (x.2.1 = false ∨ (y.1.k.looks = false ∧ y.2.1 = false))) → (∀ y ∈ pre, Apart y.1 x.1 ∧ ∀ n, n ∈ qgt y.1 → qeJ n x.2.2 = true) →
    qjr call (pre ++ x :: post) st = some stF → ∃ st1 stF', qgl call x st = some st1 ∧ qjr call (pre ++ post) st1 = some stF' ∧ Eqv stF stF'
  | [], st, stF, _, hf, _, h => by
    simp only [List.nil_append, qjr] at h
    split at h
    · rename_i st1 h1
      exact ⟨st1, stF, h1, h, Eqv.refl _⟩
    · cases h
  | y :: pre, st, stF, hl, hf, ha, h => by
    simp only [List.cons_append, qjr] at h
    split at h
    · rename_i sty hy
      obtain ⟨stx, stF1, h1, h2, h3⟩ := qpK hc (pre := pre) (fun z hz => hl z (by simp only [List.cons_append, List.mem_cons]; exact .inr hz)) (fun z hz => hf z (by simp [hz])) (fun z hz => ha z (by simp [hz])) h
      obtain ⟨st1', st2', h4, h5, h6⟩ := commute hc hy h1 (hl y (by simp)) (hl x (by simp)) (hf y (by simp)).1 (hf y (by simp)).2 (ha y (by simp)).1 (ha y (by simp)).2
      obtain ⟨stF2, h7, h8⟩ := qpd hc (fun z hz => hl z (by
        simp only [List.cons_append, List.mem_cons, List.mem_append] at hz ⊢
        rcases hz with h | h
        · exact .inr (.inl h)
        · exact .inr (.inr (.inr h)))) h2 h6
      refine ⟨st1', stF2, h4, ?_, h3.trans h8⟩
      simp only [List.cons_append, qjr, h5]
      exact h7
    · cases h
end W

/-
  Regions whose order is open: simulated.
-/
set_option linter.unusedSimpArgs false
set_option linter.unusedVariables false
namespace W
open Go (World Value Addr IntKind Program TypeId FuncId Operand Act Oper Next Result Sem BinOp UnOp Ending Exit Code Func Fence)
def qdI (acc : Array Nat) (o : Oper) : Array Nat :=
  acc.push (o.after.foldl (fun s e => if Go.Region.binds .any e then s ||| 2 ^ e.on ||| acc.getD e.on 0 else s) 0)
theorem qr5 (ops : Array Oper) : Go.Region.before ops = ops.toList.foldl qdI #[] := by
  unfold Go.Region.before
  rw [← Array.foldl_toList]
  rfl
theorem qjf (acc : Array Nat) : ∀ (l : List Go.Edge) (s j : Nat), (l.foldl (fun s e => if Go.Region.binds .any e then s ||| 2 ^ e.on ||| acc.getD e.on 0 else s) s).testBit j = true →
    s.testBit j = true ∨ ∃ e ∈ l, Go.Region.binds .any e = true ∧ (e.on = j ∨ (acc.getD e.on 0).testBit j = true)
  | [], s, j, h => .inl h
  | e :: l, s, j, h => by
    simp only [List.foldl_cons] at h
    rcases qjf acc l _ j h with h | ⟨e', he', hb, hj⟩
    · split at h
      · rename_i hb
        simp only [Nat.testBit_or, Bool.or_eq_true] at h
        rcases h with (h | h) | h
        · exact .inl h
        · rw [Nat.testBit_two_pow] at h
          exact .inr ⟨e, by simp, hb, .inl (by simpa using h)⟩
        · exact .inr ⟨e, by simp, hb, .inr h⟩
      · exact .inl h
    · exact .inr ⟨e', by simp [he'], hb, hj⟩
theorem qnW : ∀ (l : List Oper) (acc : Array Nat) (i : Nat), i < acc.size → (l.foldl qdI acc).getD i 0 = acc.getD i 0
  | [], acc, i, _ => rfl
  | o :: l, acc, i, h => by
    simp only [List.foldl_cons]
    rw [qnW l _ i (by simp [qdI]; omega)]
    simp only [qdI, Array.getD_eq_getD_getElem?, Array.getElem?_push]
    rw [if_neg (by omega)]
theorem qrl : ∀ (l : List Oper) (acc : Array Nat) (k : Nat) (o : Oper), l[k]? = some o → ∀ j, ((l.foldl qdI acc).getD (acc.size + k) 0).testBit j = true →
    ∃ e ∈ o.after.toList, Go.Region.binds .any e = true ∧ (e.on = j ∨ ((l.foldl qdI acc).getD e.on 0).testBit j = true)
  | [], acc, k, o, h, j, _ => by simp at h
  | o' :: l, acc, 0, o, h, j, hb => by
    simp at h; subst h
    simp only [List.foldl_cons, qDU] at hb
    rw [qnW l _ acc.size (by simp [qdI])] at hb
    have e0 : (qdI acc o').getD acc.size 0 = o'.after.foldl (fun s e => if Go.Region.binds .any e then s ||| 2 ^ e.on ||| acc.getD e.on 0 else s) 0 := by
      simp [qdI]
    rw [e0, ← Array.foldl_toList] at hb
    rcases qjf acc _ _ j hb with h | ⟨e, he, hbi, hj⟩
    · simp at h
    · refine ⟨e, he, hbi, hj.imp id (fun h => ?_)⟩
      have hlt : e.on < acc.size := by
        rcases Nat.lt_or_ge e.on acc.size with h1 | h1
        · exact h1
        · rw [Array.getD_eq_getD_getElem?, Array.getElem?_eq_none (by omega)] at h
          simp at h
      rw [qnW (o' :: l) acc e.on hlt]
      exact h
  | o' :: l, acc, k + 1, o, h, j, hb => by
    simp only [List.foldl_cons] at hb ⊢
    have hs : (qdI acc o').size = acc.size + 1 := by simp [qdI]
    have := qrl l (qdI acc o') k o (by simpa using h) j (by rw [hs, show acc.size + 1 + k = acc.size + (k + 1) by omega]; exact hb)
    exact this
theorem qoi {ops : Array Oper} {i : Nat} {o : Oper} (h : ops[i]? = some o) {j : Nat} (hb : ((Go.Region.before ops).getD i 0).testBit j = true) :
    ∃ e ∈ o.after.toList, Go.Region.binds .any e = true ∧ (e.on = j ∨ ((Go.Region.before ops).getD e.on 0).testBit j = true) := by
  rw [qr5] at hb ⊢
  exact qrl ops.toList #[] i o (by simpa using h) j (by simpa using hb)
section
variable {P : Program} {M : Maps} {call : Call}
theorem qh6 {A : Ann} {rid : Nat} {ops : Array Oper} : ∀ {rest : List Oper} {i : Nat} {l : List Op}, qcG M P A rid ops i rest = some l → l.length = rest.length ∧ ∀ k o, rest[k]? = some o → ∃ q, l[k]? = some q ∧ q.dst = o.dst ∧ gOf ops o.guard = some q.g ∧
    q.k = qdG (qbD M P A (fun k' => (mvs A rid (i + k)).contains k') (match o.dst with | some d => A.loc.contains d | none => false) o.op)
  | [], i, l, h => by simp only [qcG, Option.some.injEq] at h; subst h; exact ⟨rfl, fun k o h => by simp at h⟩
  | o' :: rest, i, l, h => by
    simp only [qcG] at h
    split at h
    · rename_i g' r hg hr
      simp only [Option.some.injEq] at h
      subst h
      obtain ⟨h1, h2⟩ := qh6 hr
      refine ⟨by simp [h1], fun k o ho => ?_⟩
      cases k with
      | zero =>
        simp at ho
        subst ho
        exact ⟨_, rfl, rfl, hg, rfl⟩
      | succ k =>
        obtain ⟨q, q1, q2, q3, q4⟩ := h2 k o (by simpa using ho)
        exact ⟨q, by simpa using q1, q2, q3, by rw [show i + (k + 1) = i + 1 + k by omega]; exact q4⟩
    · cases h
theorem qqy {k : OpK} (h : k.looks = false) : k.isCall = false := by cases k <;> first | rfl | cases h
theorem qlp {ops : Array Oper} {l : List Op} {o o' : Op} {i j : Nat} (ha : o.k.free = true ∨ (o'.k.looks = false ∧ o'.k.free = true)) (s1 : qfD ops l.length i = false) (s2 : qfD ops l.length j = false) (hc : qgN ops l i = true → o'.k.looks = false ∧ o'.k.free = true) :
    qdv ops l o i = false ∨ (o'.k.looks = false ∧ qdv ops l o' j = false) := by
  have right : o'.k.looks = false ∧ o'.k.free = true → o'.k.looks = false ∧ qdv ops l o' j = false := fun h => ⟨h.1, by
    unfold qdv
    rw [h.2, s2, qqy h.1]; rfl⟩
  rcases ha with ha | ha
  · cases h : qgN ops l i with
    | true => exact .inr (right (hc h))
    | false =>
      left
      unfold qdv
      rw [ha, s1, h]; simp
  · exact .inr (right ha)
def qeu (ops : Array Oper) (l : List Op) (i : Nat) : El := (l.getD i default, qdv ops l (l.getD i default) i, qg1 ops l i)
theorem qrs (ops : Array Oper) (l : List Op) : (l.zipIdx.map fun (o, i) => (o, qdv ops l o i, qg1 ops l i)) = (List.range l.length).map (qeu ops l) := by
  apply List.ext_getElem?
  intro k
  simp only [List.getElem?_map, List.getElem?_zipIdx, List.getElem?_range']
  by_cases hk : k < l.length
  · rw [List.getElem?_range hk]
    simp [hk, qeu]
  · rw [List.getElem?_eq_none (by omega), List.getElem?_eq_none (by simp; omega)]
    rfl
theorem qkf {n : Nat} : ∀ {e : Env}, qcA n e = true → qeK n e = e
  | [], _ => rfl
  | (m, v) :: e, h => by
    have h2 : qcA n e = true := by
      cases v <;> first | exact h | (simp only [qcA, qDB] at h; exact h.2)
    simp only [qeK, qkf h2]
    cases v with
    | lp t o =>
      simp only [qcA, qDB, Bool.not_eq_true'] at h
      simp [h.1]
    | _ => rfl
theorem qt6 {bx : Bool} {no : List Nat} {dst : Option Nat} {v : V} {st st' : St} (h : qe1 bx no dst v st = some st') : put dst v st = st' := by
  unfold qe1 at h
  cases dst with
  | none => simpa [put] using h
  | some n =>
    simp only at h
    split at h
    · rw [qDH] at h
      split at h
      · rename_i hb
        simp only [Option.some.injEq] at h
        simp only [qDB] at hb
        rw [← h]
        simp only [put, qkf hb.2]
      · cases h
    · rw [qDH] at h
      split at h
      · cases h
      · simpa [put] using h
    · rename_i hb _
      simp only [Option.some.injEq] at h
      rw [← h, qb5 (fun cs e => hb cs e)]
def rem (n : Nat) (listed : Array Bool) : List Nat := (List.range n).filter fun i => !listed.getD i true
theorem qgO (n : Nat) (listed : Array Bool) : (rem n listed).Pairwise (· < ·) := (List.pairwise_lt_range).filter _
theorem qdK {n i : Nat} {listed : Array Bool} : i ∈ rem n listed ↔ i < n ∧ listed.getD i true = false := by
  simp [rem, List.mem_filter]
theorem qrN {n i : Nat} {listed : Array Bool} (hs : listed.size = n) {pre post : List Nat} (h : rem n listed = pre ++ i :: post) : rem n (listed.setIfInBounds i true) = pre ++ post := by
  have hi : i < listed.size := by
    have : i ∈ rem n listed := by rw [h]; simp
    rw [hs]; exact (qdK.1 this).1
  have e : rem n (listed.setIfInBounds i true) = (rem n listed).filter (fun k => k != i) := by
    unfold rem
    rw [List.filter_filter]
    apply List.filter_congr
    intro k hk
    by_cases hki : k = i
    · subst hki; simp [hi]
    · have : i ≠ k := fun e => hki e.symm
      simp [Array.getElem?_setIfInBounds_ne this, hki]
  rw [e, h]
  have hp := qgO n listed
  rw [h] at hp
  rw [List.pairwise_append] at hp
  obtain ⟨_, h2, h3⟩ := hp
  rw [List.pairwise_cons] at h2
  rw [List.filter_append, List.filter_cons]
  simp only [bne_self_eq_false, qDt, if_false]
  congr 1
  · rw [List.filter_eq_self]
    intro k hk
    have := h3 k hk i (by simp)
    simp; omega
  · rw [List.filter_eq_self]
    intro k hk
    have := h2.1 k hk
    simp; omega
theorem qo2 {ops : Array Oper} (hlex : qqk ops = true) {listed : Array Bool} (hs : listed.size = ops.size) (hr : Go.Region.ready .any ops listed = []) : rem ops.size listed = [] := by
  cases hq : rem ops.size listed with
  | nil => rfl
  | cons i t =>
    exfalso
    have hi : i ∈ rem ops.size listed := by rw [hq]; simp
    obtain ⟨h1, h2⟩ := qdK.1 hi
    have : i ∈ Go.Region.ready .any ops listed := by
      rw [Go.mem_ready]
      refine ⟨h2, ops[i], by simp [h1], fun e he hb => ?_⟩
      simp only [qqk, List.all_eq_true] at hlex
      have h3 := hlex (ops[i], i) (by rw [List.mem_zipIdx_iff_getElem?]; simp [h1]) e (by simpa using he)
      simp only [hb, qDL, Bool.false_or, Nat.blt_eq] at h3
      -- it's smaller: listed
      cases hl : listed.getD e.on false with
      | true => rfl
      | false =>
        exfalso
        have : e.on ∈ rem ops.size listed := qdK.2 ⟨by omega, by
          have hlt : e.on < listed.size := by omega
          simp only [Array.getD_eq_getD_getElem?, Array.getElem?_eq_getElem hlt, Option.getD_some] at hl ⊢
          exact hl⟩
        have hp := qgO ops.size listed
        rw [hq] at this hp
        rcases List.mem_cons.1 this with h | h
        · omega
        · have := (List.pairwise_cons.1 hp).1 _ h; omega
    rw [hr] at this
    cases this
theorem qjM {ops : Array Oper} {listed : Array Bool} (hrem : rem ops.size listed = []) : Go.Region.ready .any ops listed = [] := by
  cases hq : Go.Region.ready .any ops listed with
  | nil => rfl
  | cons i t =>
    exfalso
    have hi : i ∈ Go.Region.ready .any ops listed := by rw [hq]; simp
    rw [Go.mem_ready] at hi
    obtain ⟨h1, o, ho, _⟩ := hi
    have : i ∈ rem ops.size listed := qdK.2 ⟨(Array.getElem?_eq_some_iff.1 ho).1, h1⟩
    rw [hrem] at this; cases this
theorem qrO (hcs : qa1 P M call) (hlo : qa6 call) {F : Fence} (hF : WF F) {m : Nat} {A : Ann} {rid nt : Nat} {ops : Array Oper} {l : List Op} (htr : qcG M P A rid ops 0 ops.toList = some l) (hlex : qqk ops = true) (hord : qgP ops l = true)
    (hdst : ∀ o ∈ ops.toList, ∀ d, o.dst = some d → d < nt) (hnd : ∀ o ∈ ops.toList, F.round = none ∨ qgk o.op) (tl : List Nat) (htl : ∀ z ∈ tl, ∀ j, j < z → ((Go.Region.before ops).getD z 0).testBit j = true) : ∀ (fuel : Nat) (front : List Nat) (listed : Array Bool), listed.size = ops.size → rem ops.size listed = front ++ tl → front.length = fuel →
      (∀ x, listed.getD x false = true → ∀ j, ((Go.Region.before ops).getD x 0).testBit j = true → listed.getD j false = true) →
    ∀ (st stF : St) (g : Gh) (w : World) (β : Nat → Nat) (a : Act), nt ≤ a.tmps.size → qjr call (front.map (qeu ops l)) st = some stF → Rel M g w β st a.tmps →
    ∀ Q : Exit → Act → World → Prop, (∀ listed' a' w' st', listed'.size = ops.size → rem ops.size listed' = tl → (∀ x, listed'.getD x false = true → ∀ j, ((Go.Region.before ops).getD x 0).testBit j = true → listed'.getD j false = true) → Eqv stF st' → Good True M g w a st' a' w' → Go.wpAnyIn F m P .any ops Q tl.length listed' a' w') → Go.wpAnyIn F m P .any ops Q (fuel + tl.length) listed a w := by
  obtain ⟨hlen, hget⟩ := qh6 htr
  have hll : l.length = ops.size := by simpa using hlen
  have noReady := fun listed => qo2 (listed := listed) hlex
  intro fuel
  induction fuel with
  | zero =>
    intro front listed hs hrem hf hcl st stF g w β a hnt hrun hR Q hQ
    have hfr : front = [] := List.eq_nil_of_length_eq_zero hf
    subst hfr
    simp only [qDF, qjr, Option.some.injEq] at hrun
    subst hrun
    rw [qDz]
    exact hQ listed a w st hs (by simpa using hrem) hcl (Eqv.refl _) ⟨⟨g, β, hR, Evo.refl g w, .refl⟩, rfl, fun _ => rfl⟩
  | succ fuel ih =>
    intro front listed hs hrem0 hf hcl st stF g w β a hnt hrun hR Q hQ
    rw [Nat.succ_add]
    refine ⟨fun hr => ?_, fun i hi => ?_⟩
    · have := noReady listed hs hr
      rw [hrem0] at this
      have : front = [] := (List.append_eq_nil_iff.1 this).1
      rw [this] at hf; simp at hf
    · rw [Go.mem_ready] at hi
      obtain ⟨h1, o, ho, hpre⟩ := hi
      have hilt := (Array.getElem?_eq_some_iff.1 ho).1
      have him : i ∈ rem ops.size listed := qdK.2 ⟨hilt, h1⟩
      -- what stands before i is listed
      have hbef : ∀ j, ((Go.Region.before ops).getD i 0).testBit j = true → listed.getD j false = true := fun j hj => by
        obtain ⟨e, he, hb, hj⟩ := qoi ho hj
        have hl := hpre e (by simpa using he) hb
        rcases hj with rfl | hj
        · exact hl
        · exact hcl _ hl j hj
      have hif : i ∈ front := by
        rw [hrem0, List.mem_append] at him
        refine him.resolve_right (fun hz => ?_)
        cases front with
        | nil => simp at hf
        | cons k front =>
          have hkm : k ∈ rem ops.size listed := by rw [hrem0]; simp
          have hsort := qgO ops.size listed
          rw [hrem0, List.pairwise_append] at hsort
          have hk := htl i hz k (hsort.2.2 k (by simp) i hz)
          have h3 := hbef k hk
          have h2 := (qdK.1 hkm).2
          have hlt : k < listed.size := by rw [hs]; exact (qdK.1 hkm).1
          simp only [Array.getD_eq_getD_getElem?, Array.getElem?_eq_getElem hlt, Option.getD_some] at h3 h2
          rw [h3] at h2; cases h2
      obtain ⟨pre, post, hfr⟩ := List.append_of_mem hif
      have hrem : rem ops.size listed = pre ++ i :: (post ++ tl) := by rw [hrem0, hfr]; simp
      have hwhole : front.map (qeu ops l) = pre.map (qeu ops l) ++ qeu ops l i :: post.map (qeu ops l) := by rw [hfr]; simp
      rw [hwhole] at hrun
      obtain ⟨q, hq1, hq2, hq3, hq4⟩ := hget i o (by simpa using ho)
      have hel : (qeu ops l i).1 = q := by simp [qeu, hq1]
      have hsorted := qgO ops.size listed
      obtain ⟨st1, stF', hstep, hrest, heqv⟩ := qpK hlo (x := qeu ops l i) (pre := pre.map (qeu ops l)) (post := post.map (qeu ops l)) (fun y hy => by
          have : ∃ k, y = qeu ops l k := by
            simp only [List.mem_append, List.mem_map, List.mem_cons] at hy
            rcases hy with ⟨k, _, h⟩ | h | ⟨k, _, h⟩
            · exact ⟨k, h.symm⟩
            · exact ⟨i, h⟩
            · exact ⟨k, h.symm⟩
          obtain ⟨k, rfl⟩ := this
          intro hf
          have hf : qdv ops l (l.getD k default) k = false := hf
          unfold qdv at hf
          simp only [Bool.or_eq_false_iff, Bool.not_eq_false'] at hf
          exact hf.1.1) (fun y hy => by
          obtain ⟨k, hk, rfl⟩ := List.mem_map.1 hy
          have hkm : k ∈ rem ops.size listed := by rw [hrem]; simp [hk]
          have hki : k < i := by
            rw [hrem, List.pairwise_append] at hsorted
            exact hsorted.2.2 k hk i (by simp)
          have hnb : ((Go.Region.before ops).getD i 0).testBit k = false := by
            cases hq : ((Go.Region.before ops).getD i 0).testBit k with
            | false => rfl
            | true =>
              have := hbef k hq
              have h2 := (qdK.1 hkm).2
              have hlt : k < listed.size := by rw [hs]; exact (qdK.1 hkm).1
              simp only [Array.getD_eq_getD_getElem?, Array.getElem?_eq_getElem hlt, Option.getD_some] at this h2
              rw [this] at h2; cases h2
          have s1 : qfD ops l.length i = false := by
            unfold qfD
            rw [List.all_eq_false]
            refine ⟨k, by rw [List.mem_range]; omega, ?_⟩
            have b1 : qDG k i = false := by
              cases hq : qDG k i with
              | false => rfl
              | true => have := qDR hq; omega
            have b2 : Nat.blt k i = true := by simpa using hki
            rw [b1, b2, cond_true, hnb]; simp
          have s2 : qfD ops l.length k = false := by
            unfold qfD
            rw [List.all_eq_false]
            refine ⟨i, by rw [List.mem_range]; omega, ?_⟩
            have b1 : qDG i k = false := by
              cases hq : qDG i k with
              | false => rfl
              | true => have := qDR hq; omega
            have b2 : Nat.blt i k = false := by
              cases hq : Nat.blt i k with
              | false => rfl
              | true => have : i < k := by simpa using hq
                        omega
            rw [b1, b2, cond_false, hnb]; simp
          have hkl : k < l.length := by rw [hll]; omega
          have hil : i < l.length := by rw [hll]; omega
          have ek : (qeu ops l k).1 = l[k] := by simp [qeu, hkl]
          have ei : (qeu ops l i).1 = l[i] := by simp [qeu, hil]
          have fk : (qeu ops l k).2.1 = qdv ops l l[k] k := by simp [qeu, hkl]
          have fi : (qeu ops l i).2.1 = qdv ops l l[i] i := by simp [qeu, hil]
          have hbl : Nat.blt k i = true := by simpa using hki
          have hbl2 : Nat.blt i k = false := by
            cases hq : Nat.blt i k with
            | false => rfl
            | true => have : i < k := by simpa using hq
                      omega
          have hne1 : qDG i k = false := by
            cases hq : qDG i k with
            | false => rfl
            | true => have := qDR hq; omega
          have hne2 : qDG k i = false := by
            cases hq : qDG k i with
            | false => rfl
            | true => have := qDR hq; omega
          have hap : Apart l[k] l[i] := by
            simp only [qgP, List.all_eq_true] at hord
            have := hord (l[k], k) (by rw [List.mem_zipIdx_iff_getElem?]; simp [hkl]) (l[i], i) (by rw [List.mem_zipIdx_iff_getElem?]; simp [hil])
            simp only [Bool.or_eq_true, Bool.not_eq_true', hnb, qDt, or_false] at this
            refine ql0 (this.resolve_left ?_)
            rw [hbl]; simp
          have c1 : qgN ops l k = true → l[i].k.looks = false ∧ l[i].k.free = true := fun h => by
            simp only [qgN, List.all_eq_true] at h
            have := h (l[i], i) (by rw [List.mem_zipIdx_iff_getElem?]; simp [hil])
            rw [hne1, hbl2, cond_false, hnb] at this
            simpa using this
          have c2 : qgN ops l i = true → l[k].k.looks = false ∧ l[k].k.free = true := fun h => by
            simp only [qgN, List.all_eq_true] at h
            have := h (l[k], k) (by rw [List.mem_zipIdx_iff_getElem?]; simp [hkl])
            rw [hne2, hbl, cond_true, hnb] at this
            simpa using this
          have e1 : (qeu ops l k).1.k = l[k].k := by rw [ek]
          have e2 : (qeu ops l i).1.k = l[i].k := by rw [ei]
          rw [e1, e2, fk, fi]
          exact ⟨qlp hap.f1 s2 s1 c1, qlp hap.f2 s1 s2 c2⟩) (fun y hy => by
          obtain ⟨k, hk, rfl⟩ := List.mem_map.1 hy
          have hkm : k ∈ rem ops.size listed := by rw [hrem]; simp [hk]
          have hki : k < i := by
            rw [hrem, List.pairwise_append] at hsorted
            exact hsorted.2.2 k hk i (by simp)
          have hnb : ((Go.Region.before ops).getD i 0).testBit k = false := by
            cases hq : ((Go.Region.before ops).getD i 0).testBit k with
            | false => rfl
            | true =>
              have := hbef k hq
              have h2 := (qdK.1 hkm).2
              have hlt : k < listed.size := by rw [hs]; exact (qdK.1 hkm).1
              simp only [Array.getD_eq_getD_getElem?, Array.getElem?_eq_getElem hlt, Option.getD_some] at this h2
              rw [this] at h2; cases h2
          have hkl : k < l.length := by rw [hll]; omega
          have hil : i < l.length := by rw [hll]; omega
          have ek : (qeu ops l k).1 = l[k] := by simp [qeu, hkl]
          have ei : (qeu ops l i).1 = l[i] := by simp [qeu, hil]
          refine ⟨?_, fun n hn => ?_⟩
          · simp only [qgP, List.all_eq_true] at hord
            have := hord (l[k], k) (by rw [List.mem_zipIdx_iff_getElem?]; simp [hkl]) (l[i], i) (by rw [List.mem_zipIdx_iff_getElem?]; simp [hil])
            simp only [Bool.or_eq_true, Bool.not_eq_true', hnb, qDt, or_false] at this
            rw [ek, ei]
            refine ql0 (this.resolve_left ?_)
            have hbl : Nat.blt k i = true := by simpa using hki
            rw [hbl]; simp
          · refine qlr ?_
            show n ∈ qg1 ops l i
            unfold qg1
            rw [List.mem_flatMap]
            refine ⟨(l[k], k), by rw [List.mem_zipIdx_iff_getElem?]; simp [hkl], ?_⟩
            simp only [hnb, qDt, if_false]
            rw [ek] at hn
            exact hn) hrun
      have hrem' := qrN hs hrem
      have hf' : (pre ++ post).length = fuel := by
        rw [hfr] at hf; simp at hf ⊢; omega
      have hcl' : ∀ x, (listed.setIfInBounds i true).getD x false = true → ∀ j, ((Go.Region.before ops).getD x 0).testBit j = true → (listed.setIfInBounds i true).getD j false = true := by
        intro x hx j hj
        by_cases hxi : i = x
        · subst hxi; exact Go.getD_set_true (hbef j hj)
        · rw [Go.getD_set_ne false hxi] at hx
          exact Go.getD_set_true (hcl x hx j hj)
      have go : ∀ {g1 : Gh} {w1 : World} {β1 : Nat → Nat} {a1 : Act}, a1.tmps.size = a.tmps.size → DefOk g1 w w1 a.defers a1.defers → a1.defers = a.defers → Rel M g1 w1 β1 st1 a1.tmps → Evo g w g1 w1 → Go.wpAnyIn F m P .any ops Q (fuel + tl.length) (listed.setIfInBounds i true) a1 w1 := by
        intro g1 w1 β1 a1 hs1 hd1 hq1 hR1 hE1
        refine ih (pre ++ post) _ (by simpa using hs) (by rw [hrem', List.append_assoc]) hf' hcl' st1 stF' g1 w1 β1 a1 (by rw [hs1]; exact hnt) (by rw [List.map_append]; exact hrest) hR1 Q (fun listed' a' w' st' hs2 hr2 hc2 he hg => ?_)
        exact hQ listed' a' w' st' hs2 hr2 hc2 (heqv.trans he) (hg.trans hE1 hs1 hd1 (fun _ => hq1) id)
      have hd : jj o a := fun n hn => Nat.lt_of_lt_of_le (hdst o (by
        have := Array.mem_of_getElem? ho
        simpa using this) n hn) hnt
      unfold Go.wpOpIn
      simp only [ho]
      unfold qgl at hstep
      rw [hel] at hstep
      split at hstep
      · rename_i hw
        rw [qde hR hq3 hw]
        simp only [if_true]
        refine qiN hF (hnd o (by
          have := Array.mem_of_getElem? ho
          simpa using this)) ?_
        split at hstep
        · rename_i r hr
          rw [qDH] at hstep
          split at hstep
          · cases hstep
          · rename_i hp
            have hpan : r.pan = false := by
              simp only [Bool.or_eq_true, not_or] at hp
              simpa using hp.1
            have hput := qt6 hstep
            have hq5 := hr
            rw [hq4] at hq5
            have hq6 := qe9 hq5
            rw [← hq4] at hq6
            refine qp6 hcs hd hR hq6 (fun hloc hn => ?_) hr ⟨fun _ c w1 g1 β1 hR1 hE1 => ?_, fun hp2 => ?_⟩
            · rw [hn] at hloc; simp at hloc
            · rw [← hq2, hput, hq2] at hR1
              exact go (qa3 _ _ _) (qf0 _ _ _) (qaV _ _ _) hR1 hE1
            · rw [hpan] at hp2; cases hp2
        · cases hstep
      · rename_i hw
        rw [qde hR hq3 hw]
        simp only [qDt, if_false]
        simp only [Option.some.injEq] at hstep
        subst hstep
        refine ⟨fun f _ => hF.fn f, ?_⟩
        exact go (qa3 _ _ _) (qf0 _ _ _) (qaV _ _ _) (by rw [hq2]; exact qjb hR hd) (Evo.refl g w)
      · cases hstep
theorem qrV (hm : P.follows .mixedOrders = true) (hcs : qa1 P M call) (hlo : qa6 call) : qru P M call := by
  intro A rid ops l htr hlex hord st e st' hrun g w β a nt hdst hnt hR F m hF hnd Q hQ
  obtain ⟨rfl, hrunD⟩ := qft hrun
  have hll : l.length = ops.size := by simpa using (qh6 htr).1
  refine Go.wpIn_region_any hm ?_
  have hall : ∀ i, i < ops.size → (Array.replicate ops.size false).getD i true = false := fun i hi => by simp [hi]
  have hrem : rem ops.size (Array.replicate ops.size false) = List.range ops.size := by
    unfold rem
    rw [List.filter_eq_self]
    intro i hi
    rw [hall i (by simpa using hi)]; rfl
  have hsm : SameMem w { w with drawn := w.drawn + 1 } := ⟨rfl, rfl, rfl⟩
  refine qrO hcs hlo hF htr hlex hord hdst (qrU hnd) [] (fun z hz => by cases hz) ops.size (List.range ops.size) _ (by simp) (by rw [hrem]; simp) (by simp) (fun x hx => ?_) st st' g { w with drawn := w.drawn + 1 } β a hnt (by rw [← hll, ← qrs]; exact hrunD) (hR.sameMem hsm) Q (fun listed' a' w' st2 hs2 hr2 _ he hg => ⟨qjM hr2, ?_⟩)
  · exfalso
    simp only [Array.getD_eq_getD_getElem?] at hx
    by_cases hlt : x < ops.size
    · simp [hlt] at hx
    · rw [Array.getElem?_eq_none (by simp; omega)] at hx; simp at hx
  · refine hQ .normal a' w' (show Post True M g w a .nrm st' .normal a' w' from ?_)
    obtain ⟨⟨g1, β1, hR1, hE1, hd1⟩, hs1, hq1⟩ := hg
    refine ⟨⟨g1, β1, ⟨?_, fun k => ?_, fun id o ho => ?_, hR1.fresh, hR1.gl⟩, (hsm.evo g).trans hE1, hd1.imp (fun ms h => ⟨h.1, MarksOk.base (w0 := { w with drawn := w.drawn + 1 }) (w0' := w) (qDx _) h.2⟩)⟩, hs1, hq1⟩
    · rw [hR1.n, he.H]
    · rw [← he.e k]; exact hR1.e k
    · exact hR1.h id o (by rw [he.H]; exact ho)
theorem qoV (hm : P.follows .mixedOrders = true) (hcs : qa1 P M call) (hlo : qa6 call) : qoM P M call := by
  intro A rid ops l htr hlex hord hlast st st1 e st' hrunD hrunL g w β a nt hdst hnt hR F m hF hnd Q hQ
  obtain ⟨_, hrunD⟩ := qft hrunD
  obtain ⟨hlen, hget⟩ := qh6 htr
  have hll : l.length = ops.size := by simpa using hlen
  have hne : l ≠ [] := fun h => by subst h; simp [qnh] at hlast
  have hpos : 0 < l.length := by cases l with | nil => exact (hne rfl).elim | cons _ _ => simp
  obtain ⟨z, hz⟩ : ∃ z, l.length = z + 1 := ⟨l.length - 1, by omega⟩
  rw [hz, Nat.add_sub_cancel] at hrunD hrunL
  have hzs : ops.size = z + 1 := by rw [← hll, hz]
  have hbefz : ∀ j, j < z → ((Go.Region.before ops).getD z 0).testBit j = true := by
    simp only [qnh, qDB, List.all_eq_true, hz, Nat.add_sub_cancel] at hlast
    exact fun j hj => hlast.2 j (by simpa using hj)
  refine Go.wpIn_region_any hm ?_
  have hall : ∀ i, i < ops.size → (Array.replicate ops.size false).getD i true = false := fun i hi => by simp [hi]
  have hrem : rem ops.size (Array.replicate ops.size false) = List.range z ++ [z] := by
    have hrs : List.range z ++ [z] = List.range ops.size := by rw [hzs, List.range_succ]
    unfold rem
    rw [hrs, List.filter_eq_self]
    intro i hi
    rw [hall i (by simpa using hi)]; rfl
  have hsm : SameMem w { w with drawn := w.drawn + 1 } := ⟨rfl, rfl, rfl⟩
  have hfront : (l.zipIdx.map fun (o, i) => (o, qdv ops l o i, qg1 ops l i)).take z = (List.range z).map (qeu ops l) := by
    rw [qrs, hz, List.range_succ, List.map_append]
    exact List.take_left' (by simp)
  rw [hfront] at hrunD
  have key := qrO hcs hlo hF (m := m) htr hlex hord hdst (qrU hnd) [z] (fun y hy j hj => by
      rw [List.mem_singleton] at hy; subst hy; exact hbefz j hj) z (List.range z) (Array.replicate ops.size false) (by simp) hrem (by simp) (fun x hx => by
      exfalso
      simp only [Array.getD_eq_getD_getElem?] at hx
      by_cases hlt : x < ops.size
      · simp [hlt] at hx
      · rw [Array.getElem?_eq_none (by simp; omega)] at hx; simp at hx) st st1 g { w with drawn := w.drawn + 1 } β a hnt hrunD (hR.sameMem hsm) Q (fun listed' a' w' st2 hs2 hr2 hc2 he hg => by
    obtain ⟨⟨g1, β1, hR1, hE1, hd1⟩, hs1, hq1⟩ := hg
    have hR1' : Rel M g1 w' β1 st1 a'.tmps := ⟨by rw [← he.H]; exact hR1.n, fun k => by rw [← he.e k]; exact hR1.e k, fun id o ho => hR1.h id o (by rw [he.H]; exact ho), hR1.fresh, hR1.gl⟩
    have fin : ∀ {x : Exit} {a2 : Act} {w2 : World}, Post True M g1 w' a' e st' x a2 w2 → Q x a2 w2 := fun h =>
      hQ _ _ _ ((h.trans hE1 hs1 hd1 (fun _ => hq1 trivial) id).trans (hsm.evo g) rfl .refl (fun _ => rfl) id)
    refine ⟨fun hr => ?_, fun i hi => ?_⟩
    · have := qo2 hlex hs2 hr
      rw [hr2] at this; cases this
    · rw [Go.mem_ready] at hi
      obtain ⟨h1, o, ho, _⟩ := hi
      have him : i ∈ rem ops.size listed' := qdK.2 ⟨(Array.getElem?_eq_some_iff.1 ho).1, h1⟩
      rw [hr2, List.mem_singleton] at him
      subst him
      obtain ⟨q, hq1', hq2, hq3, hq4⟩ := hget i o (by simpa using ho)
      have hdrop : l.drop i = [q] := by
        have hlt : i < l.length := by omega
        rw [List.drop_eq_getElem_cons hlt, List.drop_eq_nil_of_le (by omega)]
        have : l[i]? = some q := by first | exact hq1' | simpa using hq1'
        rw [List.getElem?_eq_getElem hlt] at this
        simpa using this
      rw [hdrop] at hrunL
      have hd : jj o a' := fun n hn => by
        rw [hs1]
        exact Nat.lt_of_lt_of_le (hdst o (by
          have := Array.mem_of_getElem? ho
          simpa using this) n hn) hnt
      have hend : rem ops.size (listed'.setIfInBounds i true) = [] := by
        have := qrN (pre := []) (post := []) hs2 (by simpa using hr2)
        simpa using this
      unfold Go.wpOpIn
      simp only [ho]
      simp only [z6] at hrunL
      split at hrunL
      · rename_i hw
        rw [qde hR1' hq3 hw]
        simp only [if_true]
        refine qiN hF (qrU hnd o (by
          have := Array.mem_of_getElem? ho
          simpa using this)) ?_
        split at hrunL
        · rename_i r hr
          have hq5 := hr
          rw [hq4] at hq5
          have hq6 := qe9 hq5
          rw [← hq4] at hq6
          refine qp6 hcs hd hR1' hq6 (fun hloc hn => ?_) hr ⟨fun hp c w1 g2 β2 hR2 hE2 => ?_, fun hp cv w1 g2 β2 hR2 hE2 hv => ?_⟩
          · rw [hn] at hloc; simp at hloc
          · simp only [hp, cond_false, Option.some.injEq, Prod.mk.injEq] at hrunL
            obtain ⟨rfl, rfl⟩ := hrunL
            refine ⟨qjM hend, fin (show Post True M g1 w' a' .nrm _ .normal _ w1 from ⟨⟨g2, β2, ?_, hE2, qf0 _ _ _⟩, qa3 _ _ _, fun _ => qaV _ _ _⟩)⟩
            rw [hq2]
            exact hR2
          · simp only [hp, cond_true, Option.some.injEq, Prod.mk.injEq] at hrunL
            obtain ⟨rfl, rfl⟩ := hrunL
            exact fin (show Post True M g1 w' a' (.pan r.v) r.st (.panic _) a' w1 from ⟨⟨g2, cv, β2, rfl, hR2, hE2, hv, .refl⟩, rfl, fun _ => rfl⟩)
        · cases hrunL
      · rename_i hw
        rw [qde hR1' hq3 hw]
        simp only [qDt, if_false]
        simp only [Option.some.injEq, Prod.mk.injEq] at hrunL
        obtain ⟨rfl, rfl⟩ := hrunL
        refine ⟨fun f _ => hF.fn f, qjM hend, fin (show Post True M g1 w' a' .nrm _ .normal _ w' from ⟨⟨g1, β1, ?_, Evo.refl g1 w', qf0 _ _ _⟩, qa3 _ _ _, fun _ => qaV _ _ _⟩)⟩
        rw [hq2]
        exact qjb hR1' hd
      · cases hrunL)
  rw [show z + [z].length = ops.size by rw [hzs]; rfl] at key
  exact key
theorem sound {pg : Pg} (hm : P.follows .mixedOrders = true) (hT : Tab P M pg) (hx : qa1 P M pg.ext) (hxlo : qa6 pg.ext) (n : Nat) : qa1 P M (qdx pg n) := by
  have key : ∀ n, qf5 P M (exec pg n) := qpj (fun n h => qgZ hT hx (qer hxlo n) h (qh8 n)) (fun n hcs => ⟨qrV hm hcs (qdY hxlo (qer hxlo n)), qoV hm hcs (qdY hxlo (qer hxlo n))⟩) (fun n h => qoG hT.2 h)
  exact qgZ hT hx (qer hxlo n) (key n) (qh8 n)
theorem qo8 {pg : Pg} (hm : P.follows .mixedOrders = true) (hT : Tab P M pg) (hx : qa1 P M pg.ext) (hxlo : qa6 pg.ext) {n i : Nat} {vs : List V} {H : List Obj} {r : Cr} (hcall : qdx pg n i vs H = some r) {f' : FuncId} (hlook : look M.fm f' = some i) (hext : pg.fn i ≠ none)
    {g : Gh} {w : World} {argv : List Value} (hargs : ArgsRep M g w 0 vs argv) (hH : RelH M g w H) : Go.Calls P f' argv.toArray w (jQ M g w r) := by
  have key : ∀ n, qf5 P M (exec pg n) := qpj (fun n h => qgZ hT hx (qer hxlo n) h (qh8 n)) (fun n hcs => ⟨qrV hm hcs (qdY hxlo (qer hxlo n)), qoV hm hcs (qdY hxlo (qer hxlo n))⟩) (fun n h => qoG hT.2 h)
  exact (qhS hT (qer hxlo n) (key n) (qh8 n) hcall hlook hext hargs hH).1
end
end W

/-
  What the kernel works out of a call on closed data, as a fact about the call.
-/
set_option linter.unusedSimpArgs false
set_option linter.unusedVariables false
namespace W
open Go (IntKind BinOp UnOp)
mutual
def eqD : D → D → Bool
  | .b x, .b y => x == y
  | .i k x, .i k' y => eqK k k' && eqI x y
  | .s x, .s y => eqT x y
  | .nil, .nil => true
  | .sl x, .sl y => qq1 x y
  | .agg x, .agg y => qq1 x y
  | .np, .np => true
  | .nf, .nf => true
  | .ni, .ni => true
  | .nm, .nm => true
  | _, _ => false
def qq1 : List D → List D → Bool
  | [], [] => true
  | x :: l, y :: r => eqD x y && qq1 l r
  | _, _ => false
end
theorem qAM {k k' : IntKind} (h : eqK k k' = true) : k = k' := by cases k <;> cases k' <;> first | rfl | cases h
theorem qAy {x y : Int} (h : eqI x y = true) : x = y := by
  cases x <;> cases y <;> first | (have := qDR h; subst this; rfl) | cases h
theorem qv3 : ∀ {x y : List Nat}, eqT x y = true → x = y
  | [], [], _ => rfl
  | a :: x, b :: y, h => by
    simp only [eqT, qDB] at h
    rw [qDR h.1, qv3 h.2]
  | [], _ :: _, h => by cases h
  | _ :: _, [], h => by cases h
mutual
theorem quA : ∀ {x y : D}, eqD x y = true → x = y
  | .b x, y, h => by cases y <;> simp only [eqD] at h <;> first | cases h | skip; rw [eq_of_beq h]
  | .i k x, y, h => by
    cases y <;> simp only [eqD] at h <;> first | cases h | skip
    simp only [qDB] at h
    rw [qAM h.1, qAy h.2]
  | .s x, y, h => by cases y <;> simp only [eqD] at h <;> first | cases h | skip; rw [qv3 h]
  | .nil, y, h => by cases y <;> simp only [eqD] at h <;> first | rfl | (cases h; done) | (cases h; rfl)
  | .sl x, y, h => by cases y <;> simp only [eqD] at h <;> first | cases h | skip; rw [qnf h]
  | .agg x, y, h => by cases y <;> simp only [eqD] at h <;> first | cases h | skip; rw [qnf h]
  | .np, y, h => by cases y <;> simp only [eqD] at h <;> first | rfl | (cases h; done) | (cases h; rfl)
  | .nf, y, h => by cases y <;> simp only [eqD] at h <;> first | rfl | (cases h; done) | (cases h; rfl)
  | .ni, y, h => by cases y <;> simp only [eqD] at h <;> first | rfl | (cases h; done) | (cases h; rfl)
  | .nm, y, h => by cases y <;> simp only [eqD] at h <;> first | rfl | (cases h; done) | (cases h; rfl)
theorem qnf : ∀ {x y : List D}, qq1 x y = true → x = y
  | [], [], _ => rfl
  | a :: x, b :: y, h => by
    simp only [qq1, qDB] at h
    rw [quA h.1, qnf h.2]
  | [], _ :: _, h => by simp [qq1] at h
  | _ :: _, [], h => by simp [qq1] at h
end
def isD (r : Option Cr) (x : D) : Bool := match r with
  | some ⟨false, true, .d y, _, _⟩ => eqD y x
  | _ => false
theorem qsn {pg : Pg} (hx : qa6 pg.ext) {f : Nat} {vs : List V} {H H' : List Obj} {v : V} {lo : Nat} (h : qs pg f vs H = some ⟨false, true, v, H', lo⟩) : qs pg f vs H = some ⟨false, true, v, H, lo⟩ := by
  obtain ⟨n, hn⟩ := qdr.1 h
  have hlo := (qdY hx (qer hx n) _ _ _ _ hn).2.2 rfl
  simp only at hlo
  rw [hlo] at h
  exact h
theorem qlZ {pg : Pg} (hx : qa6 pg.ext) {N f : Nat} {vs : List V} {H : List Obj} {x : D} (h : isD (qf2 pg N f vs H) x = true) : ∃ lo, qs pg f vs H = some ⟨false, true, .d x, H, lo⟩ := by
  unfold isD at h
  split at h
  · rename_i y H' lo hr
    rw [quA h] at hr
    exact ⟨lo, qsn hx (qs1 hr)⟩
  · cases h
end W

/- Where all below the heap's end is as it was. -/
set_option linter.unusedSimpArgs false
set_option linter.unusedVariables false
namespace W
open Go (World Value Addr IntKind Program TypeId FuncId Operand Act Oper Next Result Sem BinOp UnOp Ending Exit Code Func Calls)
open Go.RowKit (Below)
theorem qtJ {M : Maps} {g : Gh} {w w' : World} {H : List Obj} (hH : RelH M g w H) (h : Below w.heap.size w w') : RelH M g w' H ∧ Evo g w g w' := by
  have hg : Grow g w g w' := ⟨h.size, fun _ => qDx _, fun b o ho => by
    have hb : b < w.heap.size := by
      rcases Nat.lt_or_ge b w.heap.size with h1 | h1
      · exact h1
      · rw [(hH.fresh b h1).2] at ho; omega
    simp only [World.cell?, h.block b hb]⟩
  have hk : ∀ ℓ, Kept g w g w' ℓ := fun ℓ => ⟨fun b hb => by
    have : b < w.heap.size := by
      rcases Nat.lt_or_ge b w.heap.size with h1 | h1
      · exact h1
      · rw [(hH.fresh b h1).1] at hb; cases hb
    exact ⟨hb, h.block b this, rfl⟩⟩
  exact ⟨⟨hH.n, fun id o ho => (hH.h id o ho).mono hg (qDx _) (fun _ _ => rfl) (by rw [hH.n]; exact (List.getElem?_eq_some_iff.1 ho).1) (hk _) (fun i => hk _), fun b hb => hH.fresh b (Nat.le_trans h.size hb), hH.gl.mono hg⟩,
    ⟨hg, qDx _, fun _ _ => rfl, fun b hb _ => ⟨rfl, h.block b hb, rfl⟩, h.os, h.output⟩⟩
end W

set_option linter.unusedSimpArgs false
set_option linter.unusedVariables false
namespace W
open Go (IntKind BinOp UnOp)
set_option maxRecDepth 20000
def ixN (c : Nat) : List Nat → Int
  | [] => -1
  | x :: l => bif qDG x c then 0 else (match ixN c l with | .ofNat n => .ofNat (n + 1) | .negSucc _ => -1)
def ixX (vs : List V) (H : List Obj) : Option Cr :=
  match vs with
  | [.d (.s t), .d (.i .u8 c)] => some ⟨false, true, .d (.i .i64 (ixN (c.toNat % 256) t)), H, H.length⟩
  | _ => none
def teX (vs : List V) (H : List Obj) : Option Cr :=
  match vs with
  | [.d (.s _), .d (.s t), .d (.i .i64 _), .d (.i .i64 _), .ifc 323 (.d (.i .i64 e))] => bif (eqI e 1 || eqI e 2) && Nat.ble t.length 1000000000000 then some ⟨false, true, .ifc 325 .undef, H, H.length⟩ else none
  | _ => none
def KW : List (List Nat) := [[65, 82, 82, 65, 89], [66, 69, 71, 73, 78], [66, 89], [67, 65, 83, 69], [67, 79, 78, 83, 84], [68, 73, 86], [68, 79], [69, 76, 83, 69], [69, 76, 83, 73, 70], [69, 78, 68], [70, 65, 76, 83, 69], [70, 79, 82], [73, 70], [73, 77, 80, 79, 82, 84], [73, 78], [73, 83], [77, 79, 68], [77, 79, 68, 85, 76, 69], [78, 73, 76], [79, 70], [79, 82], [80, 79, 73, 78, 84, 69, 82], [80, 82, 79, 67, 69, 68, 85, 82, 69], [82, 69, 67, 79, 82, 68], [82, 69, 80, 69, 65, 84], [82, 69, 84, 85, 82, 78], [84, 72, 69, 78], [84, 79], [84, 82, 85, 69], [84, 89, 80, 69], [85, 78, 84, 73, 76], [86, 65, 82], [87, 72, 73, 76, 69]]
def kwX (vs : List V) (H : List Obj) : Option Cr :=
  match vs with
  | [] => some ⟨false, true, .d (.sl (KW.map D.s)), H, H.length⟩
  | _ => none
def pgA : Pg := ⟨fun n => bif qDG n 257 then none else bif qDG n 304 then none else prog n, fun i vs H => bif qDG i 257 then ixX vs H else bif qDG i 304 then teX vs H else none⟩
def pg : Pg := ⟨fun n => bif qDG n 257 then none else bif qDG n 304 then none else bif qDG n 261 then none else prog n, fun i vs H => bif qDG i 257 then ixX vs H else bif qDG i 304 then teX vs H else bif qDG i 261 then kwX vs H else none⟩
theorem qjg {H : List Obj} {v : V} {r : Cr} (h : some (⟨false, true, v, H, H.length⟩ : Cr) = some r) : H.length ≤ r.H.length ∧ (∀ id, id < r.lo → id < H.length → r.H[id]? = H[id]?) ∧ (r.same = true → r.H = H) := by
  cases h
  exact ⟨qDx _, fun _ _ _ => rfl, fun _ => rfl⟩
theorem qqd {vs : List V} {H : List Obj} {r : Cr} (h : ixX vs H = some r) : H.length ≤ r.H.length ∧ (∀ id, id < r.lo → id < H.length → r.H[id]? = H[id]?) ∧ (r.same = true → r.H = H) := by
  unfold ixX at h
  split at h
  · exact qjg h
  · cases h
theorem quW {vs : List V} {H : List Obj} {r : Cr} (h : teX vs H = some r) : H.length ≤ r.H.length ∧ (∀ id, id < r.lo → id < H.length → r.H[id]? = H[id]?) ∧ (r.same = true → r.H = H) := by
  unfold teX at h
  split at h
  · rw [qDH] at h
    split at h
    · exact qjg h
    · cases h
  · cases h
theorem qrk : qa6 pgA.ext := by
  intro i vs H r h
  simp only [pgA, qDH] at h
  split at h
  · exact qqd h
  · split at h
    · exact quW h
    · cases h
theorem qnq : qa6 pg.ext := by
  intro i vs H r h
  simp only [pg, qDH] at h
  split at h
  · exact qqd h
  · split at h
    · exact quW h
    · split at h
      · unfold kwX at h
        split at h
        · exact qjg h
        · cases h
      · cases h
theorem qyZ : isD (qf2 pgA 3000 261 [] []) (.sl (KW.map D.s)) = true := by decide +kernel
theorem qrS {H : List Obj} : qs pg 261 [] H = some ⟨false, true, .d (.sl (KW.map D.s)), H, H.length⟩ := by
  rw [qd4]
  unfold js
  rw [show pg.fn 261 = none from rfl]
  rfl
theorem qrx {t : List Nat} {c : Nat} (hc : c < 256) {H : List Obj} : qs pg 257 [.d (.s t), .d (.i .u8 c)] H = some ⟨false, true, .d (.i .i64 (ixN c t)), H, H.length⟩ := by
  have : (c : Int).toNat % 256 = c := by simp; omega
  rw [qd4]
  unfold js
  rw [show pg.fn 257 = none from rfl]
  show ixX [.d (.s t), .d (.i .u8 c)] H = _
  rw [ixX, this]
theorem qxT {f t : List Nat} {b z e : Int} (he : e = 1 ∨ e = 2) (ht : t.length ≤ 1000000000000) {H : List Obj} : qs pg 304 [.d (.s f), .d (.s t), .d (.i .i64 b), .d (.i .i64 z), .ifc 323 (.d (.i .i64 e))] H = some ⟨false, true, .ifc 325 .undef, H, H.length⟩ := by
  rw [qd4]
  have h1 : Nat.ble t.length 1000000000000 = true := by simpa using ht
  unfold js
  rw [show pg.fn 304 = none from rfl]
  show teX [.d (.s f), .d (.s t), .d (.i .i64 b), .d (.i .i64 z), .ifc 323 (.d (.i .i64 e))] H = _
  rcases he with rfl | rfl <;> simp only [teX, h1] <;> rfl
def pre (t l : List Nat) : Bool := decide (l.take t.length = t)
theorem qww {l : List Nat} {n : Nat} (h : n ≤ l.length) : qg2 (.d (.s l)) none (some (n : Int)) = some (.d (.s (l.take n))) := by
  rw [qlV (by simp) (by simp) (by simp; omega)]
  simp
theorem qxJ {l : List Nat} {n : Nat} (h : n ≤ l.length) : qg2 (.d (.s l)) (some (n : Int)) none = some (.d (.s (l.drop n))) := by
  rw [qlV (by simp) (by simp; omega) (by simp)]
  simp
theorem qvU {l : List Nat} {a b : Nat} (h : a ≤ b) (h2 : b ≤ l.length) : qg2 (.d (.s l)) (some (a : Int)) (some (b : Int)) = some (.d (.s ((l.take b).drop a))) := by
  rw [qlV (by simp) (by simp; omega) (by simp; omega)]
  simp
theorem qvA {l t : List Nat} {H : List Obj} : qs pg 299 [.d (.s l), .d (.s t)] H = some ⟨false, true, .d (.b (pre t l)), H, H.length⟩ := by
  rw [qK (fn := j0) rfl rfl]
  by_cases h : t.length ≤ l.length
  · have h1 : ((t.length : Int) ≤ (l.length : Int)) = True := by rw [eq_iff_iff]; simp; omega
    have h2 := qww h
    simp only [j0, k_, o_, m_, e_, q_, qn, qDz, Nat.reduceAdd, qu, qw, qx, qk, qd, kS, qG, qI, qZ, qa, qc, kL, reduceCtorEq, qH, qE, qy, qz, qM, kT, ql, Nat.reduceEqDiff, qi, kf, qDJ, jz, h1, decide_true, qS, ky, kh, ↓reduceIte, qd2, qhn, qeV, qk1, qgr, h2, j6, qD, ku, qQ, qO, qj, qT, kX, qm, qB, qU, qC, ji, kD, z1, pre]
    all_goals rfl
  · have h1 : ((t.length : Int) ≤ (l.length : Int)) = False := by rw [eq_iff_iff]; simp; omega
    have h2 : pre t l = false := by
      simp only [pre, decide_eq_false_iff_not]
      intro e
      have := congrArg List.length e
      simp at this
      omega
    simp only [j0, k_, o_, m_, e_, q_, qn, qDz, Nat.reduceAdd, qu, qw, qx, qk, qd, kS, qG, qI, qZ, qa, qc, kL, reduceCtorEq, qH, qE, qy, qz, qM, kT, ql, Nat.reduceEqDiff, qi, kf, qDJ, jz, h1, decide_false, qS, ky, kh, qDt, ↓reduceIte, kr, qD, qY, z7, qQ, qO, qj, qT, kX, qm, qB, qU, qC, ji, kD, z1, h2]
    all_goals rfl
theorem qwK {l t : List Nat} {H : List Obj} : qs pg 255 [.d (.s l), .d (.s t)] H = some ⟨false, true, .d (.b (pre t l)), H, H.length⟩ := by
  rw [qK (fn := qcr) rfl rfl]
  simp only [qcr, k_, o_, v_, c_, qn, qDz, Nat.reduceAdd, qu, qw, qx, qk, qd, kS, qG, qI, qZ, qa, qc, jW, reduceCtorEq, qH, qE, zn, kG, Nat.reduceEqDiff, qt, qDy, qDF, qf, qC, qh, qDA, qV, qvA, qr, qe, qg, Nat.min_self, qQ, qO, qj, qT, kX, qm, qB, qU, ji, kD, z1]
  all_goals rfl
abbrev sc (s : List Nat) (a : Nat) : Obj := .cells [.d (.s s), .d (.i .i64 (a : Int))]
theorem qfN {s t : List Nat} {a id : Nat} {H : List Obj} (hH : H[id]? = some (sc s a)) (ha : a ≤ s.length) : qs pg 178 [.ptr id 0, .d (.s t)] H = some ⟨false, true, .d (.b (pre t (s.drop a))), H, H.length⟩ := by
  rw [qK (fn := qcM) rfl rfl]
  have h2 := qxJ ha
  simp only [qcM, k_, o_, m_, a_, h_, v_, c_, qn, qDz, Nat.reduceAdd, qu, qw, qx, qk, qd, kS, qG, qI, qZ, qa, qc, jP, jl, kL, reduceCtorEq, qH, qE, kp, qz, jk, yd, jm, qR, ql, qb, zX, qDU, qq, kv, hH, zk, qDu, qDw, q9, y9, qDv, qd2, Nat.reduceEqDiff, qy, qeV, qk1, qhn, qgr, h2, jW, zn, kG, qt, qDy, qDF, qf, qC, qh, qDA, qV, qwK, qr, qe, qg, Nat.min_self, zq, zr, qQ, qO, qj, qT, kX, qm, qB, qU, ji, kD, z1]
  all_goals rfl
def cLt (c : Nat) : Bool := (decide (97 ≤ c) && decide (c ≤ 122)) || (decide (65 ≤ c) && decide (c ≤ 90))
def cDg (c : Nat) : Bool := decide (48 ≤ c) && decide (c ≤ 57)
def cHx (c : Nat) : Bool := cDg c || (decide (65 ≤ c) && decide (c ≤ 70))
def cNm (c : Nat) : Bool := cLt c || cDg c
def cTx (c : Nat) : Bool := decide (32 ≤ c) && !decide (c = 34)
theorem qkt {c : Nat} {H : List Obj} : qs pg 174 [.d (.i .u8 c)] H = some ⟨false, true, .d (.b (cLt c)), H, H.length⟩ := by
  rw [qK (fn := qeQ) rfl rfl]
  have e1 : ((97 : Int) ≤ (c : Int)) = (97 ≤ c) := by rw [eq_iff_iff]; omega
  have e2 : ((c : Int) ≤ 122) = (c ≤ 122) := by rw [eq_iff_iff]; omega
  have e3 : ((65 : Int) ≤ (c : Int)) = (65 ≤ c) := by rw [eq_iff_iff]; omega
  have e4 : ((c : Int) ≤ 90) = (c ≤ 90) := by rw [eq_iff_iff]; omega
  by_cases h1 : 97 ≤ c <;> by_cases h2 : c ≤ 122 <;> by_cases h3 : 65 ≤ c <;> by_cases h4 : c ≤ 90
  all_goals simp only [qeQ, k_, o_, m_, q_, qn, qDz, qu, qw, qx, qk, qd, kS, qG, qI, qZ, qa, qc, kL, reduceCtorEq, qH, qE, qy, qz, qi, kf, kA, qDC, jz, e1, h1, decide_true, ql, qS, ky, kh, ↓reduceIte, Nat.reduceEqDiff, jS, e2, h2, qD, ku, kx, qDL, qDt, kr, qia, qY, qar, qQ, qO, qj, qT, kX, qm, qB, qU, qC, ji, kD, z1, cLt, qDA, h3, h4, qDJ, decide_false, Bool.and_false, Bool.or_false, Bool.and_true, qDM, e3, e4, z7]
  all_goals rfl
theorem qiH {c : Nat} {H : List Obj} : qs pg 176 [.d (.i .u8 c)] H = some ⟨false, true, .d (.b (cDg c)), H, H.length⟩ := by
  rw [qK (fn := qfk) rfl rfl]
  have e1 : ((48 : Int) ≤ (c : Int)) = (48 ≤ c) := by rw [eq_iff_iff]; omega
  have e2 : ((c : Int) ≤ 57) = (c ≤ 57) := by rw [eq_iff_iff]; omega
  by_cases h1 : 48 ≤ c <;> by_cases h2 : c ≤ 57
  all_goals simp only [qfk, k_, o_, m_, q_, qn, qDz, qu, qw, qx, qk, qd, kS, qG, qI, qZ, qa, qc, kL, reduceCtorEq, qH, qE, qy, qz, qi, kf, kA, qDC, jz, e1, h1, decide_true, ql, qS, ky, kh, ↓reduceIte, Nat.reduceEqDiff, jS, e2, h2, qD, ku, qQ, qO, qj, qT, kX, qm, qB, qU, qC, ji, kD, z1, cDg, qDA, decide_false, Bool.and_false, qDt, kr, qY, z7, Bool.and_true]
  all_goals rfl
theorem quu {c : Nat} {H : List Obj} : qs pg 262 [.d (.i .u8 c)] H = some ⟨false, true, .d (.b (cHx c)), H, H.length⟩ := by
  rw [qK (fn := qgG) rfl rfl]
  have e1 : ((65 : Int) ≤ (c : Int)) = (65 ≤ c) := by rw [eq_iff_iff]; omega
  have e2 : ((c : Int) ≤ 70) = (c ≤ 70) := by rw [eq_iff_iff]; omega
  have hd := qiH (c := c) (H := H)
  cases hq : cDg c <;> rw [hq] at hd <;> by_cases h1 : 65 ≤ c <;> by_cases h2 : c ≤ 70
  all_goals simp only [qgG, k_, o_, m_, c_, v_, q_, qn, qDz, qu, qw, qx, qk, qd, kS, qG, qI, qZ, qa, qc, kL, reduceCtorEq, qH, qE, qy, qz, qt, qDy, qDF, qf, qC, qh, qDA, qV, hd, qr, qe, qg, Nat.min_self, jW, zn, kG, qS, kx, qDM, kh, ↓reduceIte, Nat.reduceEqDiff, qi, kf, kA, qDC, jz, e1, h1, decide_true, ql, ky, jS, e2, h2, qD, ku, qDt, qQ, qO, qj, qT, kX, qm, qB, qU, ji, kD, z1, cHx, hq, decide_false, Bool.and_false, qDJ, kr, qY, z7, Bool.and_true, qDL, qia, qar, Bool.or_false]
  all_goals rfl
theorem qqi {c : Nat} {H : List Obj} : qs pg 260 [.d (.i .u8 c)] H = some ⟨false, true, .d (.b (cNm c)), H, H.length⟩ := by
  rw [qK (fn := qfa) rfl rfl]
  have hl := qkt (c := c) (H := H)
  have hd := qiH (c := c) (H := H)
  cases hq : cDg c <;> rw [hq] at hd <;> cases hr : cLt c <;> rw [hr] at hl
  all_goals simp only [qfa, k_, o_, m_, c_, v_, q_, qn, qDz, qu, qw, qx, qk, qd, kS, qG, qI, qZ, qa, qc, kL, reduceCtorEq, qH, qE, qy, qz, qt, qDy, qDF, qf, qC, qh, qDA, qV, hl, qr, qe, qg, Nat.min_self, jW, zn, kG, qS, kx, qDM, kh, ↓reduceIte, Nat.reduceEqDiff, hd, qD, ku, qDt, ql, qQ, qO, qj, qT, kX, qm, qB, qU, ji, kD, z1, cNm, hr, hq, qDJ, qDL, kr, qY, qar, Bool.or_false, qDC]
  all_goals rfl
theorem qqb {c : Nat} {H : List Obj} : qs pg 264 [.d (.i .u8 c)] H = some ⟨false, true, .d (.b (cTx c)), H, H.length⟩ := by
  rw [qK (fn := qbI) rfl rfl]
  have e1 : ((32 : Int) ≤ (c : Int)) = (32 ≤ c) := by rw [eq_iff_iff]; omega
  have e2 : ((c : Int) = 34) = (c = 34) := by rw [eq_iff_iff]; omega
  by_cases h1 : 32 ≤ c <;> by_cases h2 : c = 34
  all_goals simp only [qbI, k_, o_, m_, q_, h2, qDW, qn, qDz, qu, qw, qx, qk, qd, kS, qG, qI, qZ, qa, qc, kL, reduceCtorEq, qH, qE, qy, qz, qi, kf, kA, qDC, jz, Int.reduceLE, decide_true, ql, qS, ky, kh, ↓reduceIte, Nat.reduceEqDiff, qff, qDL, qD, ku, qQ, qO, qj, qT, kX, qm, qB, qU, qC, ji, kD, z1, cTx, Nat.reduceLeDiff, Bool.and_false, e1, h1, e2, decide_false, qDM, qDA, qDt, kr, qY, z7, Bool.and_true]
  all_goals rfl
def run (P : Nat → Bool) : List Nat → Nat
  | [] => 0
  | c :: l => bif P c then run P l + 1 else 0
theorem qgR (P : Nat → Bool) : ∀ l, run P l ≤ l.length
  | [] => qDx _
  | c :: l => by simp only [run]; cases P c <;> simp [qgR P l]
theorem qdW {a e : Int} {H : List Obj} : qs pg 258 [.d (.i .i64 a), .d (.i .i64 e)] H = some ⟨true, true, .ifc 157 (.d (.agg [.i .i64 a, .i .i64 e])), H, H.length⟩ := by
  rw [qK (fn := qf9) rfl rfl]
  simp only [qf9, m_, o_, z_, qn, qDz, Nat.reduceAdd, qu, qx, qk, qd, kL, qE, qy, qz, qI, qZ, Nat.reduceEqDiff, qH, reduceCtorEq, k9, qDy, qDF, z8, kP, kU, qDE, qDD, Nat.reduceLT, yb, qDK, qDO, zS, zU, kY, ju, za, kz, kJ, ql, jT, ym, qDA, Nat.reduceLeDiff, qcP, qDT, List.nil_append, qDX, qDQ, List.append_nil, qci, qep, qcN, qeU, qaT, qhu, qbb, y7, qdd, qkv, qfU, ji, qdR, z1]
  all_goals rfl
theorem qhX {s : List Nat} {a : Nat} (h : a < s.length) : s.drop a = s[a] :: s.drop (a + 1) := by simp
theorem qqC {F : Nat} {P : Nat → Bool} (hF : ∀ c H, qs pg F [.d (.i .u8 ((c : Nat) : Int))] H = some ⟨false, true, .d (.b (P c)), H, H.length⟩) {s : List Nat} (hz : s.length ≤ 1000000000000) {id : Nat} {z : Int} :
    ∀ (k a : Nat) (H : List Obj), s.length - a = k → a ≤ s.length → H[id]? = some (sc s a) → ∀ lo, lo ≤ H.length → ∃ lo', min lo id ≤ lo' ∧ (run P (s.drop a) = 0 ∨ lo' ≤ id) ∧ lo' ≤ lo ∧ qb3 0 [0, 5] (qba pg (.ptr id 0) (.fn F [] []) (.d (.i .i64 z)) H lo) = some (.nrm, ⟨[(0, .ptr id 0), (5, .d (.i .i64 z))], kO H id (sc s (a + run P (s.drop a))), lo'⟩) := by
  intro k
  induction k with
  | zero =>
    intro a H hk ha hH lo hlo
    obtain rfl : a = s.length := by omega
    have h1 : ((s.length : Int) < (s.length : Int)) = False := by simp
    have hr : run P (s.drop s.length) = 0 := by simp [run]
    refine ⟨lo, Nat.min_le_left _ _, .inl hr, qDx _, ?_⟩
    rw [qdg]
    simp only [y6, m_, o_, a_, h_, e_, q_, l_, g_, z_, zV, qcd, kc, qw, jP, jl, qd, kL, qE, kp, qz, jk, yd, jm, qR, ql, qb, zX, qDz, qq, kv, hH, zk, qDv, qDu, qDw, q9, y9, reduceCtorEq, qH, qDU, qM, qy, kT, qi, kf, qDJ, Nat.reduceEqDiff, kq, h1, decide_false, zq, qdo, ky, qej, qDt, ↓reduceIte, kr, qD, qY, kS, z7, zr, qc, qA, qL, j7, zY, zC, qo, qp]
    rw [hr, qDU, qaP hH]
    all_goals rfl
  | succ k ih =>
    intro a H hk ha hH lo hlo
    have h1 : ((a : Int) < (s.length : Int)) = True := by rw [eq_iff_iff]; simp; omega
    have hlt : a < s.length := by omega
    have hix : ixV (.d (.s s)) (.d (.i .i64 (a : Int))) = some (.d (.i .u8 ((s[a] : Nat) : Int))) := qoD (by omega) (by simp)
    have hw : wr .i64 ((a : Int) + 1) = ((a + 1 : Nat) : Int) := by rw [qby (by omega) (by omega)]; omega
    have hf := hF s[a] H
    have hdr := qhX hlt
    rw [qdg]
    have hm : min lo H.length = lo := by omega
    cases hp : P s[a] with
    | false =>
      rw [hp] at hf
      have hr : run P (s.drop a) = 0 := by rw [hdr]; simp [run, hp]
      refine ⟨lo, Nat.min_le_left _ _, .inl hr, qDx _, ?_⟩
      simp only [y6, m_, o_, a_, h_, e_, q_, l_, g_, z_, zV, qcd, kc, qw, jP, jl, qd, kL, qE, kp, qz, jk, yd, jm, qR, ql, qb, zX, qDz, qq, kv, hH, zk, qDv, qDu, qDw, q9, y9, reduceCtorEq, qH, qDU, qM, qy, kT, qi, kf, qDJ, Nat.reduceEqDiff, kq, h1, decide_true, zq, qdo, ky, qej, ↓reduceIte, qdn, qnl, kZ, hix, qt, qfd, qDy, qDF, qf, qC, qh, qDA, qlX, hf, qr, qe, qg, hm, qD, kS, ku, zr, qc, qA, qL, qDt, j7, zY, zC, qo, qp]
      rw [hr, qDU, qaP hH]
      all_goals rfl
    | true =>
      rw [hp] at hf
      have hr : a + run P (s.drop a) = (a + 1) + run P (s.drop (a + 1)) := by rw [hdr]; simp only [run, hp, cond_true]; omega
      have hid : id < H.length := (List.getElem?_eq_some_iff.1 hH).1
      have hH2 : (kO H id (sc s (a + 1)))[id]? = some (sc s (a + 1)) := yn hH
      obtain ⟨lo', g1, g2, g3, ih'⟩ := ih (a + 1) (kO H id (sc s (a + 1))) (by omega) (by omega) hH2 (min lo id) (by simp only [zi]; omega)
      rw [hr]
      rw [yS] at ih'
      refine ⟨lo', by omega, .inr (by omega), by omega, ?_⟩
      simp only [y6, m_, o_, a_, h_, e_, q_, l_, g_, z_, zV, qcd, kc, qw, jP, jl, qd, kL, qE, kp, qz, jk, yd, jm, qR, ql, qb, zX, qDz, qq, kv, hH, zk, qDv, qDu, qDw, q9, y9, reduceCtorEq, qH, qDU, qM, qy, kT, qi, kf, qDJ, Nat.reduceEqDiff, kq, h1, decide_true, zq, qdo, ky, qej, ↓reduceIte, qdn, qnl, kZ, hix, qt, qfd, qDy, qDF, qf, qC, qh, qDA, qlX, hf, qr, qe, qg, hm, qD, kS, ku, zr, qc, qA, qL, qP, qF, qx, qk, qI, zw, qZ, kA, qDC, zJ, hw, kB, yk, z8, kP, qDE, qDD, qX, kU, kj, zE, Nat.reduceAdd, Nat.reduceLT, zZ, qDO, qDK, zB, zF, qa, kg, qo, qp, qdc]
      exact ih'
theorem qiF {F : Nat} {P : Nat → Bool} (hF : ∀ c H, qs pg F [.d (.i .u8 ((c : Nat) : Int))] H = some ⟨false, true, .d (.b (P c)), H, H.length⟩) {s : List Nat} (hz : s.length ≤ 1000000000000) {id a : Nat} {H : List Obj} (ha : a ≤ s.length) (hH : H[id]? = some (sc s a)) :
    ∃ sm lo, id ≤ lo ∧ lo ≤ H.length ∧ (run P (s.drop a) = 0 ∨ lo ≤ id) ∧ qs pg 259 [.ptr id 0, .fn F [] []] H = some ⟨false, sm, .d (.s ((s.drop a).take (run P (s.drop a)))), kO H id (sc s (a + run P (s.drop a))), lo⟩ := by
  have hid : id < H.length := (List.getElem?_eq_some_iff.1 hH).1
  obtain ⟨lo, g1, g2, g3, hl⟩ := qqC hF hz (z := (a : Int)) (s.length - a) a H rfl ha hH H.length (qDx _)
  have hle := qgR P (s.drop a)
  simp only [List.length_drop] at hle
  have hH2 : (kO H id (sc s (a + run P (s.drop a))))[id]? = some (sc s (a + run P (s.drop a))) := yn hH
  have hm := qvU (l := s) (a := a) (b := a + run P (s.drop a)) (by omega) (by omega)
  have hmm : (s.take (a + run P (s.drop a))).drop a = (s.drop a).take (run P (s.drop a)) := by
    rw [List.drop_take]; congr 1; omega
  rw [hmm] at hm
  rw [qK (fn := qcg) rfl rfl]
  have hlv := fun (e : Env) => qfJ (pan := false) (v := .d (.s ((s.drop a).take (run P (s.drop a))))) (e := e) (lo := lo) (o := sc s (a + run P (s.drop a))) rfl rfl (fun _ => rfl) (by
    rcases g2 with h | h
    · left; rw [h, qDU]; exact qaP hH
    · right; exact h) hid
  simp only [qcg, k_, o_, m_, a_, h_, qn, qDz, Nat.reduceAdd, qu, qw, qx, qk, qd, kS, qG, qI, qZ, qa, qc, kL, reduceCtorEq, qH, qE, kp, qz, zw, qR, ql, qb, zX, qq, kv, hH, zk, qDv, qDu, qDw, q9, qy, qF, qdc, zV, Nat.reduceEqDiff, qcd, kc]
  rw [hl]
  simp only [qdX, m_, o_, a_, h_, qc, qw, jP, jl, qd, kL, qE, kp, qz, jk, yd, jm, qR, ql, qb, zX, qDU, qq, kv, hH2, zk, qDu, qDw, q9, y9, Nat.reduceEqDiff, qH, reduceCtorEq, qy, qDz, qDv, qd2, qeV, qk1, qgr, hm, zq, zr, qQ, qO, qj, qT, kX, qm, qB, qU]
  obtain ⟨sm, h⟩ := hlv _
  exact ⟨sm, lo, by omega, by omega, g2, h⟩
end W

set_option linter.unusedSimpArgs false
set_option linter.unusedVariables false
namespace W
open Go (IntKind BinOp UnOp)
set_option maxRecDepth 20000
def blk (c : Nat) : Bool := decide (c = 9) || decide (c = 10) || decide (c = 13) || decide (c = 32)
theorem qyO {c : Nat} (hc : c < 256) : ((0 : Int) ≤ ixN c [9, 10, 13, 32]) = (blk c = true) := by
  have h : ∀ c : Fin 256, decide ((0 : Int) ≤ ixN c [9, 10, 13, 32]) = blk c := by decide +kernel
  have := h ⟨c, hc⟩
  simp only at this
  rw [← this]; simp
def sk (deep frm a : Nat) : List Nat → Bool × Nat
  | [] => if deep = 0 then (true, a) else (false, frm)
  | [c] => if deep = 0 then (if blk c then (true, a + 1) else (true, a)) else (false, frm)
  | c :: d :: l =>
    if c = 40 ∧ d = 42 then sk (deep + 1) (if deep = 0 then a else frm) (a + 2) l
    else if 0 < deep ∧ c = 42 ∧ d = 41 then sk (deep - 1) frm (a + 2) l
    else if 0 < deep ∨ blk c = true then sk deep frm (a + 1) (d :: l)
    else (true, a)
theorem qlA {s : List Nat} {a c : Nat} {l : List Nat} (h : s.drop a = c :: l) : s[a]? = some c ∧ s.drop (a + 1) = l ∧ a < s.length := by
  have hl : a < s.length := by
    rcases Nat.lt_or_ge a s.length with h1 | h1
    · exact h1
    · rw [List.drop_eq_nil_of_le h1] at h; cases h
  rw [qhX hl] at h
  injection h with h1 h2
  exact ⟨by rw [← h1]; simp, h2, hl⟩
def SkRes (id : Nat) (s : List Nat) (a : Nat) (H : List Obj) (lo : Nat) (r : Bool × Nat) (X : Option (Ex × St)) : Prop :=
  match r with
  | (true, a') => ∃ x e lo', (x = .nrm ∨ x = .ret) ∧ min lo id ≤ lo' ∧ (a' = a ∨ lo' ≤ id) ∧ lo' ≤ lo ∧ X = some (x, ⟨e, kO H id (sc s a'), lo'⟩)
  | (false, p) => ∃ e lo' a', min lo id ≤ lo' ∧ lo' ≤ lo ∧ (a' = a ∨ lo' ≤ id) ∧ X = some (.pan (.ifc 157 (.d (.agg [.i .i64 (p : Nat), .i .i64 30]))), ⟨e, kO H id (sc s a'), lo'⟩)
theorem SkRes.step {id : Nat} {s : List Nat} {a a2 : Nat} {H : List Obj} {lo : Nat} {r : Bool × Nat} {X : Option (Ex × St)} (h : SkRes id s a2 (kO H id (sc s a2)) (min lo id) r X) : SkRes id s a H lo r X := by
  obtain ⟨b, p⟩ := r
  cases b with
  | true =>
    obtain ⟨x, e, lo', h1, h2, h3, h4, h5⟩ := h
    rw [yS] at h5
    exact ⟨x, e, lo', h1, by omega, .inr (by omega), by omega, h5⟩
  | false =>
    obtain ⟨e, lo', a', h1, h2, h3, h5⟩ := h
    rw [yS] at h5
    exact ⟨e, lo', a', by omega, by omega, .inr (by omega), h5⟩
theorem SkRes.stay {id : Nat} {s : List Nat} {a : Nat} {H : List Obj} {lo : Nat} {X : Option (Ex × St)} (hH : H[id]? = some (sc s a)) (h : ∃ x e, (x = .nrm ∨ x = .ret) ∧ X = some (x, ⟨e, H, lo⟩)) : SkRes id s a H lo (true, a) X := by
  obtain ⟨x, e, hx, h⟩ := h
  exact ⟨x, e, lo, hx, Nat.min_le_left _ _, .inl rfl, qDx _, by rw [qaP hH]; exact h⟩
theorem SkRes.bad {id p : Nat} {s : List Nat} {a : Nat} {H : List Obj} {lo : Nat} {X : Option (Ex × St)} (hH : H[id]? = some (sc s a)) (h : ∃ e, X = some (.pan (.ifc 157 (.d (.agg [.i .i64 (p : Nat), .i .i64 30]))), ⟨e, H, lo⟩)) : SkRes id s a H lo (false, p) X := by
  obtain ⟨e, h⟩ := h
  exact ⟨e, lo, a, Nat.min_le_left _ _, qDx _, .inl rfl, by rw [qaP hH]; exact h⟩
theorem qwD {x y c d : Nat} {l : List Nat} : pre [x, y] (c :: d :: l) = (decide (c = x ∧ d = y)) := by simp [pre]
theorem qyp {x y c : Nat} : pre [x, y] [c] = false := by simp [pre]
theorem qr2 {s : List Nat} (hs : ∀ c ∈ s, c < 256) (hz : s.length ≤ 1000000000000) {id : Nat} :
    ∀ (k a deep frm : Nat) (H : List Obj) (lo : Nat), s.length - a ≤ k → a ≤ s.length → deep ≤ a → H[id]? = some (sc s a) → lo ≤ H.length →
      SkRes id s a H lo (sk deep frm a (s.drop a)) (qcp pg (qb3 0 [2, 3] (yw pg (.ptr id 0) (.d (.i .i64 (frm : Nat))) (.d (.i .i64 (deep : Nat))) H lo)) yy) := by
  have endc : ∀ (deep frm : Nat) (H : List Obj) (lo : Nat), H[id]? = some (sc s s.length) → lo ≤ H.length →
      SkRes id s s.length H lo (if deep = 0 then (true, s.length) else (false, frm)) (qcp pg (qb3 0 [2, 3] (yw pg (.ptr id 0) (.d (.i .i64 (frm : Nat))) (.d (.i .i64 (deep : Nat))) H lo)) yy) := by
    intro deep frm H lo hH hlo
    have h1 : ((s.length : Int) < (s.length : Int)) = False := by simp
    have hm : min lo H.length = lo := by omega
    have hsf := qaP hH
    rw [yQ]
    by_cases hd : deep = 0
    · subst hd
      have h2 : ((0 : Int) < ((0 : Nat) : Int)) = False := by simp
      rw [if_pos rfl]
      refine .stay hH ⟨.nrm, ?_⟩
      simp only [reduceCtorEq, je, m_, o_, a_, h_, e_, k_, v_, g_, z_, l_, q_, i_, zV, kc, qDW, qw, jP, jl, qd, kL, qE, kp, qz, jk, yd, jm, qR, ql, qb, zX, qDz, qq, kv, hH, zk, qDv, qDu, qDw, q9, y9, qH, qDU, qM, qy, kT, qi, kf, qDJ, Nat.reduceEqDiff, kq, h1, decide_false, zq, zr, qc, qA, qL, qDt, ↓reduceIte, j7, zY, zC, qo, qp, yy, c_, qx, qk, qI, qZ, kA, qDC, kS, kW, Int.reduceLT, qa, qP]
      exact ⟨_, by simp, rfl⟩
    · have h2 : ((0 : Int) < ((deep : Nat) : Int)) = True := by rw [eq_iff_iff]; simp; omega
      rw [if_neg hd]
      refine .bad hH ?_
      simp only [je, m_, o_, a_, h_, e_, k_, v_, g_, z_, l_, q_, i_, zV, kc, qw, jP, jl, qd, kL, qE, kp, qz, jk, yd, jm, qR, ql, qb, zX, qDz, qq, kv, hH, zk, qDv, qDu, qDw, q9, y9, reduceCtorEq, qH, qDU, qM, qy, kT, qi, kf, qDJ, Nat.reduceEqDiff, kq, h1, decide_false, zq, zr, qc, qA, qL, qDt, ↓reduceIte, j7, zY, zC, qo, qp, yy, c_, qx, qk, qI, qZ, kA, qDC, kS, kW, h2, decide_true, qa, jW, zn, kG, qt, qDy, qDF, qf, qC, qh, qDA, qV, qdW, qr, qe, qG, qg, hm, qbb]
      exact ⟨_, rfl⟩
  intro k
  induction k with
  | zero =>
    intro a deep frm H lo hk ha hda hH hlo
    obtain rfl : a = s.length := by omega
    rw [List.drop_length]
    exact endc deep frm H lo hH hlo
  | succ k ih =>
    intro a deep frm H lo hk ha hda hH hlo
    have hm : min lo H.length = lo := by omega
    have hid : id < H.length := (List.getElem?_eq_some_iff.1 hH).1
    match hL : s.drop a with
    | [] =>
      have : s.length ≤ a := by simpa using hL
      obtain rfl : a = s.length := by omega
      exact endc deep frm H lo hH hlo
    | c :: L =>
      obtain ⟨hget, hdr, hlt⟩ := qlA hL
      have h1 : ((a : Int) < (s.length : Int)) = True := by rw [eq_iff_iff]; simp; omega
      have hix : ixV (.d (.s s)) (.d (.i .i64 (a : Int))) = some (.d (.i .u8 ((c : Nat) : Int))) := qoD (by omega) (by simpa using hget)
      have hw1 : wr .i64 ((a : Int) + 1) = ((a + 1 : Nat) : Int) := by rw [qby (by omega) (by omega)]; omega
      have hw2 : wr .i64 ((a : Int) + 2) = ((a + 2 : Nat) : Int) := by rw [qby (by omega) (by omega)]; omega
      have hd1 : wr .i64 ((deep : Int) + 1) = ((deep + 1 : Nat) : Int) := by rw [qby (by omega) (by omega)]; omega
      have hc : c < 256 := hs c (List.mem_of_getElem? hget)
      have hh1 := qfN (t := [40, 42]) hH (by omega)
      have hh2 := qfN (t := [42, 41]) hH (by omega)
      have hi := fun (t : List Nat) => qrx (t := t) hc (H := H)
      have hb := qyO hc
      rw [hL] at hh1 hh2
      -- one byte further
      have go1 : ∀ (h0 : (0 < deep ∨ blk c = true)) (p1 : pre [40, 42] (c :: L) = false) (p2 : 0 < deep → pre [42, 41] (c :: L) = false),
          SkRes id s a H lo (sk deep frm (a + 1) L) (qcp pg (qb3 0 [2, 3] (yw pg (.ptr id 0) (.d (.i .i64 (frm : Nat))) (.d (.i .i64 (deep : Nat))) H lo)) yy) := by
        intro h0 p1 p2
        have hH2 : (kO H id (sc s (a + 1)))[id]? = some (sc s (a + 1)) := yn hH
        have ih' := ih (a + 1) deep frm (kO H id (sc s (a + 1))) (min lo id) (by omega) (by omega) (by omega) hH2 (by simp only [zi]; omega)
        rw [hdr] at ih'
        refine SkRes.step (a2 := a + 1) ?_
        rw [yQ]
        rw [p1] at hh1
        by_cases hd : deep = 0
        · subst hd
          have h2 : ((0 : Int) < ((0 : Nat) : Int)) = False := by simp
          have hbk : ((0 : Int) ≤ ixN c [9, 10, 13, 32]) = True := by rw [hb]; exact eq_true (h0.resolve_left (by omega))
          simp only [je, m_, o_, a_, h_, e_, k_, v_, g_, z_, l_, q_, i_, zV, kc, qDW, qw, jP, jl, qd, kL, qE, kp, qz, jk, yd, jm, qR, ql, qb, zX, qDz, qq, kv, hH, zk, qDv, qDu, qDw, q9, y9, reduceCtorEq, qH, qDU, qM, qy, kT, qi, kf, qDJ, Nat.reduceEqDiff, kq, h1, decide_true, zq, zr, qc, qA, qL, ↓reduceIte, qP, qF, qx, qk, qI, zw, qt, qDy, kS, qDF, qf, kN, qC, qh, qDA, qV, hh1, qr, qe, qG, qg, hm, qZ, jW, zn, kG, qa, qDt, kA, qDC, kW, Int.reduceLT, decide_false, qS, ky, kh, kr, qD, qY, z7, qdo, kx, qDM, qej, kZ, hix, hi, jz, hbk, ku, zJ, hw1, kB, yk, z8, kP, qDE, qDD, qX, kU, kj, zE, Nat.reduceAdd, Nat.reduceLT, zZ, qDO, qDK, zB, zF, kg, qo, qp, jV]
          exact ih'
        · have h2 : ((0 : Int) < ((deep : Nat) : Int)) = True := by rw [eq_iff_iff]; simp; omega
          rw [p2 (by omega)] at hh2
          simp only [je, m_, o_, a_, h_, e_, k_, v_, g_, z_, l_, q_, i_, zV, kc, qw, jP, jl, qd, kL, qE, kp, qz, jk, yd, jm, qR, ql, qb, zX, qDz, qq, kv, hH, zk, qDv, qDu, qDw, q9, y9, reduceCtorEq, qH, qDU, qM, qy, kT, qi, kf, qDJ, Nat.reduceEqDiff, kq, h1, decide_true, zq, zr, qc, qA, qL, ↓reduceIte, qP, qF, qx, qk, qI, zw, qt, qDy, kS, qDF, qf, kN, qC, qh, qDA, qV, hh1, qr, qe, qG, qg, hm, qZ, jW, zn, kG, qa, qDt, kA, qDC, kW, h2, qS, ky, kh, hh2, qD, ku, qdo, kx, qDL, qej, kr, qY, qar, zJ, hw1, kB, yk, z8, kP, qDE, qDD, qX, kU, kj, zE, Nat.reduceAdd, Nat.reduceLT, zZ, qDO, qDK, zB, zF, kg, qo, qp, jV]
          exact ih'
      -- no further
      have stop : ∀ (h0 : deep = 0) (hbk : blk c = false) (p1 : pre [40, 42] (c :: L) = false),
          SkRes id s a H lo (true, a) (qcp pg (qb3 0 [2, 3] (yw pg (.ptr id 0) (.d (.i .i64 (frm : Nat))) (.d (.i .i64 (deep : Nat))) H lo)) yy) := by
        intro h0 hbk p1
        subst h0
        have h2 : ((0 : Int) < ((0 : Nat) : Int)) = False := by simp
        have hbk : ((0 : Int) ≤ ixN c [9, 10, 13, 32]) = False := by rw [hb, hbk]; simp
        rw [p1] at hh1
        rw [yQ]
        refine .stay hH ⟨.ret, ?_⟩
        simp only [reduceCtorEq, je, m_, o_, a_, h_, e_, k_, v_, g_, z_, l_, q_, i_, zV, kc, qDW, qw, jP, jl, qd, kL, qE, kp, qz, jk, yd, jm, qR, ql, qb, zX, qDz, qq, kv, hH, zk, qDv, qDu, qDw, q9, y9, qH, qDU, qM, qy, kT, qi, kf, qDJ, Nat.reduceEqDiff, kq, h1, decide_true, zq, zr, qc, qA, qL, ↓reduceIte, qP, qF, qx, qk, qI, zw, qt, qDy, kS, qDF, qf, kN, qC, qh, qDA, qV, hh1, qr, qe, qG, qg, hm, qZ, jW, zn, kG, qa, qDt, kA, qDC, kW, Int.reduceLT, decide_false, qS, ky, kh, kr, qD, qY, z7, qdo, kx, qDM, qej, kZ, hix, hi, jz, hbk, ku, qQ, ze, kC]
        exact ⟨_, by simp, rfl⟩
      match L, hdr, hh1, hh2 with
      | [], hdr, hh1, hh2 =>
        have p1 : pre [40, 42] [c] = false := qyp
        have p2 : pre [42, 41] [c] = false := qyp
        by_cases hd : deep = 0
        · cases hbk : blk c with
          | true => 
            have := go1 (.inr hbk) p1 (fun _ => p2)
            simpa [sk, hd, hbk] using this
          | false =>
            have := stop hd hbk p1
            simpa [sk, hd, hbk] using this
        · have := go1 (.inl (by omega)) p1 (fun _ => p2)
          simpa [sk, hd] using this
      | d :: l, hdr, hh1, hh2 =>
        obtain ⟨_, hdr2, hlt2⟩ := qlA hdr
        have hH2 : (kO H id (sc s (a + 2)))[id]? = some (sc s (a + 2)) := yn hH
        by_cases c1 : c = 40 ∧ d = 42
        · have ih' := ih (a + 2) (deep + 1) (if deep = 0 then a else frm) (kO H id (sc s (a + 2))) (min lo id) (by omega) (by omega) (by omega) hH2 (by simp only [zi]; omega)
          rw [hdr2] at ih'
          have p1 : pre [40, 42] (c :: d :: l) = true := by rw [qwD]; simpa using c1
          rw [p1] at hh1
          refine SkRes.step (a2 := a + 2) ?_
          rw [yQ, sk, if_pos c1]
          by_cases hd : deep = 0
          · have h2 : (((deep : Nat) : Int) = 0) = True := by rw [eq_iff_iff]; simp; omega
            rw [if_pos hd] at ih' ⊢
            simp only [je, m_, o_, a_, h_, e_, k_, v_, g_, z_, l_, q_, i_, zV, kc, qw, jP, jl, qd, kL, qE, kp, qz, jk, yd, jm, qR, ql, qb, zX, qDz, qq, kv, hH, zk, qDv, qDu, qDw, q9, y9, reduceCtorEq, qH, qDU, qM, qy, kT, qi, kf, qDJ, Nat.reduceEqDiff, kq, h1, decide_true, zq, zr, qc, qA, qL, ↓reduceIte, qP, qF, qx, qk, qI, zw, qt, qDy, kS, qDF, qf, kN, qC, qh, qDA, qV, hh1, qr, qe, qG, qg, hm, qZ, jW, zn, kG, qa, kA, qDC, zK, h2, zJ, hd1, hw2, kB, yk, z8, kP, qDE, qDD, qX, kU, kj, zE, Nat.reduceAdd, Nat.reduceLT, zZ, qDO, qDK, zB, zF, kg, qo, qp, jV]
            exact ih'
          · have h2 : (((deep : Nat) : Int) = 0) = False := by rw [eq_iff_iff]; simp; omega
            rw [if_neg hd] at ih' ⊢
            simp only [je, m_, o_, a_, h_, e_, k_, v_, g_, z_, l_, q_, i_, zV, kc, qw, jP, jl, qd, kL, qE, kp, qz, jk, yd, jm, qR, ql, qb, zX, qDz, qq, kv, hH, zk, qDv, qDu, qDw, q9, y9, reduceCtorEq, qH, qDU, qM, qy, kT, qi, kf, qDJ, Nat.reduceEqDiff, kq, h1, decide_true, zq, zr, qc, qA, qL, ↓reduceIte, qP, qF, qx, qk, qI, zw, qt, qDy, kS, qDF, qf, kN, qC, qh, qDA, qV, hh1, qr, qe, qG, qg, hm, qZ, jW, zn, kG, qa, kA, qDC, zK, h2, decide_false, qDt, zJ, hd1, hw2, kB, yk, z8, kP, qDE, qDD, qX, kU, kj, zE, Nat.reduceAdd, Nat.reduceLT, zZ, qDO, qDK, zB, zF, kg, qo, qp, jV]
            exact ih'
        · have p1 : pre [40, 42] (c :: d :: l) = false := by rw [qwD]; simpa using c1
          by_cases c2 : 0 < deep ∧ c = 42 ∧ d = 41
          · have ih' := ih (a + 2) (deep - 1) frm (kO H id (sc s (a + 2))) (min lo id) (by omega) (by omega) (by omega) hH2 (by simp only [zi]; omega)
            rw [hdr2] at ih'
            have hd2 : wr .i64 ((deep : Int) - 1) = ((deep - 1 : Nat) : Int) := by rw [qby (by omega) (by omega)]; omega
            have p2 : pre [42, 41] (c :: d :: l) = true := by rw [qwD]; simpa using c2.2
            have h2 : ((0 : Int) < ((deep : Nat) : Int)) = True := by rw [eq_iff_iff]; simp; omega
            rw [p1] at hh1
            rw [p2] at hh2
            refine SkRes.step (a2 := a + 2) ?_
            rw [yQ, sk, if_neg c1, if_pos c2]
            simp only [je, m_, o_, a_, h_, e_, k_, v_, g_, z_, l_, q_, i_, zV, kc, qw, jP, jl, qd, kL, qE, kp, qz, jk, yd, jm, qR, ql, qb, zX, qDz, qq, kv, hH, zk, qDv, qDu, qDw, q9, y9, reduceCtorEq, qH, qDU, qM, qy, kT, qi, kf, qDJ, Nat.reduceEqDiff, kq, h1, decide_true, zq, zr, qc, qA, qL, ↓reduceIte, qP, qF, qx, qk, qI, zw, qt, qDy, kS, qDF, qf, kN, qC, qh, qDA, qV, hh1, qr, qe, qG, qg, hm, qZ, jW, zn, kG, qa, qDt, kA, qDC, kW, h2, qS, ky, kh, hh2, qD, ku, qcT, hd2, zJ, hw2, kB, yk, z8, kP, qDE, qDD, qX, kU, kj, zE, Nat.reduceAdd, Nat.reduceLT, zZ, qDO, qDK, zB, zF, kg, qo, qp, jV]
            exact ih'
          · have p2 : 0 < deep → pre [42, 41] (c :: d :: l) = false := fun h => by
              rw [qwD]; simp only [decide_eq_false_iff_not]; exact fun h' => c2 ⟨h, h'⟩
            rw [sk, if_neg c1, if_neg c2]
            by_cases c3 : 0 < deep ∨ blk c = true
            · rw [if_pos c3]
              exact go1 c3 p1 p2
            · rw [if_neg c3]
              exact stop (by omega) (by simpa using fun h => c3 (.inr h)) p1
theorem qsv {s : List Nat} (hs : ∀ c ∈ s, c < 256) (hz : s.length ≤ 1000000000000) {id a : Nat} {H : List Obj} (ha : a ≤ s.length) (hH : H[id]? = some (sc s a)) :
    match sk 0 a a (s.drop a) with
    | (true, a') => ∃ sm lo, id ≤ lo ∧ lo ≤ H.length ∧ (a' = a ∨ lo ≤ id) ∧ qs pg 173 [.ptr id 0] H = some ⟨false, sm, .tup [], kO H id (sc s a'), lo⟩
    | (false, p) => ∃ sm lo a', id ≤ lo ∧ lo ≤ H.length ∧ (a' = a ∨ lo ≤ id) ∧ qs pg 173 [.ptr id 0] H = some ⟨true, sm, .ifc 157 (.d (.agg [.i .i64 (p : Nat), .i .i64 30])), kO H id (sc s a'), lo⟩ := by
  have hid : id < H.length := (List.getElem?_eq_some_iff.1 hH).1
  have hl := qr2 hs hz (s.length - a) a 0 a H H.length (qDx _) ha (by omega) hH (qDx _)
  rw [qK (fn := qbi) rfl rfl]
  generalize hr : sk 0 a a (s.drop a) = r at hl
  obtain ⟨b, p⟩ := r
  have hz0 : ((0 : Nat) : Int) = 0 := rfl
  rw [hz0] at hl
  cases b with
  | true =>
    obtain ⟨x, e, lo', h1, h2, h3, h4, h5⟩ := hl
    obtain ⟨sm, hlv⟩ := qfJ (pan := false) (v := .tup []) (e := e) (lo := lo') (o := sc s p) rfl rfl (fun _ => rfl) (by
      rcases h3 with h | h
      · left; rw [h]; exact qaP hH
      · right; exact h) hid
    refine ⟨sm, lo', by omega, by omega, h3, ?_⟩
    simp only [qbi, k_, m_, o_, a_, h_, i_, qn, qDz, qu, qw, qx, qk, qd, kL, qE, kp, qz, qI, zw, qR, ql, qb, zX, qq, kv, hH, zk, qDv, qDu, qDw, q9, qZ, qy, kS, qG, qa, qc, qF, jV, reduceCtorEq, qH, zV, Nat.reduceEqDiff, kc]
    rw [h5]
    rcases h1 with rfl | rfl
    · simp only [qem, qm, qfK]; exact hlv
    · simp only [qO, qm, qfK]; exact hlv
  | false =>
    obtain ⟨e, lo', a', h1, h2, h3, h5⟩ := hl
    obtain ⟨sm, hlv⟩ := qfJ (pan := true) (v := .ifc 157 (.d (.agg [.i .i64 (p : Nat), .i .i64 30]))) (e := e) (lo := lo') (o := sc s a') rfl rfl (fun _ => rfl) (by
      rcases h3 with h | h
      · left; rw [h]; exact qaP hH
      · right; exact h) hid
    refine ⟨sm, lo', a', by omega, by omega, h3, ?_⟩
    simp only [qbi, k_, m_, o_, a_, h_, i_, qn, qDz, qu, qw, qx, qk, qd, kL, qE, kp, qz, qI, zw, qR, ql, qb, zX, qq, kv, hH, zk, qDv, qDu, qDw, q9, qZ, qy, kS, qG, qa, qc, qF, jV, reduceCtorEq, qH, zV, Nat.reduceEqDiff, kc]
    rw [h5]
    simp only [y7]; exact hlv
end W

set_option linter.unusedSimpArgs false
set_option linter.unusedVariables false
namespace W
open Go (IntKind BinOp UnOp)
set_option maxRecDepth 20000
theorem qqZ {L : List (List Nat)} {t : List Nat} (hz : L.length ≤ 1000000000000) {H : List Obj} :
    ∀ (k i : Nat), L.length - i = k → i ≤ L.length → (∀ j, j < i → L[j]? ≠ some t) →
      ∃ e x r, (x = .nrm ∨ x = .ret) ∧ (decide ((0 : Int) ≤ r) = decide (t ∈ L)) ∧ get 4 e = .d (.i .i64 r) ∧
        qcp pg (qb3 0 [] (yx pg (.d (slD D.s L)) (.d (.s t)) (.d (.i .i64 (L.length : Nat))) (.d (.i .i64 (i : Nat))) H H.length)) f_slices_Index___string_string__R1 = some (x, ⟨e, H, H.length⟩) := by
  intro k
  induction k with
  | zero =>
    intro i hk hi hno
    obtain rfl : i = L.length := by omega
    have h1 : ((L.length : Int) < (L.length : Int)) = False := by simp
    have hnm : t ∉ L := by
      intro h
      obtain ⟨j, hj⟩ := List.getElem?_of_mem h
      have : j < L.length := (List.getElem?_eq_some_iff.1 hj).1
      exact hno j this hj
    rw [qbc]
    simp only [f_slices_Index___string_string__B0, k_, e_, m_, x_, h_, g_, kc, qw, qx, qk, qi, kf, qDJ, kL, reduceCtorEq, qH, Nat.reduceEqDiff, qE, qy, kq, h1, decide_false, ql, qI, qZ, qa, qc, qA, qL, qDt, ↓reduceIte, j7, zY, zC, qp, f_slices_Index___string_string__R1, o_, i_, Int.reduceNeg, qd, kS, qG, qQ]
    exact ⟨_, _, -1, .inr rfl, by simp [hnm], rfl, rfl⟩
  | succ k ih =>
    intro i hk hi hno
    have h1 : ((i : Int) < (L.length : Int)) = True := by rw [eq_iff_iff]; simp; omega
    have hlt : i < L.length := by omega
    have hia : iaV (.d (slD D.s L)) (.d (.i .i64 (i : Int))) 1 none = some (.cp (.s L[i])) := qn2 (fun _ => rfl) (by omega) (by simp)
    have hw : wr .i64 ((i : Int) + 1) = ((i + 1 : Nat) : Int) := by rw [qby (by omega) (by omega)]; omega
    rw [qbc]
    by_cases he : t = L[i]
    · have h2 : (t = L[i]) = True := by simp [he]
      simp only [f_slices_Index___string_string__B0, k_, e_, m_, x_, h_, g_, kc, qw, qx, qk, qi, kf, qDJ, kL, reduceCtorEq, qH, Nat.reduceEqDiff, qE, qy, kq, h1, decide_true, ql, qI, qZ, qa, qc, qA, qL, ↓reduceIte, qP, qF, qd, qz, qW, hia, yg, qq, zO, yH, j6, h2, qQ, ze, kC, f_slices_Index___string_string__R1, o_, i_, Int.reduceNeg]
      exact ⟨_, _, (i : Int), .inr rfl, by rw [he]; simp, rfl, rfl⟩
    · have h2 : (t = L[i]) = False := by simp [he]
      have ih' := ih (i + 1) (by omega) (by omega) (fun j hj => by
        rcases Nat.lt_or_ge j i with h | h
        · exact hno j h
        · obtain rfl : j = i := by omega
          rw [List.getElem?_eq_getElem hlt]
          intro h'; exact he (Option.some.inj h').symm)
      simp only [f_slices_Index___string_string__B0, k_, e_, m_, x_, h_, g_, kc, qw, qx, qk, qi, kf, qDJ, kL, reduceCtorEq, qH, Nat.reduceEqDiff, qE, qy, kq, h1, decide_true, ql, qI, qZ, qa, qc, qA, qL, ↓reduceIte, qP, qF, qd, qz, qW, hia, yg, qq, zO, yH, j6, h2, decide_false, qDt, kg, qo, qp, kA, qDC, kS, zJ, hw, qbg]
      exact ih'
theorem qlE {L : List (List Nat)} {t : List Nat} (hz : L.length ≤ 1000000000000) {H : List Obj} :
    ∃ r : Int, decide ((0 : Int) ≤ r) = decide (t ∈ L) ∧ qs pg 181 [.d (slD D.s L), .d (.s t)] H = some ⟨false, true, .d (.i .i64 r), H, H.length⟩ := by
  obtain ⟨e, x, r, hx, h1, h2, h3⟩ := qqZ (t := t) hz (H := H) L.length 0 rfl (by omega) (by simp)
  refine ⟨r, h1, ?_⟩
  rw [qK (fn := f_slices_Index___string_string_) rfl rfl]
  have hz0 : ((0 : Nat) : Int) = 0 := rfl
  rw [hz0] at h3
  simp only [f_slices_Index___string_string_, k_, o_, i_, m_, n_, qn, qDz, Nat.reduceAdd, qu, qw, qx, qk, qd, kS, qG, qI, qZ, qa, qc, kL, reduceCtorEq, qH, qE, qy, qz, ko, qei, ql, qF, qbg, kc, Nat.reduceEqDiff]
  rw [h3]
  rcases hx with rfl | rfl
  all_goals simp only [qem, qj, qT, h2, kX, qm, qB, qU, qC, ji, kD, z1, qO]
  all_goals rfl
theorem qmo {t : List Nat} {H : List Obj} : qs pg 84 [.d (.sl (KW.map D.s)), .d (.s t)] H = some ⟨false, true, .d (.b (decide (t ∈ KW))), H, H.length⟩ := by
  obtain ⟨r, h1, h2⟩ := qlE (L := KW) (t := t) (by decide) (H := H)
  have hk : slD D.s KW = .sl (KW.map D.s) := rfl
  rw [hk] at h2
  rw [qK (fn := f_slices_Contains___string_string_) rfl rfl]
  simp only [f_slices_Contains___string_string_, k_, o_, v_, c_, g_, m_, qn, qDz, Nat.reduceAdd, qu, qw, qx, qk, qd, kS, qG, qI, qZ, qa, qc, jW, reduceCtorEq, qH, qE, zn, kG, Nat.reduceEqDiff, qt, qDy, qDF, qf, qC, qh, qDA, qV, h2, qr, qe, qg, Nat.min_self, qi, kf, kA, qDC, kL, qy, jz, h1, ql, qz, qQ, qO, qj, qT, kX, qm, qB, qU, ji, kD, z1]
  all_goals rfl
def tok (k p e : Int) (t : List Nat) (n : Int) : D := .agg [.i .i64 k, .i .i64 p, .i .i64 e, .s t, .i .i32 n]
inductive Sy where
  | ok (k : Int) (t : List Nat) (n : Int) (a : Nat)
  | bad (e : Int)
def MRes (id : Nat) (s : List Nat) (a : Nat) (H : List Obj) (r : Sy) (X : Option Cr) : Prop :=
  match r with
  | .ok k t n a' => ∃ sm lo, id ≤ lo ∧ lo ≤ H.length ∧ (a' = a ∨ lo ≤ id) ∧ X = some ⟨false, sm, .d (tok k 0 0 t n), kO H id (sc s a'), lo⟩
  | .bad e => ∃ sm lo a', id ≤ lo ∧ lo ≤ H.length ∧ (a' = a ∨ lo ≤ id) ∧ X = some ⟨true, sm, .ifc 157 (.d (.agg [.i .i64 (a : Nat), .i .i64 e])), kO H id (sc s a'), lo⟩
theorem MRes.good {id : Nat} {s : List Nat} {a a' : Nat} {H : List Obj} {k n : Int} {t : List Nat} {e : Env} {lo : Nat} {X : Option Cr} (hid : id < H.length) (hH : H[id]? = some (sc s a)) (h1 : id ≤ lo) (h2 : lo ≤ H.length) (h3 : a' = a ∨ lo ≤ id)
    (h : X = leave H false (.d (tok k 0 0 t n)) ⟨e, kO H id (sc s a'), lo⟩) : MRes id s a H (.ok k t n a') X := by
  obtain ⟨sm, hlv⟩ := qfJ (pan := false) (v := .d (tok k 0 0 t n)) (e := e) (lo := lo) (o := sc s a') rfl rfl (fun _ => rfl) (by
      rcases h3 with h | h
      · left; rw [h]; exact qaP hH
      · right; exact h) hid
  exact ⟨sm, lo, h1, h2, h3, h.trans hlv⟩
theorem MRes.worse {id : Nat} {s : List Nat} {a a' : Nat} {H : List Obj} {x : Int} {e : Env} {lo : Nat} {X : Option Cr} (hid : id < H.length) (hH : H[id]? = some (sc s a)) (h1 : id ≤ lo) (h2 : lo ≤ H.length) (h3 : a' = a ∨ lo ≤ id)
    (h : X = leave H true (.ifc 157 (.d (.agg [.i .i64 (a : Nat), .i .i64 x]))) ⟨e, kO H id (sc s a'), lo⟩) : MRes id s a H (.bad x) X := by
  obtain ⟨sm, hlv⟩ := qfJ (pan := true) (v := .ifc 157 (.d (.agg [.i .i64 (a : Nat), .i .i64 x]))) (e := e) (lo := lo) (o := sc s a') rfl rfl (fun _ => rfl) (by
      rcases h3 with h | h
      · left; rw [h]; exact qaP hH
      · right; exact h) hid
  exact ⟨sm, lo, a', h1, h2, h3, h.trans hlv⟩
def qk8 (s : List Nat) (a : Nat) : Sy :=
  if 32 < run cNm (s.drop a) then .bad 34
  else if (s.drop a).take (run cNm (s.drop a)) ∈ KW then .ok 6 ((s.drop a).take (run cNm (s.drop a))) 0 (a + run cNm (s.drop a))
  else .ok 1 ((s.drop a).take (run cNm (s.drop a))) 0 (a + run cNm (s.drop a))
theorem qr6 {s : List Nat} (hz : s.length ≤ 1000000000000) {id a : Nat} {H : List Obj} (ha : a ≤ s.length) (hH : H[id]? = some (sc s a)) : MRes id s a H (qk8 s a) (qs pg 175 [.ptr id 0] H) := by
  have hid : id < H.length := (List.getElem?_eq_some_iff.1 hH).1
  obtain ⟨sm, lo, g1, g2, g3, hw⟩ := qiF (F := 260) (P := cNm) (fun c H => qqi) hz ha hH
  have hle := qgR cNm (s.drop a)
  rw [qK (fn := qax) rfl rfl]
  have hm1 : min H.length lo = lo := by omega
  have hm2 : min lo H.length = lo := by omega
  have hlen : ((s.drop a).take (run cNm (s.drop a))).length = run cNm (s.drop a) := by simp only [List.length_take]; omega
  have hc := fun (H : List Obj) => qmo (t := (s.drop a).take (run cNm (s.drop a))) (H := H)
  have g3' : a + run cNm (s.drop a) = a ∨ lo ≤ id := by omega
  unfold qk8
  by_cases h1 : 32 < run cNm (s.drop a)
  · have e1 : ((32 : Int) < ((run cNm (s.drop a) : Nat) : Int)) = True := by rw [eq_iff_iff]; simp; omega
    rw [if_pos h1]
    refine MRes.worse hid hH g1 g2 g3' ?_ (e := ?_)
    rotate_left
    · simp only [qax, s_, k_, o_, m_, a_, h_, v_, c_, g_, i_, z_, qn, qDz, qu, qw, qx, qk, kl, qDy, qDF, qI, kE, qJ, zG, qN, qa, qc, qd, kL, reduceCtorEq, qH, qE, kp, qz, zw, qR, ql, qb, zX, qq, kv, hH, zk, qDv, qDu, qDw, q9, qZ, qy, jW, qfu, kG, qt, qhT, qf, kN, yF, yC, qDA, qh, qV, hw, qr, qe, qcc, qg, hm1, zn, qF, qM, kT, hlen, qi, kf, kA, qDC, kS, kW, e1, decide_true, qA, qL, ↓reduceIte, Nat.reduceEqDiff, qC, qdW, zi, qG, hm2, qbb, qaO, yU, y7]
      rfl
  · have e1 : ((32 : Int) < ((run cNm (s.drop a) : Nat) : Int)) = False := by rw [eq_iff_iff]; simp; omega
    rw [if_neg h1]
    by_cases h2 : (s.drop a).take (run cNm (s.drop a)) ∈ KW
    · rw [if_pos h2]
      refine MRes.good hid hH g1 g2 g3' ?_ (e := ?_)
      rotate_left
      · simp only [qax, s_, k_, o_, m_, a_, h_, v_, c_, g_, i_, z_, qn, qDz, qu, qw, qx, qk, kl, qDy, qDF, qI, kE, qJ, zG, qN, qa, qc, qd, kL, reduceCtorEq, qH, qE, kp, qz, zw, qR, ql, qb, zX, qq, kv, hH, zk, qDv, qDu, qDw, q9, qZ, qy, jW, qfu, kG, qt, qhT, qf, kN, yF, yC, qDA, qh, qV, hw, qr, qe, qcc, qg, hm1, zn, qF, qM, kT, hlen, qi, kf, kA, qDC, kS, kW, e1, decide_false, qA, qL, qDt, ↓reduceIte, qrS, zi, hm2, Nat.reduceEqDiff, qC, hc, h2, decide_true, k9, z8, kP, kU, qDE, qDD, Nat.reduceAdd, Nat.reduceLT, yb, qDK, jO, qDO, zS, zU, kY, ju, za, kz, kJ, kB, ke, zT, ki, qX, kj, zA, jA, zc, zF, qQ, ze, kC, qO, qj, zP, qaj, Nat.reduceLeDiff, jU, qDQ, qDN, qDT, qm, qB, qU]
        rfl
    · rw [if_neg h2]
      refine MRes.good hid hH g1 g2 g3' ?_ (e := ?_)
      rotate_left
      · simp only [qax, s_, k_, o_, m_, a_, h_, v_, c_, g_, i_, z_, qn, qDz, qu, qw, qx, qk, kl, qDy, qDF, qI, kE, qJ, zG, qN, qa, qc, qd, kL, reduceCtorEq, qH, qE, kp, qz, zw, qR, ql, qb, zX, qq, kv, hH, zk, qDv, qDu, qDw, q9, qZ, qy, jW, qfu, kG, qt, qhT, qf, kN, yF, yC, qDA, qh, qV, hw, qr, qe, qcc, qg, hm1, zn, qF, qM, kT, hlen, qi, kf, kA, qDC, kS, kW, e1, decide_false, qA, qL, qDt, ↓reduceIte, qrS, zi, hm2, Nat.reduceEqDiff, qC, hc, h2, qP, kg, qo, zx, kc, qp, k9, z8, kP, kU, qDE, qDD, Nat.reduceAdd, Nat.reduceLT, yb, qDK, jO, qDO, zS, zU, kY, ju, za, kz, kJ, kB, ke, zT, ki, qX, kj, zA, jA, zc, zF, qQ, qO, qj, zP, qaj, Nat.reduceLeDiff, jU, qDQ, qDN, qDT, qm, qB, qU]
        rfl
end W

set_option linter.unusedSimpArgs false
set_option linter.unusedVariables false
namespace W
open Go (IntKind BinOp UnOp)
set_option maxRecDepth 20000
def dg (c : Nat) : Nat := if c ≤ 57 then c - 48 else c - 55
def pu (b mx : Nat) : Nat → List Nat → Option Nat
  | n, [] => some n
  | n, c :: l => if b ≤ dg c then none else if mx < n * b + dg c then none else pu b mx (n * b + dg c) l
theorem qtO {c : Nat} (h1 : 65 ≤ c) (h2 : c ≤ 70) {H : List Obj} : qs pg 324 [.d (.i .u8 (c : Nat))] H = some ⟨false, true, .d (.i .u8 ((c + 32 : Nat) : Int)), H, H.length⟩ := by
  rw [qK (fn := qaZ) rfl rfl]
  have : c = 65 ∨ c = 66 ∨ c = 67 ∨ c = 68 ∨ c = 69 ∨ c = 70 := by omega
  rcases this with rfl | rfl | rfl | rfl | rfl | rfl
  all_goals simp only [qaZ, k_, o_, m_, qDW, qn, qDz, qu, qw, qx, qk, qd, kS, qG, qI, qZ, qa, qc, kL, reduceCtorEq, qH, qE, qy, qz, qi, kf, kA, qDC, qwe, ql, qQ, qO, qj, qT, kX, qm, qB, qU, qC, ji, kD, z1, Nat.reduceAdd]
  all_goals rfl
def qmZ (H : List Obj) (r : Option Nat) (X : Option (Ex × St)) : Prop :=
  match r with
  | some u => ∃ e, get 6 e = .d (.i .u64 (u : Nat)) ∧ get 7 e = .d .ni ∧ X = some (.ret, ⟨e, H, H.length⟩)
  | none => ∃ e z er, (er = 1 ∨ er = 2) ∧ get 6 e = .d (.i .u64 z) ∧ get 7 e = .ifc 323 (.d (.i .i64 er)) ∧ X = some (.ret, ⟨e, H, H.length⟩)
theorem qwN {s s0 : List Nat} (hs : ∀ c ∈ s, cHx c = true) (hz : s.length ≤ 1000000000000) {b mx ct : Nat} (hb : b = 10 ∨ b = 16) (hmx : mx ≤ 4294967295) (hct : mx < ct) {H : List Obj} :
    ∀ (k i n : Nat), s.length - i = k → i ≤ s.length → n ≤ mx →
      qmZ H (pu b mx n (s.drop i)) (qcp pg (qb3 3 [9, 12, 13] (j5 pg (.d (.i .i64 (b : Nat))) (.d (.b false)) (.d (.s s0)) (.d (.i .u64 (ct : Nat))) (.d (.i .u64 (mx : Nat))) (.d (.b false)) (.d (.i .u64 (n : Nat))) (slV e8 s) (.d (.i .i64 (s.length : Nat))) (.d (.i .i64 (i : Nat))) H H.length)) yK) := by
  intro k
  induction k with
  | zero =>
    intro i n hk hi hn
    obtain rfl : i = s.length := by omega
    have h1 : ((s.length : Int) < (s.length : Int)) = False := by simp
    rw [List.drop_length, qbz]
    simp only [qmZ, pu, zl, k_, e_, x_, h_, m_, o_, q_, c_, v_, i_, g_, kc, qaR, qw, qx, qk, qi, kf, qDJ, kL, Nat.reduceEqDiff, qH, qE, qy, kq, h1, decide_false, ql, qI, qZ, qa, qc, qA, qL, qDt, ↓reduceIte, j7, zY, zC, qo, qp, yK, qd, qz, qS, ky, kh, kr, qD, qY, kS, z7, qP, qG, qQ]
    exact ⟨_, rfl, rfl, rfl⟩
  | succ k ih =>
    intro i n hk hi hn
    have h1 : ((i : Int) < (s.length : Int)) = True := by rw [eq_iff_iff]; simp; omega
    have hlt : i < s.length := by omega
    obtain ⟨c, hget⟩ : ∃ c, s[i]? = some c := ⟨s[i], by simp⟩
    have hdr : s.drop i = c :: s.drop (i + 1) := by
      rw [qhX hlt]
      congr 1
      have := List.getElem?_eq_getElem hlt
      rw [this] at hget
      exact Option.some.inj hget
    have hcx := hs c (List.mem_of_getElem? hget)
    have hcr : (48 ≤ c ∧ c ≤ 57) ∨ (65 ≤ c ∧ c ≤ 70) := by
      simp only [cHx, cDg, Bool.or_eq_true, qDB, decide_eq_true_eq] at hcx
      exact hcx
    have hia : iaV (.d (slD e8 s)) (.d (.i .i64 (i : Int))) 1 none = some (.cp (e8 c)) := qn2 (fun _ => rfl) (by omega) (by simpa using hget)
    have hw : wr .i64 ((i : Int) + 1) = ((i + 1 : Nat) : Int) := by rw [qby (by omega) (by omega)]; omega
    have h95 : ((c : Int) = 95) = False := by rw [eq_iff_iff]; simp; omega
    have hd : dg c < 16 := by unfold dg; split <;> omega
    have hb8 : wr .u8 ((b : Nat) : Int) = (b : Int) := qre (by omega) (by omega)
    have hb64 : wr .u64 ((b : Nat) : Int) = (b : Int) := qnU (by omega) (by omega)
    have hd64 : wr .u64 ((dg c : Nat) : Int) = (dg c : Int) := qnU (by omega) (by omega)
    have hnb : n * b ≤ 4294967295 * 16 := Nat.mul_le_mul (by omega) (by omega)
    have hm64 : wr .u64 ((n : Int) * (b : Int)) = ((n * b : Nat) : Int) := by
      have e : ((n : Int) * (b : Int)) = ((n * b : Nat) : Int) := by push_cast; rfl
      rw [e]
      exact qnU (by omega) (by omega)
    have ha64 : wr .u64 (((n * b : Nat) : Int) + (dg c : Int)) = ((n * b + dg c : Nat) : Int) := by rw [qnU (by omega) (by omega)]; push_cast; rfl
    have hcut : ((ct : Int) ≤ (n : Int)) = False := by rw [eq_iff_iff]; simp; omega
    have hnn : n ≤ n * b := Nat.le_mul_of_pos_right n (by omega)
    have hlt2 : (((n * b + dg c : Nat) : Int) < ((n * b : Nat) : Int)) = False := by rw [eq_iff_iff]; simp; omega
    rw [hdr, qbz, pu]
    rcases hcr with ⟨g1, g2⟩ | ⟨g1, g2⟩
    · have e1 : ((48 : Int) ≤ (c : Int)) = True := by rw [eq_iff_iff]; simp; omega
      have e2 : ((c : Int) ≤ 57) = True := by rw [eq_iff_iff]; simp; omega
      have e3 : wr .u8 ((c : Int) - 48) = (dg c : Int) := by rw [qre (by omega) (by omega)]; simp only [dg, g2, if_true]; omega
      by_cases q1 : b ≤ dg c
      · have f1 : ((b : Int) ≤ (dg c : Int)) = True := by rw [eq_iff_iff]; simp; omega
        rw [if_pos q1]
        simp only [qmZ, zl, k_, e_, x_, h_, m_, o_, q_, c_, v_, i_, g_, kc, qaR, qw, qx, qk, qi, kf, qDJ, kL, Nat.reduceEqDiff, qH, qE, qy, kq, h1, decide_true, ql, qI, qZ, qa, qc, qA, qL, ↓reduceIte, qP, qF, qW, qbs, hia, e8, yg, qq, zO, qbG, qd, qz, kS, qG, kA, qDC, zK, h95, decide_false, qS, ky, kh, qDt, kr, qD, qY, z7, Bool.or_false, jS, e1, e2, ku, qcT, e3, kg, qo, qp, yZ, hb8, jz, f1, qci, qep, qcN, qaT, qQ, kC, ze]
        exact ⟨_, 0, 2, .inr rfl, rfl, rfl, rfl⟩
      · have f1 : ((b : Int) ≤ (dg c : Int)) = False := by rw [eq_iff_iff]; simp; omega
        rw [if_neg q1]
        by_cases q2 : mx < n * b + dg c
        · have f2 : ((mx : Int) < ((n * b + dg c : Nat) : Int)) = True := by rw [eq_iff_iff]; simp; omega
          rw [if_pos q2]
          simp only [qmZ, zl, k_, e_, x_, h_, m_, o_, q_, c_, v_, i_, g_, kc, qaR, qw, qx, qk, qi, kf, qDJ, kL, Nat.reduceEqDiff, qH, qE, qy, kq, h1, decide_true, ql, qI, qZ, qa, qc, qA, qL, ↓reduceIte, qP, qF, qW, qbs, hia, e8, yg, qq, zO, qbG, qd, qz, kS, qG, kA, qDC, zK, h95, decide_false, qS, ky, kh, qDt, kr, qD, qY, z7, Bool.or_false, jS, e1, e2, ku, qcT, e3, kg, qo, qp, yZ, hb8, jz, f1, hcut, hb64, qja, hm64, hd64, zJ, ha64, hlt2, kx, qDM, kW, f2, qci, qep, qcN, qaT, qQ, kC, ze]
          exact ⟨_, _, 1, .inl rfl, rfl, rfl, rfl⟩
        · have f2 : ((mx : Int) < ((n * b + dg c : Nat) : Int)) = False := by rw [eq_iff_iff]; simp; omega
          rw [if_neg q2]
          have ih' := ih (i + 1) (n * b + dg c) (by omega) (by omega) (by omega)
          simp only [zl, k_, e_, x_, h_, m_, o_, q_, c_, v_, i_, g_, kc, qaR, qw, qx, qk, qi, kf, qDJ, kL, Nat.reduceEqDiff, qH, qE, qy, kq, h1, decide_true, ql, qI, qZ, qa, qc, qA, qL, ↓reduceIte, qP, qF, qW, qbs, hia, e8, yg, qq, zO, qbG, qd, qz, kS, qG, kA, qDC, zK, h95, decide_false, qS, ky, kh, qDt, kr, qD, qY, z7, Bool.or_false, jS, e1, e2, ku, qcT, e3, kg, qo, qp, yZ, hb8, jz, f1, hcut, hb64, qja, hm64, hd64, zJ, ha64, hlt2, kx, qDM, kW, f2, hw, jD]
          exact ih'
    · have e1 : ((48 : Int) ≤ (c : Int)) = True := by rw [eq_iff_iff]; simp; omega
      have e2 : ((c : Int) ≤ 57) = False := by rw [eq_iff_iff]; simp; omega
      have lw := fun (H : List Obj) => qtO g1 g2 (H := H)
      have e4 : ((97 : Int) ≤ ((c + 32 : Nat) : Int)) = True := by rw [eq_iff_iff]; simp; omega
      have e5 : (((c + 32 : Nat) : Int) ≤ 122) = True := by rw [eq_iff_iff]; simp; omega
      have e6 : wr .u8 (((c + 32 : Nat) : Int) - 97) = ((c - 65 : Nat) : Int) := by rw [qre (by omega) (by omega)]; omega
      have e3 : wr .u8 (((c - 65 : Nat) : Int) + 10) = (dg c : Int) := by
        have : ¬ c ≤ 57 := by omega
        rw [qre (by omega) (by omega)]; simp only [dg, this, if_false]; omega
      by_cases q1 : b ≤ dg c
      · have f1 : ((b : Int) ≤ (dg c : Int)) = True := by rw [eq_iff_iff]; simp; omega
        rw [if_pos q1]
        simp only [qmZ, zl, k_, e_, x_, h_, m_, o_, q_, c_, v_, i_, g_, kc, qaR, qw, qx, qk, qi, kf, qDJ, kL, Nat.reduceEqDiff, qH, qE, qy, kq, h1, decide_true, ql, qI, qZ, qa, qc, qA, qL, ↓reduceIte, qP, qF, qW, qbs, hia, e8, yg, qq, zO, qbG, qd, qz, kS, qG, kA, qDC, zK, h95, decide_false, qS, ky, kh, qDt, kr, qD, qY, z7, Bool.or_false, jS, e1, e2, ku, qt, qDy, qDF, qf, qC, qh, qDA, qV, lw, qr, qe, qg, Nat.min_self, e4, e5, jW, zn, kG, qcT, e6, zJ, e3, kg, qo, qp, yZ, hb8, jz, f1, qci, qep, qcN, qaT, qQ, kC, ze]
        exact ⟨_, 0, 2, .inr rfl, rfl, rfl, rfl⟩
      · have f1 : ((b : Int) ≤ (dg c : Int)) = False := by rw [eq_iff_iff]; simp; omega
        rw [if_neg q1]
        by_cases q2 : mx < n * b + dg c
        · have f2 : ((mx : Int) < ((n * b + dg c : Nat) : Int)) = True := by rw [eq_iff_iff]; simp; omega
          rw [if_pos q2]
          simp only [qmZ, zl, k_, e_, x_, h_, m_, o_, q_, c_, v_, i_, g_, kc, qaR, qw, qx, qk, qi, kf, qDJ, kL, Nat.reduceEqDiff, qH, qE, qy, kq, h1, decide_true, ql, qI, qZ, qa, qc, qA, qL, ↓reduceIte, qP, qF, qW, qbs, hia, e8, yg, qq, zO, qbG, qd, qz, kS, qG, kA, qDC, zK, h95, decide_false, qS, ky, kh, qDt, kr, qD, qY, z7, Bool.or_false, jS, e1, e2, ku, qt, qDy, qDF, qf, qC, qh, qDA, qV, lw, qr, qe, qg, Nat.min_self, e4, e5, jW, zn, kG, qcT, e6, zJ, e3, kg, qo, qp, yZ, hb8, jz, f1, hcut, hb64, qja, hm64, hd64, ha64, hlt2, kx, qDM, kW, f2, qci, qep, qcN, qaT, qQ, kC, ze]
          exact ⟨_, _, 1, .inl rfl, rfl, rfl, rfl⟩
        · have f2 : ((mx : Int) < ((n * b + dg c : Nat) : Int)) = False := by rw [eq_iff_iff]; simp; omega
          rw [if_neg q2]
          have ih' := ih (i + 1) (n * b + dg c) (by omega) (by omega) (by omega)
          simp only [zl, k_, e_, x_, h_, m_, o_, q_, c_, v_, i_, g_, kc, qaR, qw, qx, qk, qi, kf, qDJ, kL, Nat.reduceEqDiff, qH, qE, qy, kq, h1, decide_true, ql, qI, qZ, qa, qc, qA, qL, ↓reduceIte, qP, qF, qW, qbs, hia, e8, yg, qq, zO, qbG, qd, qz, kS, qG, kA, qDC, zK, h95, decide_false, qS, ky, kh, qDt, kr, qD, qY, z7, Bool.or_false, jS, e1, e2, ku, qt, qDy, qDF, qf, qC, qh, qDA, qV, lw, qr, qe, qg, Nat.min_self, e4, e5, jW, zn, kG, qcT, e6, zJ, e3, kg, qo, qp, yZ, hb8, jz, f1, hcut, hb64, qja, hm64, hd64, ha64, hlt2, kx, qDM, kW, f2, hw, jD]
          exact ih'
theorem qwq {c : Nat} {l : List Nat} : (c :: l = ([] : List Nat)) = False := by simp
theorem qkV {c : Nat} {l : List Nat} : V.osl ((D.i .u8 (c : Nat)) :: l.map fun n : Nat => D.i .u8 n) = slV e8 (c :: l) := rfl
def PuC (H : List Obj) (r : Option Nat) (X : Option Cr) : Prop :=
  match r with
  | some u => X = some ⟨false, true, .tup [.d (.i .u64 (u : Nat)), .d .ni], H, H.length⟩
  | none => ∃ z er, (er = 1 ∨ er = 2) ∧ X = some ⟨false, true, .tup [.d (.i .u64 z), .ifc 323 (.d (.i .i64 er))], H, H.length⟩
theorem qxx {s : List Nat} (hs : ∀ c ∈ s, cHx c = true) (hne : s ≠ []) (hz : s.length ≤ 1000000000000) {b bits mx : Nat} (hb : b = 10 ∧ bits = 31 ∧ mx = 2147483647 ∨ b = 16 ∧ bits = 32 ∧ mx = 4294967295 ∨ b = 16 ∧ bits = 8 ∧ mx = 255) {H : List Obj} :
    PuC H (pu b mx 0 s) (qs pg 303 [.d (.s s), .d (.i .i64 (b : Nat)), .d (.i .i64 (bits : Nat))] H) := by
  obtain ⟨c, l, rfl⟩ : ∃ c l, s = c :: l := by
    cases s with
    | nil => exact absurd rfl hne
    | cons c l => exact ⟨c, l, rfl⟩
  rw [qK (fn := jX) rfl rfl]
  have key : ∀ (ct : Nat) X, mx < ct → (b = 10 ∨ b = 16) → mx ≤ 4294967295 → X = qgQ H false [.t 6, .t 7] (qcp pg (qb3 3 [9, 12, 13] (j5 pg (.d (.i .i64 (b : Nat))) (.d (.b false)) (.d (.s (c :: l))) (.d (.i .u64 (ct : Nat))) (.d (.i .u64 (mx : Nat))) (.d (.b false)) (.d (.i .u64 0)) (slV e8 (c :: l)) (.d (.i .i64 ((c :: l).length : Nat))) (.d (.i .i64 0)) H H.length)) yK) → PuC H (pu b mx 0 (c :: l)) X := by
    intro ct X hct hb hmx hX
    have hl := qwN (s0 := c :: l) hs hz hb hmx hct (H := H) (c :: l).length 0 0 (by omega) (by omega) (by omega)
    have hz0 : ((0 : Nat) : Int) = 0 := rfl
    rw [qDQ, hz0] at hl
    subst hX
    generalize pu b mx 0 (c :: l) = r at hl
    cases r with
    | some u =>
      obtain ⟨e, h1, h2, h3⟩ := hl
      rw [h3]
      simp only [PuC, qO, qj, qT, h1, kX, h2, qm, qB, qeW, qcR, qc1, qkv, yC, qDA, qfY, qh9, ji, qeY, Nat.max_self, qdm, z1]
      all_goals rfl
    | none =>
      obtain ⟨e, z, er, h0, h1, h2, h3⟩ := hl
      rw [h3]
      refine ⟨z, er, h0, ?_⟩
      simp only [qO, qj, qT, h1, kX, h2, qlP, qm, qB, qeW, qcR, qc1, qkv, qqS, yC, qDA, qfY, qh9, ji, qfU, qeY, Nat.max_self, qdm, z1]
      all_goals rfl
  rcases hb with ⟨rfl, rfl, rfl⟩ | ⟨rfl, rfl, rfl⟩ | ⟨rfl, rfl, rfl⟩
  · refine key 1844674407370955162 _ (by omega) (by omega) (by omega) ?_
    have w1 : qb1 .shl .num true (.d (.i .u64 1)) (.d (.i .u64 (wr .u64 31))) = some (.d (.i .u64 2147483648)) := rfl
    have w2 : wr .u64 (2147483648 - 1) = 2147483647 := rfl
    simp only [jX, k_, o_, m_, i_, g_, q_, n_, qDW, qn, qDz, Nat.reduceAdd, qu, qw, qx, qk, qd, kS, qG, qI, qZ, qa, qc, kL, reduceCtorEq, qH, qE, qy, qz, qi, kf, kA, qDC, j6, qwq, decide_false, ql, qA, qL, qDt, ↓reduceIte, qP, Nat.reduceEqDiff, zK, Int.reduceEq, qF, Bool.or_false, jS, Int.reduceLE, decide_true, qS, ky, kh, qD, ku, kg, qo, kc, qp, kq, Int.reduceLT, kx, qDM, kW, yZ, w1, qcT, Int.reduceSub, qfW, qDy, qhW, qkV, qg4, ko, qbs, qei, qDE, jD, qaR]
    all_goals rfl
  · refine key 1152921504606846976 _ (by omega) (by omega) (by omega) ?_
    have w1 : qb1 .shl .num true (.d (.i .u64 1)) (.d (.i .u64 (wr .u64 32))) = some (.d (.i .u64 4294967296)) := rfl
    have w2 : wr .u64 (4294967296 - 1) = 4294967295 := rfl
    simp only [jX, k_, o_, m_, i_, g_, q_, n_, qDW, qn, qDz, Nat.reduceAdd, qu, qw, qx, qk, qd, kS, qG, qI, qZ, qa, qc, kL, reduceCtorEq, qH, qE, qy, qz, qi, kf, kA, qDC, j6, qwq, decide_false, ql, qA, qL, qDt, ↓reduceIte, qP, Nat.reduceEqDiff, zK, Int.reduceEq, qF, Bool.or_false, jS, Int.reduceLE, decide_true, qS, ky, kh, qD, ku, kg, qo, kc, qp, kq, Int.reduceLT, kx, qDM, kW, yZ, w1, qcT, Int.reduceSub, qfW, qDy, qhW, qkV, qg4, ko, qbs, qei, qDE, jD, qaR]
    all_goals rfl
  · refine key 1152921504606846976 _ (by omega) (by omega) (by omega) ?_
    have w1 : qb1 .shl .num true (.d (.i .u64 1)) (.d (.i .u64 (wr .u64 8))) = some (.d (.i .u64 256)) := rfl
    have w2 : wr .u64 (256 - 1) = 255 := rfl
    simp only [jX, k_, o_, m_, i_, g_, q_, n_, qDW, qn, qDz, Nat.reduceAdd, qu, qw, qx, qk, qd, kS, qG, qI, qZ, qa, qc, kL, reduceCtorEq, qH, qE, qy, qz, qi, kf, kA, qDC, j6, qwq, decide_false, ql, qA, qL, qDt, ↓reduceIte, qP, Nat.reduceEqDiff, zK, Int.reduceEq, qF, Bool.or_false, jS, Int.reduceLE, decide_true, qS, ky, kh, qD, ku, kg, qo, kc, qp, kq, Int.reduceLT, kx, qDM, kW, yZ, w1, qcT, Int.reduceSub, qfW, qDy, qhW, qkV, qg4, ko, qbs, qei, qDE, jD, qaR]
    all_goals rfl
theorem qiU {s : List Nat} (hs : ∀ c ∈ s, cHx c = true) (hne : s ≠ []) (hz : s.length ≤ 1000000000000) {b bits mx : Nat} (hb : b = 10 ∧ bits = 31 ∧ mx = 2147483647 ∨ b = 16 ∧ bits = 32 ∧ mx = 4294967295 ∨ b = 16 ∧ bits = 8 ∧ mx = 255) {H : List Obj} :
    match pu b mx 0 s with
    | some u => qs pg 263 [.d (.s s), .d (.i .i64 (b : Nat)), .d (.i .i64 (bits : Nat))] H = some ⟨false, true, .tup [.d (.i .u64 (u : Nat)), .d .ni], H, H.length⟩
    | none => ∃ z, qs pg 263 [.d (.s s), .d (.i .i64 (b : Nat)), .d (.i .i64 (bits : Nat))] H = some ⟨false, true, .tup [.d (.i .u64 z), .ifc 325 .undef], H, H.length⟩ := by
  have h := qxx hs hne hz hb (H := H)
  rw [qK (fn := qbh) rfl rfl]
  generalize pu b mx 0 s = r at h
  cases r with
  | some u =>
    simp only [PuC] at h
    simp only [qbh, k_, o_, m_, c_, r_, v_, qn, qDz, Nat.reduceAdd, qu, qw, qx, qk, qd, kS, qG, qI, qZ, qa, qc, kL, reduceCtorEq, qH, qE, qy, qz, Nat.reduceEqDiff, qt, qDy, qDF, qf, qC, qh, qDA, qV, h, qr, qe, qg, Nat.min_self, kr, qY, jg, qcQ, qcV, ql, qcI, qi, kf, kA, qDC, qiE, qA, qL, qDt, ↓reduceIte, qP, qQ, qO, qj, qT, kX, qm, qB, qeW, qcR, qc1, qkv, yC, qfY, qh9, ji, qeY, Nat.max_self, qdm, z1]
    all_goals rfl
  | none =>
    obtain ⟨z, er, h0, h⟩ := h
    have ht := fun (f : List Nat) => qxT (f := f) (t := s) (b := (b : Int)) (z := (bits : Int)) h0 hz (H := H)
    refine ⟨z, ?_⟩
    simp only [qbh, k_, o_, m_, c_, r_, v_, qn, qDz, Nat.reduceAdd, qu, qw, qx, qk, qd, kS, qG, qI, qZ, qa, qc, kL, reduceCtorEq, qH, qE, qy, qz, Nat.reduceEqDiff, qt, qDy, qDF, qf, qC, qh, qDA, qV, h, qr, qe, qg, Nat.min_self, kr, qY, jg, qcQ, qcV, ql, qcI, qhD, qcN, qaT, qi, kf, kA, qDC, qf6, qA, qL, ↓reduceIte, jW, zn, kG, qmI, qdd, qkv, ht, qQ, kC, qO, qj, qT, kX, qlP, qm, qB, qeW, qcR, qc1, qqS, qoj, yC]
    all_goals exact z1 rfl rfl rfl
end W

set_option linter.unusedSimpArgs false
set_option linter.unusedVariables false
namespace W
open Go (IntKind BinOp UnOp)
set_option maxRecDepth 20000
theorem qrb (P : Nat → Bool) : ∀ (l : List Nat), ∀ c ∈ l.take (run P l), P c = true
  | [], c, h => by simp at h
  | x :: l, c, h => by
    simp only [run] at h
    cases hp : P x with
    | false => rw [hp] at h; simp at h
    | true =>
      rw [hp] at h
      simp only [cond_true, qDN, List.mem_cons] at h
      rcases h with rfl | h
      · exact hp
      · exact qrb P l c h
theorem qDd {x c : Nat} {l : List Nat} : pre [x] (c :: l) = decide (c = x) := by simp [pre]
theorem qCJ {x : Nat} : pre [x] [] = false := by simp [pre]
theorem qh5 {x a : Nat} {s : List Nat} (h : pre [x] (s.drop a) = true) : a < s.length := by
  rcases Nat.lt_or_ge a s.length with h1 | h1
  · exact h1
  · rw [List.drop_eq_nil_of_le h1, qCJ] at h; cases h
def qky (kind : Int) (b mx : Nat) (t : List Nat) (a' : Nat) : Sy := match pu b mx 0 t with
  | none => .bad 30
  | some u => .ok kind [] (wr .i32 (wr .u32 (u : Nat))) a'
def qte (s : List Nat) (a : Nat) : Sy :=
  if pre [72] (s.drop (a + run cHx (s.drop a))) then qky 2 16 4294967295 ((s.drop a).take (run cHx (s.drop a))) (a + run cHx (s.drop a) + 1)
  else if pre [88] (s.drop (a + run cHx (s.drop a))) then qky 3 16 255 ((s.drop a).take (run cHx (s.drop a))) (a + run cHx (s.drop a) + 1)
  else qky 2 10 2147483647 ((s.drop a).take (run cHx (s.drop a))) (a + run cHx (s.drop a))
theorem qot {s : List Nat} (hz : s.length ≤ 1000000000000) {id a c : Nat} {l : List Nat} {H : List Obj} (hL : s.drop a = c :: l) (hc : cDg c = true) (hH : H[id]? = some (sc s a)) : MRes id s a H (qte s a) (qs pg 177 [.ptr id 0] H) := by
  have hid : id < H.length := (List.getElem?_eq_some_iff.1 hH).1
  have ha : a ≤ s.length := by have := (qlA hL).2.2; omega
  obtain ⟨sm, lo, g1, g2, g3, hw⟩ := qiF (F := 262) (P := cHx) (fun c H => quu) hz ha hH
  have hle := qgR cHx (s.drop a)
  have hk : 0 < run cHx (s.drop a) := by rw [hL]; simp [run, cHx, hc]
  have hall := qrb cHx (s.drop a)
  have hlen : ((s.drop a).take (run cHx (s.drop a))).length = run cHx (s.drop a) := by simp only [List.length_take]; omega
  simp only [List.length_drop] at hle
  unfold qte
  generalize run cHx (s.drop a) = k at *
  generalize (s.drop a).take k = t at *
  have hne : t ≠ [] := by intro h; rw [h] at hlen; simp at hlen; omega
  have hm1 : min H.length lo = lo := by omega
  have hm2 : min lo H.length = lo := by omega
  have hm3 : min lo id = id := by omega
  have hm4 : min id H.length = id := by omega
  have hH1 : (kO H id (sc s (a + k)))[id]? = some (sc s (a + k)) := yn hH
  have hh1 := qfN (t := [72]) hH1 (by omega)
  have hh2 := qfN (t := [88]) hH1 (by omega)
  have hw1 : wr .i64 (((a + k : Nat) : Int) + 1) = ((a + k + 1 : Nat) : Int) := by rw [qby (by omega) (by omega)]; omega
  rw [qK (fn := jK) rfl rfl]
  have e10 : ((10 : Nat) : Int) = 10 := rfl
  have e16 : ((16 : Nat) : Int) = 16 := rfl
  have e31 : ((31 : Nat) : Int) = 31 := rfl
  have e32 : ((32 : Nat) : Int) = 32 := rfl
  have e8 : ((8 : Nat) : Int) = 8 := rfl
  cases hp1 : pre [72] (s.drop (a + k)) with
  | true =>
    rw [hp1] at hh1
    rw [if_pos rfl]
    have hlt := qh5 hp1
    have hn := fun (H : List Obj) => qiU (b := 16) (bits := 32) (mx := 4294967295) hall hne (by omega) (by omega) (H := H)
    unfold qky
    generalize pu 16 4294967295 0 t = r at hn
    simp only [e16, e32] at hn
    cases r with
    | some u =>
      simp only at hn ⊢
      refine MRes.good hid hH (lo := id) (qDx _) (by omega) (.inr (qDx _)) ?_ (e := ?_)
      rotate_left
      · simp only [jK, s_, k_, o_, m_, a_, h_, c_, v_, i_, g_, z_, l_, r_, qn, qDz, qu, qw, qx, qk, kl, qDy, qDF, qI, kE, qJ, zG, qN, qa, qc, qd, kL, reduceCtorEq, qH, qE, kp, qz, zw, qR, ql, qb, zX, qq, kv, hH, zk, qDv, qDu, qDw, q9, qZ, qy, qt, qhT, qf, kN, yF, yC, qDA, qh, qV, hw, qr, qe, qcc, qg, hm1, jW, zn, kG, kS, qG, qF, qC, hh1, zi, hm2, qA, qL, ↓reduceIte, hH1, qi, kf, kA, qDC, zJ, hw1, Nat.reduceEqDiff, kB, yk, z8, kP, qDE, qDD, qX, kU, kj, zE, Nat.reduceAdd, Nat.reduceLT, zZ, qDO, qDK, zB, yS, hm3, zF, kg, qo, zx, kc, qp, hn, hm4, kr, qY, jg, qcQ, qcV, qcI, qiE, qDt, qP, yZ, k9, yb, zS, zU, kY, ju, za, kz, kJ, ke, zT, ki, jO, zA, jA, zc, qQ, qO, qj, zP, qaj, Nat.reduceLeDiff, jU, qDQ, qDN, qDT, qm, qB, qU]
        rfl
    | none =>
      obtain ⟨z, hn1⟩ := hn (kO H id (sc s (a + k + 1)))
      simp only
      refine MRes.worse hid hH (lo := id) (a' := a + k + 1) (qDx _) (by omega) (.inr (qDx _)) ?_ (e := ?_)
      rotate_left
      · simp only [jK, s_, k_, o_, m_, a_, h_, c_, v_, i_, g_, z_, l_, r_, qn, qDz, qu, qw, qx, qk, kl, qDy, qDF, qI, kE, qJ, zG, qN, qa, qc, qd, kL, reduceCtorEq, qH, qE, kp, qz, zw, qR, ql, qb, zX, qq, kv, hH, zk, qDv, qDu, qDw, q9, qZ, qy, qt, qhT, qf, kN, yF, yC, qDA, qh, qV, hw, qr, qe, qcc, qg, hm1, jW, zn, kG, kS, qG, qF, qC, hh1, zi, hm2, qA, qL, ↓reduceIte, hH1, qi, kf, kA, qDC, zJ, hw1, Nat.reduceEqDiff, kB, yk, z8, kP, qDE, qDD, qX, kU, kj, zE, Nat.reduceAdd, Nat.reduceLT, zZ, qDO, qDK, zB, yS, hm3, zF, kg, qo, zx, kc, qp, hn1, hm4, kr, qY, jg, qcQ, qcV, qcI, qhD, qcN, qaT, qf6, qdW, qbb, yU, y7]
        rfl
  | false =>
    rw [hp1] at hh1
    rw [if_neg (by simp)]
    cases hp2 : pre [88] (s.drop (a + k)) with
    | true =>
      rw [hp2] at hh2
      rw [if_pos rfl]
      have hlt := qh5 hp2
      have hn := fun (H : List Obj) => qiU (b := 16) (bits := 8) (mx := 255) hall hne (by omega) (by omega) (H := H)
      unfold qky
      generalize pu 16 255 0 t = r at hn
      simp only [e16, e8] at hn
      cases r with
      | some u =>
        simp only at hn ⊢
        refine MRes.good hid hH (lo := id) (qDx _) (by omega) (.inr (qDx _)) ?_ (e := ?_)
        rotate_left
        · simp only [jK, s_, k_, o_, m_, a_, h_, c_, v_, i_, g_, z_, l_, r_, qn, qDz, qu, qw, qx, qk, kl, qDy, qDF, qI, kE, qJ, zG, qN, qa, qc, qd, kL, reduceCtorEq, qH, qE, kp, qz, zw, qR, ql, qb, zX, qq, kv, hH, zk, qDv, qDu, qDw, q9, qZ, qy, qt, qhT, qf, kN, yF, yC, qDA, qh, qV, hw, qr, qe, qcc, qg, hm1, jW, zn, kG, kS, qG, qF, qC, hh1, zi, hm2, qA, qL, qDt, ↓reduceIte, hh2, hH1, qi, kf, kA, qDC, zJ, hw1, Nat.reduceEqDiff, kB, yk, z8, kP, qDE, qDD, qX, kU, kj, zE, Nat.reduceAdd, Nat.reduceLT, zZ, qDO, qDK, zB, yS, hm3, zF, kg, qo, zx, kc, qp, hn, hm4, kr, qY, jg, qcQ, qcV, qcI, qiE, qP, yZ, k9, yb, zS, zU, kY, ju, za, kz, kJ, ke, zT, ki, jO, zA, jA, zc, qQ, qO, qj, zP, qaj, Nat.reduceLeDiff, jU, qDQ, qDN, qDT, qm, qB, qU]
          rfl
      | none =>
        obtain ⟨z, hn1⟩ := hn (kO H id (sc s (a + k + 1)))
        simp only
        refine MRes.worse hid hH (lo := id) (a' := a + k + 1) (qDx _) (by omega) (.inr (qDx _)) ?_ (e := ?_)
        rotate_left
        · simp only [jK, s_, k_, o_, m_, a_, h_, c_, v_, i_, g_, z_, l_, r_, qn, qDz, qu, qw, qx, qk, kl, qDy, qDF, qI, kE, qJ, zG, qN, qa, qc, qd, kL, reduceCtorEq, qH, qE, kp, qz, zw, qR, ql, qb, zX, qq, kv, hH, zk, qDv, qDu, qDw, q9, qZ, qy, qt, qhT, qf, kN, yF, yC, qDA, qh, qV, hw, qr, qe, qcc, qg, hm1, jW, zn, kG, kS, qG, qF, qC, hh1, zi, hm2, qA, qL, qDt, ↓reduceIte, hh2, hH1, qi, kf, kA, qDC, zJ, hw1, Nat.reduceEqDiff, kB, yk, z8, kP, qDE, qDD, qX, kU, kj, zE, Nat.reduceAdd, Nat.reduceLT, zZ, qDO, qDK, zB, yS, hm3, zF, kg, qo, zx, kc, qp, hn1, hm4, kr, qY, jg, qcQ, qcV, qcI, qhD, qcN, qaT, qf6, qdW, qbb, yU, y7]
          rfl
    | false =>
      rw [hp2] at hh2
      rw [if_neg (by simp)]
      have hn := fun (H : List Obj) => qiU (b := 10) (bits := 31) (mx := 2147483647) hall hne (by omega) (by omega) (H := H)
      unfold qky
      generalize pu 10 2147483647 0 t = r at hn
      simp only [e10, e31] at hn
      have g3' : a + k = a ∨ lo ≤ id := by omega
      cases r with
      | some u =>
        simp only at hn ⊢
        refine MRes.good hid hH g1 g2 g3' ?_ (e := ?_)
        rotate_left
        · simp only [jK, s_, k_, o_, m_, a_, h_, c_, v_, i_, g_, z_, l_, r_, qn, qDz, qu, qw, qx, qk, kl, qDy, qDF, qI, kE, qJ, zG, qN, qa, qc, qd, kL, reduceCtorEq, qH, qE, kp, qz, zw, qR, ql, qb, zX, qq, kv, hH, zk, qDv, qDu, qDw, q9, qZ, qy, qt, qhT, qf, kN, yF, yC, qDA, qh, qV, hw, qr, qe, qcc, qg, hm1, jW, zn, kG, kS, qG, qF, qC, hh1, zi, hm2, qA, qL, qDt, ↓reduceIte, hh2, qP, kg, qo, Nat.reduceEqDiff, zx, kc, qp, hn, kr, qY, jg, qcQ, qcV, qcI, qi, kf, kA, qDC, qiE, yZ, k9, z8, kP, kU, qDE, qDD, Nat.reduceAdd, Nat.reduceLT, yb, qDK, qDO, zS, zU, kY, ju, za, kz, kJ, kB, ke, zT, ki, qX, jO, kj, zA, jA, zc, zF, qQ, qO, qj, zP, qaj, Nat.reduceLeDiff, jU, qDQ, qDN, qDT, qm, qB, qU]
          rfl
      | none =>
        obtain ⟨z, hn1⟩ := hn (kO H id (sc s (a + k)))
        simp only
        refine MRes.worse hid hH g1 g2 g3' ?_ (e := ?_)
        rotate_left
        · simp only [jK, s_, k_, o_, m_, a_, h_, c_, v_, i_, g_, z_, l_, r_, qn, qDz, qu, qw, qx, qk, kl, qDy, qDF, qI, kE, qJ, zG, qN, qa, qc, qd, kL, reduceCtorEq, qH, qE, kp, qz, zw, qR, ql, qb, zX, qq, kv, hH, zk, qDv, qDu, qDw, q9, qZ, qy, qt, qhT, qf, kN, yF, yC, qDA, qh, qV, hw, qr, qe, qcc, qg, hm1, jW, zn, kG, kS, qG, qF, qC, hh1, zi, hm2, qA, qL, qDt, ↓reduceIte, hh2, qP, kg, qo, Nat.reduceEqDiff, zx, kc, qp, hn1, kr, qY, jg, qcQ, qcV, qcI, qhD, qcN, qaT, qi, kf, kA, qDC, qf6, qdW, qbb, yU, y7]
          rfl
def qmV (s : List Nat) (a : Nat) : Sy :=
  if pre [34] (s.drop (a + 1 + run cTx (s.drop (a + 1)))) then
    (if 120 < run cTx (s.drop (a + 1)) then .bad 34 else .ok 4 ((s.drop (a + 1)).take (run cTx (s.drop (a + 1)))) 0 (a + 1 + run cTx (s.drop (a + 1)) + 1))
  else .bad 30
theorem qsT {s : List Nat} (hz : s.length ≤ 1000000000000) {id a : Nat} {H : List Obj} (ha : a < s.length) (hH : H[id]? = some (sc s a)) : MRes id s a H (qmV s a) (qs pg 179 [.ptr id 0] H) := by
  have hid : id < H.length := (List.getElem?_eq_some_iff.1 hH).1
  have hH1 : (kO H id (sc s (a + 1)))[id]? = some (sc s (a + 1)) := yn hH
  obtain ⟨sm, lo, g1, g2, g3, hw⟩ := qiF (F := 264) (P := cTx) (fun c H => qqb) hz (by omega) hH1
  have hle := qgR cTx (s.drop (a + 1))
  have hlen : ((s.drop (a + 1)).take (run cTx (s.drop (a + 1)))).length = run cTx (s.drop (a + 1)) := by simp only [List.length_take]; omega
  simp only [List.length_drop] at hle
  rw [yS] at hw
  rw [zi] at g2
  unfold qmV
  generalize run cTx (s.drop (a + 1)) = k at *
  generalize (s.drop (a + 1)).take k = t at *
  have hm1 : min H.length id = id := by omega
  have hm2 : min id lo = id := by omega
  have hm3 : min id H.length = id := by omega
  have hm4 : min id id = id := by omega
  have hH2 : (kO H id (sc s (a + 1 + k)))[id]? = some (sc s (a + 1 + k)) := yn hH
  have hh1 := qfN (t := [34]) hH2 (by omega)
  have hw0 : wr .i64 ((a : Int) + 1) = ((a + 1 : Nat) : Int) := by rw [qby (by omega) (by omega)]; omega
  have hw1 : wr .i64 (((a + 1 + k : Nat) : Int) + 1) = ((a + 1 + k + 1 : Nat) : Int) := by rw [qby (by omega) (by omega)]; omega
  rw [qK (fn := qaw) rfl rfl]
  cases hp : pre [34] (s.drop (a + 1 + k)) with
  | false =>
    rw [hp] at hh1
    rw [if_neg (by simp)]
    refine MRes.worse hid hH (lo := id) (a' := a + 1 + k) (qDx _) (by omega) (.inr (qDx _)) ?_ (e := ?_)
    rotate_left
    · simp only [qaw, s_, k_, o_, m_, a_, h_, g_, z_, l_, c_, v_, u_, i_, qn, qDz, qu, qw, qx, qk, kl, qDy, qDF, qI, kE, qJ, zG, qN, qa, qc, qd, kL, reduceCtorEq, qH, qE, kp, qz, zw, qR, ql, qb, zX, qq, kv, hH, zk, qDv, qDu, qDw, q9, qZ, qy, qi, kf, kA, qDC, kS, zJ, hw0, Nat.reduceEqDiff, kB, yk, z8, kP, qDE, qDD, qX, kU, kj, qDA, zE, Nat.reduceAdd, Nat.reduceLT, zZ, qDO, qDK, zB, hm1, zF, qt, qhT, qf, kN, yF, yC, qh, qV, hw, qr, qe, qcc, qg, hm2, jW, zn, kG, qF, qC, hh1, zi, qG, hm3, kK, zW, qDM, qA, qL, ↓reduceIte, qdW, qbb, qaO, yU, y7]
      rfl
  | true =>
    rw [hp] at hh1
    rw [if_pos rfl]
    have hlt := qh5 hp
    by_cases h1 : 120 < k
    · have e1 : ((120 : Int) < ((k : Nat) : Int)) = True := by rw [eq_iff_iff]; simp; omega
      rw [if_pos h1]
      refine MRes.worse hid hH (lo := id) (a' := a + 1 + k) (qDx _) (by omega) (.inr (qDx _)) ?_ (e := ?_)
      rotate_left
      · simp only [qaw, s_, k_, o_, m_, a_, h_, g_, z_, l_, c_, v_, u_, i_, qn, qDz, qu, qw, qx, qk, kl, qDy, qDF, qI, kE, qJ, zG, qN, qa, qc, qd, kL, reduceCtorEq, qH, qE, kp, qz, zw, qR, ql, qb, zX, qq, kv, hH, zk, qDv, qDu, qDw, q9, qZ, qy, qi, kf, kA, qDC, kS, zJ, hw0, Nat.reduceEqDiff, kB, yk, z8, kP, qDE, qDD, qX, kU, kj, qDA, zE, Nat.reduceAdd, Nat.reduceLT, zZ, qDO, qDK, zB, hm1, zF, qt, qhT, qf, kN, yF, yC, qh, qV, hw, qr, qe, qcc, qg, hm2, jW, zn, kG, qF, qC, hh1, zi, qG, hm3, kK, zW, qDL, qA, qL, qDt, ↓reduceIte, qM, kT, hlen, kW, e1, decide_true, qdW, qbb, qaO, yU, y7]
        rfl
    · have e1 : ((120 : Int) < ((k : Nat) : Int)) = False := by rw [eq_iff_iff]; simp; omega
      rw [if_neg h1]
      refine MRes.good hid hH (lo := id) (qDx _) (by omega) (.inr (qDx _)) ?_ (e := ?_)
      rotate_left
      · simp only [qaw, s_, k_, o_, m_, a_, h_, g_, z_, l_, c_, v_, u_, i_, qn, qDz, qu, qw, qx, qk, kl, qDy, qDF, qI, kE, qJ, zG, qN, qa, qc, qd, kL, reduceCtorEq, qH, qE, kp, qz, zw, qR, ql, qb, zX, qq, kv, hH, zk, qDv, qDu, qDw, q9, qZ, qy, qi, kf, kA, qDC, kS, zJ, hw0, Nat.reduceEqDiff, kB, yk, z8, kP, qDE, qDD, qX, kU, kj, qDA, zE, Nat.reduceAdd, Nat.reduceLT, zZ, qDO, qDK, zB, hm1, zF, qt, qhT, qf, kN, yF, yC, qh, qV, hw, qr, qe, qcc, qg, hm2, jW, zn, kG, qF, qC, hh1, zi, qG, hm3, kK, zW, qDL, qA, qL, qDt, ↓reduceIte, qM, kT, hlen, kW, e1, decide_false, qP, kg, qo, zV, zx, kc, qp, hH2, hw1, yS, hm4, k9, yb, jO, zS, zU, kY, ju, za, kz, kJ, ke, zT, ki, zA, jA, zc, qQ, qO, qj, zP, qaj, Nat.reduceLeDiff, jU, qDQ, qDN, qDT, qm, qB, qU]
        rfl
def SG : List Nat := [43, 45, 42, 47, 38, 126, 61, 35, 60, 62, 46, 44, 59, 58, 40, 41, 91, 93, 123, 125, 94, 124]
def qmO (s : List Nat) (a c : Nat) : Sy :=
  if pre [60, 61] (s.drop a) then .ok 5 [60, 61] 0 (a + 2)
  else if pre [62, 61] (s.drop a) then .ok 5 [62, 61] 0 (a + 2)
  else if pre [58, 61] (s.drop a) then .ok 5 [58, 61] 0 (a + 2)
  else if pre [46, 46] (s.drop a) then .ok 5 [46, 46] 0 (a + 2)
  else if ixN c SG < 0 then .bad 30 else .ok 5 [c] 0 (a + 1)
theorem qta {s : List Nat} (hs : ∀ c ∈ s, c < 256) (hz : s.length ≤ 1000000000000) {id a c : Nat} {l : List Nat} {H : List Obj} (hL : s.drop a = c :: l) (hH : H[id]? = some (sc s a)) : MRes id s a H (qmO s a c) (qs pg 180 [.ptr id 0] H) := by
  have hid : id < H.length := (List.getElem?_eq_some_iff.1 hH).1
  obtain ⟨hget, hdr, hlt⟩ := qlA hL
  have hh := fun (t : List Nat) => qfN (t := t) hH (by omega)
  have hix : ixV (.d (.s s)) (.d (.i .i64 (a : Int))) = some (.d (.i .u8 ((c : Nat) : Int))) := qoD (by omega) (by simpa using hget)
  have hc : c < 256 := hs c (List.mem_of_getElem? hget)
  have hi := qrx (t := SG) hc (H := H)
  have hm1 : min H.length id = id := by omega
  have hw1 : wr .i64 ((a : Int) + 1) = ((a + 1 : Nat) : Int) := by rw [qby (by omega) (by omega)]; omega
  have hw2 : wr .i64 ((a : Int) + 2) = ((a + 2 : Nat) : Int) := by rw [qby (by omega) (by omega)]; omega
  have i0 : iaV (.d (.sl [.s [60, 61], .s [62, 61], .s [58, 61], .s [46, 46]])) (.d (.i .i64 0)) 1 none = some (.cp (.s [60, 61])) := rfl
  have i1 : iaV (.d (.sl [.s [60, 61], .s [62, 61], .s [58, 61], .s [46, 46]])) (.d (.i .i64 1)) 1 none = some (.cp (.s [62, 61])) := rfl
  have i2 : iaV (.d (.sl [.s [60, 61], .s [62, 61], .s [58, 61], .s [46, 46]])) (.d (.i .i64 2)) 1 none = some (.cp (.s [58, 61])) := rfl
  have i3 : iaV (.d (.sl [.s [60, 61], .s [62, 61], .s [58, 61], .s [46, 46]])) (.d (.i .i64 3)) 1 none = some (.cp (.s [46, 46])) := rfl
  have w1 : wr .i64 1 = 1 := rfl
  have w2 : wr .i64 2 = 2 := rfl
  have w3 : wr .i64 3 = 3 := rfl
  have w4 : wr .i64 4 = 4 := rfl
  rw [qK (fn := yc) rfl rfl]
  unfold qmO
  have h0 := hh [60, 61]
  have h1 := hh [62, 61]
  have h2 := hh [58, 61]
  have h3 := hh [46, 46]
  by_cases q0 : pre [60, 61] (s.drop a) = true
  · rw [if_pos q0]
    rw [q0] at h0
    refine MRes.good hid hH (lo := id) (qDx _) (by omega) (.inr (qDx _)) ?_ (e := ?_)
    rotate_left
    · simp only [yc, s_, k_, o_, n_, i_, qn, qDz, qu, qw, qx, qk, kl, qDy, qDF, qI, kE, qJ, zG, qN, qa, qc, kF, qeg, qDE, qDD, List.reduceReplicate, kS, Nat.reduceAdd, Nat.reduceLT, jp, qDK, qDO, jN, yl, jO, qgX, yT, qDA, yj, ql, yY, ko, kL, qE, yh, jR, qDW, qZ, qd, qG, qF, yq, reduceCtorEq, qH, zV, Nat.reduceEqDiff, zx, y4, kc, yp, jY, e_, x_, l_, m_, c_, a_, h_, z_, g_, qi, kf, qDJ, qy, kq, Int.reduceLT, decide_true, qA, qL, ↓reduceIte, qP, qW, i0, yg, yL, zO, qdO, yH, qz, kp, zw, qt, qf, kN, qC, qh, qV, h0, qr, qe, qg, Nat.min_self, qR, qb, zX, qq, kv, hH, zk, qDv, qDu, qDw, q9, qM, kT, zJ, hw2, kB, yk, z8, kP, qX, kU, kj, zE, zZ, zB, hm1, zF, k9, yb, zS, zU, kY, ju, za, kz, kJ, ke, zT, ki, zA, jA, zc, qQ, ze, kC, qO, qj, zP, qaj, Nat.reduceLeDiff, jU, qDQ, qDN, qDT, qm, qB, qU]
      rfl
  rw [if_neg q0]
  rw [Bool.not_eq_true] at q0
  rw [q0] at h0
  by_cases q1 : pre [62, 61] (s.drop a) = true
  · rw [if_pos q1]
    rw [q1] at h1
    refine MRes.good hid hH (lo := id) (qDx _) (by omega) (.inr (qDx _)) ?_ (e := ?_)
    rotate_left
    · simp only [yc, s_, k_, o_, n_, i_, qn, qDz, qu, qw, qx, qk, kl, qDy, qDF, qI, kE, qJ, zG, qN, qa, qc, kF, qeg, qDE, qDD, List.reduceReplicate, kS, Nat.reduceAdd, Nat.reduceLT, jp, qDK, qDO, jN, yl, jO, qgX, yT, qDA, yj, ql, yY, ko, kL, qE, yh, jR, qDW, qZ, qd, qG, qF, yq, reduceCtorEq, qH, zV, Nat.reduceEqDiff, zx, y4, kc, yp, jY, e_, x_, l_, m_, c_, a_, h_, z_, g_, qi, kf, qDJ, qy, kq, Int.reduceLT, decide_true, qA, qL, ↓reduceIte, qP, qW, i0, yg, yL, zO, qdO, yH, qz, kp, zw, qt, qf, kN, qC, qh, qV, h0, qr, qe, qg, Nat.min_self, qDt, kg, qo, qp, kA, qDC, zJ, Int.reduceAdd, w1, i1, h1, qR, qb, zX, qq, kv, hH, zk, qDv, qDu, qDw, q9, qM, kT, hw2, kB, yk, z8, kP, qX, kU, kj, zE, zZ, zB, hm1, zF, k9, yb, zS, zU, kY, ju, za, kz, kJ, ke, zT, ki, zA, jA, zc, qQ, ze, kC, qO, qj, zP, qaj, Nat.reduceLeDiff, jU, qDQ, qDN, qDT, qm, qB, qU]
      rfl
  rw [if_neg q1]
  rw [Bool.not_eq_true] at q1
  rw [q1] at h1
  by_cases q2 : pre [58, 61] (s.drop a) = true
  · rw [if_pos q2]
    rw [q2] at h2
    refine MRes.good hid hH (lo := id) (qDx _) (by omega) (.inr (qDx _)) ?_ (e := ?_)
    rotate_left
    · simp only [yc, s_, k_, o_, n_, i_, qn, qDz, qu, qw, qx, qk, kl, qDy, qDF, qI, kE, qJ, zG, qN, qa, qc, kF, qeg, qDE, qDD, List.reduceReplicate, kS, Nat.reduceAdd, Nat.reduceLT, jp, qDK, qDO, jN, yl, jO, qgX, yT, qDA, yj, ql, yY, ko, kL, qE, yh, jR, qDW, qZ, qd, qG, qF, yq, reduceCtorEq, qH, zV, Nat.reduceEqDiff, zx, y4, kc, yp, jY, e_, x_, l_, m_, c_, a_, h_, z_, g_, qi, kf, qDJ, qy, kq, Int.reduceLT, decide_true, qA, qL, ↓reduceIte, qP, qW, i0, yg, yL, zO, qdO, yH, qz, kp, zw, qt, qf, kN, qC, qh, qV, h0, qr, qe, qg, Nat.min_self, qDt, kg, qo, qp, kA, qDC, zJ, Int.reduceAdd, w1, i1, h1, w2, i2, h2, qR, qb, zX, qq, kv, hH, zk, qDv, qDu, qDw, q9, qM, kT, hw2, kB, yk, z8, kP, qX, kU, kj, zE, zZ, zB, hm1, zF, k9, yb, zS, zU, kY, ju, za, kz, kJ, ke, zT, ki, zA, jA, zc, qQ, ze, kC, qO, qj, zP, qaj, Nat.reduceLeDiff, jU, qDQ, qDN, qDT, qm, qB, qU]
      rfl
  rw [if_neg q2]
  rw [Bool.not_eq_true] at q2
  rw [q2] at h2
  by_cases q3 : pre [46, 46] (s.drop a) = true
  · rw [if_pos q3]
    rw [q3] at h3
    refine MRes.good hid hH (lo := id) (qDx _) (by omega) (.inr (qDx _)) ?_ (e := ?_)
    rotate_left
    · simp only [yc, s_, k_, o_, n_, i_, qn, qDz, qu, qw, qx, qk, kl, qDy, qDF, qI, kE, qJ, zG, qN, qa, qc, kF, qeg, qDE, qDD, List.reduceReplicate, kS, Nat.reduceAdd, Nat.reduceLT, jp, qDK, qDO, jN, yl, jO, qgX, yT, qDA, yj, ql, yY, ko, kL, qE, yh, jR, qDW, qZ, qd, qG, qF, yq, reduceCtorEq, qH, zV, Nat.reduceEqDiff, zx, y4, kc, yp, jY, e_, x_, l_, m_, c_, a_, h_, z_, g_, qi, kf, qDJ, qy, kq, Int.reduceLT, decide_true, qA, qL, ↓reduceIte, qP, qW, i0, yg, yL, zO, qdO, yH, qz, kp, zw, qt, qf, kN, qC, qh, qV, h0, qr, qe, qg, Nat.min_self, qDt, kg, qo, qp, kA, qDC, zJ, Int.reduceAdd, w1, i1, h1, w2, i2, h2, w3, i3, h3, qR, qb, zX, qq, kv, hH, zk, qDv, qDu, qDw, q9, qM, kT, hw2, kB, yk, z8, kP, qX, kU, kj, zE, zZ, zB, hm1, zF, k9, yb, zS, zU, kY, ju, za, kz, kJ, ke, zT, ki, zA, jA, zc, qQ, ze, kC, qO, qj, zP, qaj, Nat.reduceLeDiff, jU, qDQ, qDN, qDT, qm, qB, qU]
      rfl
  rw [if_neg q3]
  rw [Bool.not_eq_true] at q3
  rw [q3] at h3
  by_cases q4 : ixN c SG < 0
  · have e1 : (ixN c SG < 0) = True := eq_true q4
    rw [if_pos q4]
    simp only [SG] at hi e1
    refine MRes.worse hid hH (lo := H.length) (a' := a) (by omega) (qDx _) (.inl rfl) ?_ (e := ?_)
    rotate_left
    · rw [qaP hH]
      simp only [yc, s_, k_, o_, n_, i_, qcX, m_, a_, h_, g_, c_, z_, l_, qn, qDz, qu, qw, qx, qk, kl, qDy, qDF, qI, kE, qJ, zG, qN, qa, qc, kF, qeg, qDE, qDD, List.reduceReplicate, kS, Nat.reduceAdd, Nat.reduceLT, jp, qDK, qDO, jN, yl, jO, qgX, yT, qDA, yj, ql, yY, ko, kL, qE, yh, jR, qDW, qZ, qd, qG, qF, yq, reduceCtorEq, qH, zV, Nat.reduceEqDiff, zx, y4, kc, yp, jY, e_, x_, qi, kf, qDJ, qy, kq, Int.reduceLT, decide_true, qA, qL, ↓reduceIte, qP, qW, i0, yg, yL, zO, qdO, yH, qz, kp, zw, qt, qf, kN, qC, qh, qV, h0, qr, qe, qg, Nat.min_self, qDt, kg, qo, qp, kA, qDC, zJ, Int.reduceAdd, w1, i1, h1, w2, i2, h2, w3, i3, h3, w4, decide_false, j7, zY, zC, jP, jl, jk, yd, jm, qR, qb, zX, qDU, qq, kv, hH, zk, qDu, qDw, q9, y9, qDv, kZ, hix, zq, hi, e1, zr, qdW, qbb, yU, y7]
      rfl
  · have e1 : (ixN c SG < 0) = False := eq_false q4
    rw [if_neg q4]
    simp only [SG] at hi e1
    have hH1 : (kO H id (sc s (a + 1)))[id]? = some (sc s (a + 1)) := yn hH
    have hwm : wr .i64 (((a + 1 : Nat) : Int) - 1) = (a : Int) := by rw [qby (by omega) (by omega)]; omega
    have hmid := qvU (l := s) (a := a) (b := a + 1) (by omega) (by omega)
    have hmm : (s.take (a + 1)).drop a = [c] := by
      rw [List.drop_take, hL]; simp
    rw [hmm] at hmid
    refine MRes.good hid hH (lo := id) (qDx _) (by omega) (.inr (qDx _)) ?_ (e := ?_)
    rotate_left
    · simp only [yc, s_, k_, o_, n_, i_, qcX, m_, a_, h_, g_, c_, z_, l_, qn, qDz, qu, qw, qx, qk, kl, qDy, qDF, qI, kE, qJ, zG, qN, qa, qc, kF, qeg, qDE, qDD, List.reduceReplicate, kS, Nat.reduceAdd, Nat.reduceLT, jp, qDK, qDO, jN, yl, jO, qgX, yT, qDA, yj, ql, yY, ko, kL, qE, yh, jR, qDW, qZ, qd, qG, qF, yq, reduceCtorEq, qH, zV, Nat.reduceEqDiff, zx, y4, kc, yp, jY, e_, x_, qi, kf, qDJ, qy, kq, Int.reduceLT, decide_true, qA, qL, ↓reduceIte, qP, qW, i0, yg, yL, zO, qdO, yH, qz, kp, zw, qt, qf, kN, qC, qh, qV, h0, qr, qe, qg, Nat.min_self, qDt, kg, qo, qp, kA, qDC, zJ, Int.reduceAdd, w1, i1, h1, w2, i2, h2, w3, i3, h3, w4, decide_false, j7, zY, zC, jP, jl, jk, yd, jm, qR, qb, zX, qDU, qq, kv, hH, zk, qDu, qDw, q9, y9, qDv, kZ, hix, zq, hi, e1, zr, hw1, kB, yk, z8, kP, qX, kU, kj, zE, zZ, zB, hm1, zF, hH1, qcT, hwm, qd2, qeV, qk1, qgr, hmid, k9, yb, zS, zU, kY, ju, za, kz, kJ, ke, zT, ki, zA, jA, zc, qdZ, qQ, qO, qj, zP, qaj, Nat.reduceLeDiff, jU, qDQ, qDN, qDT, qm, qB, qU]
      rfl
end W

set_option linter.unusedSimpArgs false
set_option linter.unusedVariables false
namespace W
open Go (IntKind BinOp UnOp)
set_option maxRecDepth 20000
theorem qyc : ∀ (n deep frm a : Nat) (l : List Nat) (j : Nat), l.length ≤ n → sk deep frm a l = (true, j) → a ≤ j ∧ j ≤ a + l.length := by
  intro n
  induction n with
  | zero =>
    intro deep frm a l j hn h
    have : l = [] := List.length_eq_zero_iff.1 (by omega)
    subst this
    simp only [sk] at h
    split at h
    · cases h; simp
    · cases h
  | succ n ih =>
    intro deep frm a l j hn h
    match l, hn, h with
    | [], hn, h =>
      simp only [sk] at h
      split at h
      · cases h; simp
      · cases h
    | [c], hn, h =>
      simp only [sk] at h
      split at h
      · split at h
        · cases h; simp
        · cases h; simp
      · cases h
    | c :: d :: l, hn, h =>
      simp only [qDE] at hn ⊢
      rw [sk] at h
      split at h
      · have := ih _ _ _ _ _ (by omega) h; omega
      · split at h
        · have := ih _ _ _ _ _ (by omega) h; omega
        · split at h
          · have := ih _ _ _ _ _ (by simp only [qDE]; omega) h
            simp only [qDE] at this; omega
          · cases h; omega
def qnY (s : List Nat) (j : Nat) : Sy := match s.drop j with
  | [] => .bad 0
  | c :: _ => if cLt c = true then qk8 s j else if cDg c = true then qte s j else if c = 34 then qmV s j else qmO s j c
inductive Nx where
  | ok (k : Int) (p e : Nat) (t : List Nat) (n : Int)
  | bad (p : Nat) (e : Int)
def qs0 (j : Nat) : Sy → Nx
  | .ok k t n a' => .ok k j a' t n
  | .bad e => .bad j e
def qhJ (s : List Nat) (a : Nat) : Nx := match sk 0 a a (s.drop a) with
  | (false, p) => .bad p 30
  | (true, j) => if j = s.length then .ok 0 j j [] 0 else qs0 j (qnY s j)
def NRes (id : Nat) (s : List Nat) (a : Nat) (H : List Obj) (r : Nx) (X : Option Cr) : Prop :=
  match r with
  | .ok k p e t n => ∃ sm lo, id ≤ lo ∧ lo ≤ H.length ∧ (e = a ∨ lo ≤ id) ∧ X = some ⟨false, sm, .d (tok k p e t n), kO H id (sc s e), lo⟩
  | .bad p x => ∃ sm lo a', id ≤ lo ∧ lo ≤ H.length ∧ (a' = a ∨ lo ≤ id) ∧ X = some ⟨true, sm, .ifc 157 (.d (.agg [.i .i64 (p : Nat), .i .i64 x])), kO H id (sc s a'), lo⟩
theorem NRes.good {id : Nat} {s : List Nat} {a p a' : Nat} {H : List Obj} {k n : Int} {t : List Nat} {e : Env} {lo : Nat} {X : Option Cr} (hid : id < H.length) (hH : H[id]? = some (sc s a)) (h1 : id ≤ lo) (h2 : lo ≤ H.length) (h3 : a' = a ∨ lo ≤ id)
    (h : X = leave H false (.d (tok k p a' t n)) ⟨e, kO H id (sc s a'), lo⟩) : NRes id s a H (.ok k p a' t n) X := by
  obtain ⟨sm, hlv⟩ := qfJ (pan := false) (v := .d (tok k p a' t n)) (e := e) (lo := lo) (o := sc s a') rfl rfl (fun _ => rfl) (by
      rcases h3 with h | h
      · left; rw [h]; exact qaP hH
      · right; exact h) hid
  exact ⟨sm, lo, h1, h2, h3, h.trans hlv⟩
theorem NRes.worse {id p : Nat} {s : List Nat} {a a' : Nat} {H : List Obj} {x : Int} {e : Env} {lo : Nat} {X : Option Cr} (hid : id < H.length) (hH : H[id]? = some (sc s a)) (h1 : id ≤ lo) (h2 : lo ≤ H.length) (h3 : a' = a ∨ lo ≤ id)
    (h : X = leave H true (.ifc 157 (.d (.agg [.i .i64 (p : Nat), .i .i64 x]))) ⟨e, kO H id (sc s a'), lo⟩) : NRes id s a H (.bad p x) X := by
  obtain ⟨sm, hlv⟩ := qfJ (pan := true) (v := .ifc 157 (.d (.agg [.i .i64 (p : Nat), .i .i64 x]))) (e := e) (lo := lo) (o := sc s a') rfl rfl (fun _ => rfl) (by
      rcases h3 with h | h
      · left; rw [h]; exact qaP hH
      · right; exact h) hid
  exact ⟨sm, lo, a', h1, h2, h3, h.trans hlv⟩
theorem qr7 {s : List Nat} (hs : ∀ c ∈ s, c < 256) (hz : s.length ≤ 1000000000000) {id a : Nat} {H : List Obj} (ha : a ≤ s.length) (hH : H[id]? = some (sc s a)) : NRes id s a H (qhJ s a) (qs pg 83 [.ptr id 0] H) := by
  have hid : id < H.length := (List.getElem?_eq_some_iff.1 hH).1
  have hsk := qsv hs hz ha hH
  rw [qK (fn := f_scan_scanner_next) rfl rfl]
  unfold qhJ
  have hjl := fun j => qyc (s.drop a).length 0 a a (s.drop a) j (qDx _)
  generalize sk 0 a a (s.drop a) = r at hsk hjl
  obtain ⟨b, j⟩ := r
  cases b with
  | false =>
    obtain ⟨sm, lo, a', g1, g2, g3, hsk⟩ := hsk
    have hm1 : min H.length lo = lo := by omega
    refine NRes.worse hid hH g1 g2 g3 ?_ (e := ?_)
    rotate_left
    · simp only [f_scan_scanner_next, s_, k_, o_, m_, c_, a_, h_, e_, i_, z_, v_, l_, qn, qDz, qu, qw, qx, qk, kl, qDy, qDF, qI, kE, qJ, zG, qN, qa, qc, qd, kL, reduceCtorEq, qH, qE, kp, qz, zw, qt, qf, kN, qh, qDA, qV, hsk, qr, qe, qg, hm1, qbb, yU, y7]
      rfl
  | true =>
    obtain ⟨sm, lo, g1, g2, g3, hsk⟩ := hsk
    have hjr := hjl j rfl
    simp only [List.length_drop] at hjr
    have hm1 : min H.length lo = lo := by omega
    have hm2 : min lo H.length = lo := by omega
    have hH1 : (kO H id (sc s j))[id]? = some (sc s j) := yn hH
    simp only
    by_cases hj : j = s.length
    · have e1 : ((j : Int) = (s.length : Int)) = True := by rw [eq_iff_iff]; simp; omega
      rw [if_pos hj]
      refine NRes.good hid hH g1 g2 g3 ?_ (e := ?_)
      rotate_left
      · simp only [f_scan_scanner_next, s_, k_, o_, m_, c_, a_, h_, e_, i_, z_, v_, l_, qn, qDz, qu, qw, qx, qk, kl, qDy, qDF, qI, kE, qJ, zG, qN, qa, qc, qd, kL, reduceCtorEq, qH, qE, kp, qz, zw, qt, qf, kN, qh, qDA, qV, hsk, qr, qe, qg, hm1, kr, qR, ql, qb, zX, qq, kv, hH1, zk, qDv, qDu, qDw, q9, qZ, qy, zj, qbq, yr, qF, jP, jl, jk, yd, jm, y9, qDU, qM, kT, qi, kf, qDJ, Nat.reduceEqDiff, zK, e1, decide_true, zq, zr, qA, qL, ↓reduceIte, k9, kS, z8, kP, kU, qDE, qDD, Nat.reduceAdd, Nat.reduceLT, yb, qDK, zS, zU, kY, ju, za, kz, kJ, kB, ke, zT, ki, qX, jO, kj, zA, jA, zc, zF, kg, qo, zV, zx, kc, qp, ja, qeR, qcn, qiB, kQ, zZ, qDO, qdZ, kI, Nat.reduceLeDiff, jU, qDQ, qDN, qDT, qQ, qO, qj, zP, qaj, qm, qB, qU, tok]
        rfl
    · have e1 : ((j : Int) = (s.length : Int)) = False := by rw [eq_iff_iff]; simp; omega
      rw [if_neg hj]
      have hjlt : j < s.length := by omega
      have hL : s.drop j = s[j] :: s.drop (j + 1) := qhX hjlt
      have hix : ixV (.d (.s s)) (.d (.i .i64 (j : Int))) = some (.d (.i .u8 ((s[j] : Nat) : Int))) := qoD (by omega) (by simp)
      generalize s[j] = c at hL hix
      have hlc := qkt (c := c) (H := kO H id (sc s j))
      have hdc := qiH (c := c) (H := kO H id (sc s j))
      have hq := qfN (t := [34]) hH1 (by omega)
      rw [hL, qDd] at hq
      have fin : ∀ (r : Sy) (f : Nat), MRes id s j (kO H id (sc s j)) r (qs pg f [.ptr id 0] (kO H id (sc s j))) →
          (∀ sm2 lo2 k t n a', qs pg f [.ptr id 0] (kO H id (sc s j)) = some ⟨false, sm2, .d (tok k 0 0 t n), kO H id (sc s a'), lo2⟩ → r = .ok k t n a' → ∃ e, qgQ H true [.cell 2 ⟨5, true⟩] (exL pg f_scan_scanner_next.body ⟨ya 0 [.ptr id 0], H, H.length⟩) = leave H false (.d (tok k j a' t n)) ⟨e, kO H id (sc s a'), min lo lo2⟩) →
          (∀ sm2 lo2 x a', qs pg f [.ptr id 0] (kO H id (sc s j)) = some ⟨true, sm2, .ifc 157 (.d (.agg [.i .i64 (j : Nat), .i .i64 x])), kO H id (sc s a'), lo2⟩ → r = .bad x → ∃ e, qgQ H true [.cell 2 ⟨5, true⟩] (exL pg f_scan_scanner_next.body ⟨ya 0 [.ptr id 0], H, H.length⟩) = leave H true (.ifc 157 (.d (.agg [.i .i64 (j : Nat), .i .i64 x]))) ⟨e, kO H id (sc s a'), min lo lo2⟩) →
          NRes id s a H (qs0 j r) (qgQ H true [.cell 2 ⟨5, true⟩] (exL pg f_scan_scanner_next.body ⟨ya 0 [.ptr id 0], H, H.length⟩)) := by
        intro r f hm hgood hbad
        cases r with
        | ok k t n a' =>
          obtain ⟨sm2, lo2, q1, q2, q3, hc⟩ := hm
          rw [yS] at hc
          rw [zi] at q2
          obtain ⟨e, he⟩ := hgood sm2 lo2 k t n a' hc rfl
          exact NRes.good hid hH (by omega) (by omega) (by omega) he
        | bad x =>
          obtain ⟨sm2, lo2, a', q1, q2, q3, hc⟩ := hm
          rw [yS] at hc
          rw [zi] at q2
          obtain ⟨e, he⟩ := hbad sm2 lo2 x a' hc rfl
          exact NRes.worse hid hH (by omega) (by omega) (by omega) he
      have hsym : qnY s j = if cLt c = true then qk8 s j else if cDg c = true then qte s j else if c = 34 then qmV s j else qmO s j c := by
        unfold qnY; rw [hL]
      rw [hsym]
      cases hlt : cLt c with
      | true =>
        rw [hlt] at hlc
        rw [if_pos rfl]
        refine fin _ 175 (qr6 hz (by omega) hH1) ?_ ?_
        · intro sm2 lo2 k t n a' hc _
          have hH2 : (kO H id (sc s a'))[id]? = some (sc s a') := yn hH
          simp only [tok] at hc
          simp only [f_scan_scanner_next, s_, k_, o_, m_, c_, a_, h_, e_, i_, z_, v_, l_, qn, qDz, qu, qw, qx, qk, kl, qDy, qDF, qI, kE, qJ, zG, qN, qa, qc, qd, kL, reduceCtorEq, qH, qE, kp, qz, zw, qt, qf, kN, qh, qDA, qV, hsk, qr, qe, qg, hm1, kr, qR, ql, qb, zX, qq, kv, hH1, zk, qDv, qDu, qDw, q9, qZ, qy, zj, qbq, yr, qF, jP, jl, jk, yd, jm, y9, qDU, qM, kT, qi, kf, qDJ, Nat.reduceEqDiff, zK, e1, decide_false, zq, zr, qA, qL, qDt, ↓reduceIte, kZ, hix, qC, hlc, zi, hm2, jW, zn, kG, hc, kB, ke, zT, ki, qDE, qDD, Nat.reduceAdd, qX, kU, z8, jO, kj, zA, jA, zc, zF, kg, qo, zV, zx, kc, qp, hH2, ja, qeR, qcn, qiB, kQ, kP, Nat.reduceLT, zZ, qDO, qDK, qdZ, kI, Nat.reduceLeDiff, jU, qDQ, qDN, qDT, kY, ju, za, kz, kJ, qQ, qO, qj, zP, qaj, qm, qB, qU, tok]
          exact ⟨_, rfl⟩
        · intro sm2 lo2 x a' hc _
          simp only [f_scan_scanner_next, s_, k_, o_, m_, c_, a_, h_, e_, i_, z_, v_, l_, qn, qDz, qu, qw, qx, qk, kl, qDy, qDF, qI, kE, qJ, zG, qN, qa, qc, qd, kL, reduceCtorEq, qH, qE, kp, qz, zw, qt, qf, kN, qh, qDA, qV, hsk, qr, qe, qg, hm1, kr, qR, ql, qb, zX, qq, kv, hH1, zk, qDv, qDu, qDw, q9, qZ, qy, zj, qbq, yr, qF, jP, jl, jk, yd, jm, y9, qDU, qM, kT, qi, kf, qDJ, Nat.reduceEqDiff, zK, e1, decide_false, zq, zr, qA, qL, qDt, ↓reduceIte, kZ, hix, qC, hlc, zi, hm2, jW, zn, kG, hc, qbb, qaO, yU, y7]
          exact ⟨_, rfl⟩
      | false =>
        rw [hlt] at hlc
        rw [if_neg (by simp)]
        cases hdt : cDg c with
        | true =>
          rw [hdt] at hdc
          rw [if_pos rfl]
          refine fin _ 177 (qot hz hL hdt hH1) ?_ ?_
          · intro sm2 lo2 k t n a' hc _
            have hH2 : (kO H id (sc s a'))[id]? = some (sc s a') := yn hH
            simp only [tok] at hc
            simp only [f_scan_scanner_next, s_, k_, o_, m_, c_, a_, h_, e_, i_, z_, v_, l_, qn, qDz, qu, qw, qx, qk, kl, qDy, qDF, qI, kE, qJ, zG, qN, qa, qc, qd, kL, reduceCtorEq, qH, qE, kp, qz, zw, qt, qf, kN, qh, qDA, qV, hsk, qr, qe, qg, hm1, kr, qR, ql, qb, zX, qq, kv, hH1, zk, qDv, qDu, qDw, q9, qZ, qy, zj, qbq, yr, qF, jP, jl, jk, yd, jm, y9, qDU, qM, kT, qi, kf, qDJ, Nat.reduceEqDiff, zK, e1, decide_false, zq, zr, qA, qL, qDt, ↓reduceIte, kZ, hix, qC, hlc, zi, hm2, jW, zn, kG, hdc, hc, kB, ke, zT, ki, qDE, qDD, Nat.reduceAdd, qX, kU, z8, jO, kj, zA, jA, zc, zF, kg, qo, zV, zx, kc, qp, hH2, ja, qeR, qcn, qiB, kQ, kP, Nat.reduceLT, zZ, qDO, qDK, qdZ, kI, Nat.reduceLeDiff, jU, qDQ, qDN, qDT, kY, ju, za, kz, kJ, qQ, qO, qj, zP, qaj, qm, qB, qU, tok]
            exact ⟨_, rfl⟩
          · intro sm2 lo2 x a' hc _
            simp only [f_scan_scanner_next, s_, k_, o_, m_, c_, a_, h_, e_, i_, z_, v_, l_, qn, qDz, qu, qw, qx, qk, kl, qDy, qDF, qI, kE, qJ, zG, qN, qa, qc, qd, kL, reduceCtorEq, qH, qE, kp, qz, zw, qt, qf, kN, qh, qDA, qV, hsk, qr, qe, qg, hm1, kr, qR, ql, qb, zX, qq, kv, hH1, zk, qDv, qDu, qDw, q9, qZ, qy, zj, qbq, yr, qF, jP, jl, jk, yd, jm, y9, qDU, qM, kT, qi, kf, qDJ, Nat.reduceEqDiff, zK, e1, decide_false, zq, zr, qA, qL, qDt, ↓reduceIte, kZ, hix, qC, hlc, zi, hm2, jW, zn, kG, hdc, hc, qbb, qaO, yU, y7]
            exact ⟨_, rfl⟩
        | false =>
          rw [hdt] at hdc
          rw [if_neg (by simp)]
          by_cases h34 : c = 34
          · rw [if_pos h34]
            rw [decide_eq_true h34] at hq
            refine fin _ 179 (qsT hz (by omega) hH1) ?_ ?_
            · intro sm2 lo2 k t n a' hc _
              have hH2 : (kO H id (sc s a'))[id]? = some (sc s a') := yn hH
              simp only [tok] at hc
              simp only [f_scan_scanner_next, s_, k_, o_, m_, c_, a_, h_, e_, i_, z_, v_, l_, qn, qDz, qu, qw, qx, qk, kl, qDy, qDF, qI, kE, qJ, zG, qN, qa, qc, qd, kL, reduceCtorEq, qH, qE, kp, qz, zw, qt, qf, kN, qh, qDA, qV, hsk, qr, qe, qg, hm1, kr, qR, ql, qb, zX, qq, kv, hH1, zk, qDv, qDu, qDw, q9, qZ, qy, zj, qbq, yr, qF, jP, jl, jk, yd, jm, y9, qDU, qM, kT, qi, kf, qDJ, Nat.reduceEqDiff, zK, e1, decide_false, zq, zr, qA, qL, qDt, ↓reduceIte, kZ, hix, qC, hlc, zi, hm2, jW, zn, kG, hdc, kS, hq, qG, hc, kB, ke, zT, ki, qDE, qDD, Nat.reduceAdd, qX, kU, z8, jO, kj, zA, jA, zc, zF, kg, qo, zV, zx, kc, qp, hH2, ja, qeR, qcn, qiB, kQ, kP, Nat.reduceLT, zZ, qDO, qDK, qdZ, kI, Nat.reduceLeDiff, jU, qDQ, qDN, qDT, kY, ju, za, kz, kJ, qQ, qO, qj, zP, qaj, qm, qB, qU, tok]
              exact ⟨_, rfl⟩
            · intro sm2 lo2 x a' hc _
              simp only [f_scan_scanner_next, s_, k_, o_, m_, c_, a_, h_, e_, i_, z_, v_, l_, qn, qDz, qu, qw, qx, qk, kl, qDy, qDF, qI, kE, qJ, zG, qN, qa, qc, qd, kL, reduceCtorEq, qH, qE, kp, qz, zw, qt, qf, kN, qh, qDA, qV, hsk, qr, qe, qg, hm1, kr, qR, ql, qb, zX, qq, kv, hH1, zk, qDv, qDu, qDw, q9, qZ, qy, zj, qbq, yr, qF, jP, jl, jk, yd, jm, y9, qDU, qM, kT, qi, kf, qDJ, Nat.reduceEqDiff, zK, e1, decide_false, zq, zr, qA, qL, qDt, ↓reduceIte, kZ, hix, qC, hlc, zi, hm2, jW, zn, kG, hdc, kS, hq, qG, hc, qbb, qaO, yU, y7]
              exact ⟨_, rfl⟩
          · rw [if_neg h34]
            rw [decide_eq_false h34] at hq
            refine fin _ 180 (qta hs hz hL hH1) ?_ ?_
            · intro sm2 lo2 k t n a' hc _
              have hH2 : (kO H id (sc s a'))[id]? = some (sc s a') := yn hH
              simp only [tok] at hc
              simp only [f_scan_scanner_next, s_, k_, o_, m_, c_, a_, h_, e_, i_, z_, v_, l_, qn, qDz, qu, qw, qx, qk, kl, qDy, qDF, qI, kE, qJ, zG, qN, qa, qc, qd, kL, reduceCtorEq, qH, qE, kp, qz, zw, qt, qf, kN, qh, qDA, qV, hsk, qr, qe, qg, hm1, kr, qR, ql, qb, zX, qq, kv, hH1, zk, qDv, qDu, qDw, q9, qZ, qy, zj, qbq, yr, qF, jP, jl, jk, yd, jm, y9, qDU, qM, kT, qi, kf, qDJ, Nat.reduceEqDiff, zK, e1, decide_false, zq, zr, qA, qL, qDt, ↓reduceIte, kZ, hix, qC, hlc, zi, hm2, jW, zn, kG, hdc, kS, hq, qG, hc, kB, ke, zT, ki, qDE, qDD, Nat.reduceAdd, qX, kU, z8, jO, kj, zA, jA, zc, zF, kg, qo, zV, zx, kc, qp, hH2, ja, qeR, qcn, qiB, kQ, kP, Nat.reduceLT, zZ, qDO, qDK, qdZ, kI, Nat.reduceLeDiff, jU, qDQ, qDN, qDT, kY, ju, za, kz, kJ, qQ, qO, qj, zP, qaj, qm, qB, qU, tok]
              exact ⟨_, rfl⟩
            · intro sm2 lo2 x a' hc _
              simp only [f_scan_scanner_next, s_, k_, o_, m_, c_, a_, h_, e_, i_, z_, v_, l_, qn, qDz, qu, qw, qx, qk, kl, qDy, qDF, qI, kE, qJ, zG, qN, qa, qc, qd, kL, reduceCtorEq, qH, qE, kp, qz, zw, qt, qf, kN, qh, qDA, qV, hsk, qr, qe, qg, hm1, kr, qR, ql, qb, zX, qq, kv, hH1, zk, qDv, qDu, qDw, q9, qZ, qy, zj, qbq, yr, qF, jP, jl, jk, yd, jm, y9, qDU, qM, kT, qi, kf, qDJ, Nat.reduceEqDiff, zK, e1, decide_false, zq, zr, qA, qL, qDt, ↓reduceIte, kZ, hix, qC, hlc, zi, hm2, jW, zn, kG, hdc, kS, hq, qG, hc, qbb, qaO, yU, y7]
              exact ⟨_, rfl⟩
end W

set_option linter.unusedSimpArgs false
set_option linter.unusedVariables false
namespace W
open Go (IntKind BinOp UnOp)
set_option maxRecDepth 20000
structure Tk where
  k : Int
  p : Nat
  e : Nat
  t : List Nat
  n : Int
  deriving DecidableEq
def eTk (x : Tk) : D := .agg [.i .i64 x.k, .i .i64 x.p, .i .i64 x.e, .s x.t, .i .i32 x.n]
def qe8 (s : List Nat) : Nat → Nat → List Tk → Sum (Nat × Int) (List Tk)
  | 0, _, _ => .inl (0, 0)
  | f + 1, a, acc => match qhJ s a with
    | .bad p e => .inl (p, e)
    | .ok k p e t n => if k = 0 then .inr (acc ++ [⟨k, p, e, t, n⟩]) else qe8 s f e (acc ++ [⟨k, p, e, t, n⟩])
noncomputable def qs8 (pg : Pg) (fn : Fn) (H : List Obj) (t : Nat) (rest : C) (r : Option (Ex × St)) : Option Cr :=
  match r with
  | some (.nrm, st) => deferred pg (exL pg) fn H t rest st
  | some (.ret, st) => qa0 fn H st
  | some (.pan v, st) => leave H true v st
  | _ => none
theorem qmR {pg : Pg} {f : Nat} {fn : Fn} {vs : List V} {H : List Obj} {t : Nat} {rest : C} (hf : pg.fn f = some fn) (hn : fn.np = vs.length) (hd : fn.dfr = some (t, rest)) (hr : fn.rcv = none) :
    qs pg f vs H = qs8 pg fn H t rest (exL pg fn.body { env := ya 0 vs, H, lo := H.length }) := by
  rw [qd4]
  simp only [js, hf, hn, hd, hr, and_self, if_true, qs8]
  all_goals rfl
theorem que {pg : Pg} {fn : Fn} {H : List Obj} {t : Nat} {rest : C} {st : St} : qs8 pg fn H t rest (some (.nrm, st)) = deferred pg (exL pg) fn H t rest st := rfl
theorem qhP {fn : Fn} {H : List Obj} {st : St} : qa0 fn H st = qgQ H fn.own fn.res (some (.ret, st)) := rfl
theorem qv5 {pg : Pg} {fn : Fn} {H : List Obj} {t : Nat} {rest : C} {st : St} : qs8 pg fn H t rest (some (.ret, st)) = qa0 fn H st := rfl
theorem qwz {i0 i1 : Nat} {H : List Obj} {lo : Nat} : ∃ e, exL pg f_scan_All_1.body ⟨(5, .d .ni) :: ya 0 [.ptr i0 0, .ptr i1 0], H, lo⟩ = some (.nrm, ⟨e, H, lo⟩) := by
  simp only [f_scan_All_1, k_, m_, o_, r_, z_, s_, u_, l_, qn, qDz, Nat.reduceAdd, qu, qw, qx, qk, qd, kL, qE, qy, qz, qI, qZ, qa, qc, qi, kf, kA, qDC, kS, qiE, ql, qA, qL, qDt, ↓reduceIte, qP]
  exact ⟨_, rfl⟩
theorem qv4 {i0 i1 : Nat} {H : List Obj} {lo : Nat} {p e : Int} {v : V} (h0 : H[i0]? = some (.cells [v])) (h1 : H[i1]? = some (.cells [.d .nil])) (hne : (i1 = i0) = False) : ∃ en lo', min lo (min i0 i1) ≤ lo' ∧
    exL pg f_scan_All_1.body ⟨(5, .ifc 157 (.d (.agg [.i .i64 p, .i .i64 e]))) :: ya 0 [.ptr i0 0, .ptr i1 0], H, lo⟩ = some (.nrm, ⟨en, kO (kO H i0 (.cells [.d .nil])) i1 (.cells [.osl [.agg [.i .i64 p, .i .i64 e]]]), lo'⟩) := by
  have h2 : (kO H i0 (.cells [.d .nil]))[i1]? = some (.cells [.d .nil]) := by rw [qcC hne]; exact h1
  simp only [f_scan_All_1, k_, m_, o_, r_, z_, s_, u_, l_, qn, qDz, Nat.reduceAdd, qu, qw, qx, qk, qd, kL, qE, qaT, qz, qI, qcN, qa, qc, qi, kf, kA, qDC, kS, qf6, ql, qZ, qA, qy, qL, ↓reduceIte, Nat.reduceEqDiff, qH, qd7, qf8, kr, qY, jg, qcQ, qcV, qcI, kl, qDy, qDF, kE, qJ, zj, qbq, qic, zG, qN, kB, ke, zT, ki, qDE, qDD, qX, kU, z8, kj, qDA, zA, Nat.reduceLT, ql6, qDK, qDO, zc, zF, kK, zW, qDL, qDw, qDt, qP, jP, jl, qb, ja, qDU, jk, qeR, qcn, qiB, jm, qq, kQ, kI, Nat.reduceLeDiff, jU, qDQ, qDN, qDT, q9, kY, ju, za, kz, kJ, y9, kF, jE, List.reduceReplicate, jp, jN, yl, qcU, jT, ym, yT, yj, qkQ, reduceCtorEq, kp, qG, yk, h0, yD, kP, zE, zZ, zB, zq, qdZ, jW, qgn, kG, h2, qkc, qlB, zr]
  refine ⟨_, _, ?_, rfl⟩
  omega
theorem qkJ {x y a : Nat} {s : List Nat} (h : pre [x, y] (s.drop a) = true) : a + 2 ≤ s.length := by
  simp only [pre, decide_eq_true_eq] at h
  have := congrArg List.length h
  simp only [List.length_take, List.length_drop, qDE, qDD] at this
  omega
theorem qvN {s : List Nat} {j : Nat} {k : Int} {t : List Nat} {n : Int} {a' : Nat} (h : qnY s j = .ok k t n a') : j < a' ∧ a' ≤ s.length ∧ k ≠ 0 := by
  unfold qnY at h
  split at h
  · cases h
  · rename_i c l hL
    obtain ⟨hget, hdr, hlt⟩ := qlA hL
    split at h
    · rename_i hc
      have hle := qgR cNm (s.drop j)
      have hk : 0 < run cNm (s.drop j) := by rw [hL]; simp [run, cNm, hc]
      simp only [List.length_drop] at hle
      unfold qk8 at h
      split at h
      · cases h
      · split at h
        · cases h; exact ⟨by omega, by omega, by decide⟩
        · cases h; exact ⟨by omega, by omega, by decide⟩
    · split at h
      · rename_i hc
        have hle := qgR cHx (s.drop j)
        have hk : 0 < run cHx (s.drop j) := by rw [hL]; simp [run, cHx, hc]
        simp only [List.length_drop] at hle
        unfold qte at h
        split at h
        · rename_i hp
          have := qh5 hp
          unfold qky at h
          split at h
          · cases h
          · cases h; exact ⟨by omega, by omega, by decide⟩
        · split at h
          · rename_i hp
            have := qh5 hp
            unfold qky at h
            split at h
            · cases h
            · cases h; exact ⟨by omega, by omega, by decide⟩
          · unfold qky at h
            split at h
            · cases h
            · cases h; exact ⟨by omega, by omega, by decide⟩
      · split at h
        · unfold qmV at h
          split at h
          · rename_i hp
            have := qh5 hp
            split at h
            · cases h
            · cases h; exact ⟨by omega, by omega, by decide⟩
          · cases h
        · unfold qmO at h
          split at h
          · rename_i hp
            have := qkJ hp
            cases h; exact ⟨by omega, by omega, by decide⟩
          · split at h
            · rename_i hp
              have := qkJ hp
              cases h; exact ⟨by omega, by omega, by decide⟩
            · split at h
              · rename_i hp
                have := qkJ hp
                cases h; exact ⟨by omega, by omega, by decide⟩
              · split at h
                · rename_i hp
                  have := qkJ hp
                  cases h; exact ⟨by omega, by omega, by decide⟩
                · split at h
                  · cases h
                  · cases h; exact ⟨by omega, by omega, by decide⟩
theorem qsu {s : List Nat} {a : Nat} (ha : a ≤ s.length) {k : Int} {p e : Nat} {t : List Nat} {n : Int} (h : qhJ s a = .ok k p e t n) : a ≤ p ∧ p ≤ e ∧ e ≤ s.length ∧ (k ≠ 0 → a < e) := by
  unfold qhJ at h
  split at h
  · cases h
  · rename_i j hj
    have hjl := qyc (s.drop a).length 0 a a (s.drop a) j (qDx _) hj
    simp only [List.length_drop] at hjl
    split at h
    · cases h
      exact ⟨by omega, by omega, by omega, fun h => absurd rfl h⟩
    · generalize hr : qnY s j = r at h
      cases r with
      | ok k' t' n' a' =>
        have := qvN hr
        simp only [qs0] at h
        cases h
        exact ⟨by omega, by omega, by omega, fun _ => by omega⟩
      | bad e => simp only [qs0] at h; cases h
def ARes (b : Nat) (r : Sum (Nat × Int) (List Tk)) (X : Option (Ex × St)) : Prop :=
  match r with
  | .inr L' => ∃ e H' lo', b ≤ lo' ∧ get 2 e = .ptr b 0 ∧ get 3 e = .ptr (b + 1) 0 ∧ H'[b]? = some (.cells [.d (slD eTk L')]) ∧ H'[b + 1]? = some (.cells [.d .nil]) ∧ X = some (.ret, ⟨e, H', lo'⟩)
  | .inl (p, x) => ∃ e H' lo' v, b ≤ lo' ∧ get 2 e = .ptr b 0 ∧ get 3 e = .ptr (b + 1) 0 ∧ H'[b]? = some (.cells [v]) ∧ H'[b + 1]? = some (.cells [.d .nil]) ∧ X = some (.pan (.ifc 157 (.d (.agg [.i .i64 (p : Nat), .i .i64 x]))), ⟨e, H', lo'⟩)
theorem ARes.good {b : Nat} {L' : List Tk} {e : Env} {H' : List Obj} {lo' : Nat} {X : Option (Ex × St)} (h5 : X = some (.ret, ⟨e, H', lo'⟩)) (h1 : b ≤ lo') (h2 : get 2 e = .ptr b 0) (h3 : get 3 e = .ptr (b + 1) 0) (h4 : H'[b]? = some (.cells [.d (slD eTk L')])) (h6 : H'[b + 1]? = some (.cells [.d .nil])) : ARes b (.inr L') X :=
  ⟨e, H', lo', h1, h2, h3, h4, h6, h5⟩
theorem ARes.bad {b p : Nat} {x : Int} {e : Env} {H' : List Obj} {lo' : Nat} {v : V} {X : Option (Ex × St)} (h5 : X = some (.pan (.ifc 157 (.d (.agg [.i .i64 (p : Nat), .i .i64 x]))), ⟨e, H', lo'⟩)) (h1 : b ≤ lo') (h2 : get 2 e = .ptr b 0) (h3 : get 3 e = .ptr (b + 1) 0) (h4 : H'[b]? = some (.cells [v])) (h6 : H'[b + 1]? = some (.cells [.d .nil])) : ARes b (.inl (p, x)) X :=
  ⟨e, H', lo', v, h1, h2, h3, h4, h6, h5⟩
theorem qwm {s : List Nat} (hs : ∀ c ∈ s, c < 256) (hz : s.length ≤ 1000000000000) {b : Nat} :
    ∀ (f a : Nat) (L : List Tk) (H : List Obj) (lo : Nat), s.length - a < f → a ≤ s.length → L.length ≤ a → b ≤ lo → lo ≤ H.length → H[b]? = some (.cells [slV eTk L]) → H[b + 1]? = some (.cells [.d .nil]) → H[b + 2]? = some (sc s a) →
      ARes b (qe8 s f a L) (qb3 0 [2, 3] (qeS pg (.ptr b 0) (.ptr (b + 1) 0) (.ptr (b + 2) 0) H lo)) := by
  intro f
  induction f with
  | zero => intro a L H lo h; omega
  | succ f ih =>
    intro a L H lo hf ha hLa hlo hloH h0 h1 h2
    have hn := qr7 hs hz ha h2
    rw [qjR, qe8]
    have d1 : (b = b + 2) = False := by simp
    have d2 : (b + 1 = b + 2) = False := by simp
    generalize hr : qhJ s a = r at hn
    cases r with
    | bad p x =>
      obtain ⟨sm, lo1, a', g1, g2, g3, hc⟩ := hn
      have e0 : (kO H (b + 2) (sc s a'))[b]? = some (.cells [slV eTk L]) := by rw [qcC d1]; exact h0
      have e1 : (kO H (b + 2) (sc s a'))[b + 1]? = some (.cells [.d .nil]) := by rw [qcC d2]; exact h1
      refine ARes.bad (e := ?e) (lo' := min lo lo1) ?h5 (by omega) ?g2 ?g3 e0 e1
      case h5 =>
        simp only [qc5, k_, m_, c_, o_, z_, s_, l_, a_, d_, g_, h_, zV, qF, qw, qx, qk, qd, kL, Nat.reduceEqDiff, qH, qE, kp, qz, qI, zw, qt, qDy, qDF, qf, kN, qh, qDA, qV, hc, qr, qe, qg, qbb, yU, qaO]
        rfl
      case g2 => rfl
      case g3 => rfl
    | ok k p e t n =>
      obtain ⟨sm, lo1, g1, g2, g3, hc⟩ := hn
      have hpr := qsu ha hr
      have e0 : (kO H (b + 2) (sc s e))[b]? = some (.cells [slV eTk L]) := by rw [qcC d1]; exact h0
      have e1 : (kO H (b + 2) (sc s e))[b + 1]? = some (.cells [.d .nil]) := by rw [qcC d2]; exact h1
      have e2 : (kO H (b + 2) (sc s e))[b + 2]? = some (sc s e) := yn h2
      have d3 : (b + 1 = b) = False := by simp
      have d4 : (b + 2 = b) = False := by simp
      have e3 : (kO (kO H (b + 2) (sc s e)) b (.cells [.undef]))[b]? = some (.cells [.undef]) := yn e0
      have happ : qbm 5 48 (slV eTk L) (.d (.sl [.agg [.i .i64 k, .i .i64 p, .i .i64 e, .s t, .i .i32 n]])) = some (slV eTk (L ++ [⟨k, p, e, t, n⟩])) :=
        qwa (x := (⟨k, p, e, t, n⟩ : Tk)) (fun _ => rfl) (qt1 (by omega) (by omega))
      simp only [tok] at hc
      have e4 : ∀ o, (kO (kO H (b + 2) (sc s e)) b o)[b]? = some o := fun o => yn e0
      have e5 : ∀ o, (kO (kO H (b + 2) (sc s e)) b o)[b + 1]? = some (.cells [.d .nil]) := fun o => by rw [qcC d3]; exact e1
      have e6 : ∀ o, (kO (kO H (b + 2) (sc s e)) b o)[b + 2]? = some (sc s e) := fun o => by rw [qcC d4]; exact e2
      by_cases hk : k = 0
      · subst hk
        have d5 : (b = b + 1) = False := by simp
        simp only [if_true]
        have key : ∃ e', qb3 0 [2, 3] (qcp pg (exL pg qc5 ⟨[(2, zz (.ptr b 0)), (3, zz (.ptr (b + 1) 0)), (4, zz (.ptr (b + 2) 0))], H, lo⟩) qc4) = some (.ret, ⟨e', kO (kO (kO H (b + 2) (sc s e)) b (.cells [.d (slD eTk (L ++ [⟨0, p, e, t, n⟩]))])) (b + 1) (.cells [.d .nil]), min (min (min (min (min lo lo1) b) b) b) (b + 1)⟩) ∧ get 2 e' = .ptr b 0 ∧ get 3 e' = .ptr (b + 1) 0 := by
          simp only [qc5, k_, m_, c_, o_, z_, s_, l_, a_, d_, g_, h_, zV, qF, qw, qx, qk, qd, kL, Nat.reduceEqDiff, qH, qE, kp, qz, qI, zw, qt, qDy, qDF, qf, kN, qh, qDA, qV, hc, qr, qe, qg, qZ, kl, kE, qJ, zj, zG, qN, kB, jW, zn, ke, kG, zT, ki, qDE, qDD, qDz, Nat.reduceAdd, qX, kU, z8, jO, kj, zA, jA, zc, zF, qa, qc, qgU, e0, qDu, qDK, qg4, qq, kI, Nat.reduceLeDiff, jU, qDQ, qDN, qDT, q9, kY, ju, za, kz, kJ, ql, kF, jE, List.reduceReplicate, qy, Nat.reduceLT, jp, jN, yl, qcU, jT, ym, yT, yj, yY, qfh, qh1, yh, happ, qh7, yk, e3, qjE, qla, zE, zZ, zB, yS, qb, ja, qDU, jB, kQ, jC, qDw, qi, kf, kA, qDC, kS, zK, decide_true, qA, qL, ↓reduceIte, kv, e4, zk, qmU, qrH, kP, qG, e5, yD, qQ, ze, kC]
          exact ⟨_, rfl, rfl, rfl⟩
        obtain ⟨e', k1, k2, k3⟩ := key
        exact ARes.good k1 (by omega) k2 k3 (by rw [qcC d5]; exact e4 _) (yn (e5 _))
      · have q1 : (k = 0) = False := eq_false hk
        simp only [hk, if_false]
        have ih' := ih e (L ++ [⟨k, p, e, t, n⟩]) (kO (kO H (b + 2) (sc s e)) b (.cells [slV eTk (L ++ [⟨k, p, e, t, n⟩])])) (min (min (min lo lo1) b) b) (by omega) (by omega) (by simp only [List.length_append, qDE, qDD]; omega) (by omega) (by simp only [zi]; omega) (e4 _) (e5 _) (e6 _)
        simp only [qc5, k_, m_, c_, o_, z_, s_, l_, a_, d_, g_, h_, zV, qF, qw, qx, qk, qd, kL, Nat.reduceEqDiff, qH, qE, kp, qz, qI, zw, qt, qDy, qDF, qf, kN, qh, qDA, qV, hc, qr, qe, qg, qZ, kl, kE, qJ, zj, zG, qN, kB, jW, zn, ke, kG, zT, ki, qDE, qDD, qDz, Nat.reduceAdd, qX, kU, z8, jO, kj, zA, jA, zc, zF, qa, qc, qgU, e0, qDu, qDK, qg4, qq, kI, Nat.reduceLeDiff, jU, qDQ, qDN, qDT, q9, kY, ju, za, kz, kJ, ql, kF, jE, List.reduceReplicate, qy, Nat.reduceLT, jp, jN, yl, qcU, jT, ym, yT, yj, yY, qfh, qh1, yh, happ, qh7, yk, e3, qjE, qla, zE, zZ, zB, yS, qb, ja, qDU, jB, kQ, jC, qDw, qi, kf, kA, qDC, kS, zK, q1, decide_false, qA, qL, qDt, ↓reduceIte, qP, kg, qo, qp, qgy]
        exact ih'
theorem qnr {pg : Pg} {fn : Fn} {H : List Obj} {t hd : Nat} {first cap : List V} {rest : C} {st st' : St} (h : get t st.env = .fn hd first cap) (hk : V.ok.oks (first ++ cap) = true) (hx : exL pg rest st = some (.ret, st')) : deferred pg (exL pg) fn H t rest st = handle pg (exL pg) fn H hd (first ++ cap) (.d .ni) st' := by
  simp only [deferred, h, hk, hx, cond_true]
theorem qna {pg : Pg} {fn : Fn} {H : List Obj} {t hd : Nat} {first cap : List V} {rest : C} {st st' : St} {v : V} (h : get t st.env = .fn hd first cap) (hk : V.ok.oks (first ++ cap) = true) (hx : exL pg rest st = some (.pan v, st')) (hv : qmz v = true) : deferred pg (exL pg) fn H t rest st = handle pg (exL pg) fn H hd (first ++ cap) v st' := by
  simp only [deferred, h, hk, hx, hv, cond_true]
theorem qlf {pg : Pg} {fn hf : Fn} {H : List Obj} {hd d : Nat} {vs : List V} {v : V} {st st' : St} (h1 : pg.fn hd = some hf) (h2 : hf.rcv = some d) (h3 : (qDG hf.np vs.length && hf.res.isEmpty) = true) (hx : exL pg hf.body ⟨(d, v) :: ya 0 vs, st.H, st.lo⟩ = some (.nrm, st')) :
    handle pg (exL pg) fn H hd vs v st = qa0 fn H ⟨st.env, st'.H, st'.lo⟩ := by
  simp only [handle, h1, h2, h3, hx, cond_true]
theorem qCC {s : List Nat} (hs : ∀ c ∈ s, c < 256) (hz : s.length ≤ 1000000000000) {H : List Obj} {e : Env} (g0 : get 0 e = .d (.s s)) (g2 : get 2 e = .ptr H.length 0) (g3 : get 3 e = .ptr (H.length + 1) 0) :
    ARes H.length (qe8 s (s.length + 1) 0 []) (exL pg qg3 ⟨e, H ++ [.cells [.d .nil]] ++ [.cells [.d .nil]], H.length⟩) := by
  have hl := qwm hs hz (b := H.length) (s.length + 1) 0 [] (H ++ [.cells [.d .nil]] ++ [.cells [.d .nil]] ++ [sc s 0]) H.length (by omega) (by omega) (by simp) (qDx _) (by simp) (by simp [slV]) (by simp) (by simp)
  have hz0 : ((0 : Nat) : Int) = 0 := rfl
  have hs0 : slV eTk [] = .d .nil := rfl
  simp only [qg3, k_, m_, o_, qw, qP, qc, qx, qk, qd, kL, g0, qy, qz, qI, qZ, k9, qDy, qDF, qE, jO, kP, kU, qDE, qDD, qDz, Nat.reduceAdd, Nat.reduceLT, yb, qDK, zS, zU, kY, ju, za, kz, kJ, ql, zy, ki, qX, z8, kj, qDA, qgg, List.length_append, zw, kp, qa, qF, qgy, Nat.reduceEqDiff, qH, g2, zV, g3]
  exact hl
theorem qvJ {s : List Nat} (hs : ∀ c ∈ s, c < 256) (hz : s.length ≤ 1000000000000) {H : List Obj} :
    ∃ lo, H.length ≤ lo ∧ qs pg 33 [.d (.s s)] H = some ⟨false, true, (if 20000 < s.length then .tup [.d .nil, .d (.sl [.agg [.i .i64 20000, .i .i64 34]])] else match qe8 s (s.length + 1) 0 [] with
      | .inr L => .tup [.d (slD eTk L), .d .nil]
      | .inl (p, x) => .tup [.d .nil, .d (.sl [.agg [.i .i64 (p : Nat), .i .i64 x]])]), H, lo⟩ := by
  rw [qmR (fn := f_scan_All) rfl rfl rfl rfl]
  have a0 : (H ++ [Obj.cells [.d .nil]])[H.length]? = some (.cells [.d .nil]) := by simp
  have a1 : ((H ++ [Obj.cells [.d .nil]]) ++ [Obj.cells [.d .nil]])[H.length]? = some (.cells [.d .nil]) := by simp
  have a2 : ((H ++ [Obj.cells [.d .nil]]) ++ [Obj.cells [.d .nil]])[H.length + 1]? = some (.cells [.d .nil]) := by simp
  have d3 : (H.length + 1 = H.length) = False := by simp
  have d5 : (H.length = H.length + 1) = False := by simp
  have b1 : ∀ o, (kO ((H ++ [Obj.cells [.d .nil]]) ++ [Obj.cells [.d .nil]]) H.length o)[H.length + 1]? = some (.cells [.d .nil]) := fun o => by rw [qcC d3]; exact a2
  have b2 : ∀ o o', (kO (kO ((H ++ [Obj.cells [.d .nil]]) ++ [Obj.cells [.d .nil]]) H.length o) (H.length + 1) o')[H.length]? = some o := fun o o' => by rw [qcC d5]; exact yn a1
  have b3 : ∀ o o', (kO (kO ((H ++ [Obj.cells [.d .nil]]) ++ [Obj.cells [.d .nil]]) H.length o) (H.length + 1) o')[H.length + 1]? = some o' := fun o o' => yn (b1 o)
  by_cases h1 : 20000 < s.length
  · have e1 : ((20000 : Int) < (s.length : Int)) = True := by rw [eq_iff_iff]; simp; omega
    rw [if_pos h1]
    simp only [f_scan_All, l_, k_, o_, m_, g_, i_, z_, qn, qDz, qu, qw, qx, qk, qeX, qDy, qDF, qI, zw, List.length_append, qDE, qDD, qa, qc, qd, kL, reduceCtorEq, qH, qE, qy, qz, qZ, qM, kT, ql, qi, kf, kA, qDC, kS, kW, e1, decide_true, qA, qL, ↓reduceIte, k9, z8, kP, kU, Nat.reduceAdd, Nat.reduceLT, yb, qDK, qDO, zS, zU, kY, ju, za, kz, kJ, kF, jE, List.reduceReplicate, jp, jN, yl, qcU, jT, ym, qDA, yT, yj, yY, kB, Nat.reduceEqDiff, kp, qG, yk, a1, yD, qX, kj, zE, zZ, zB, Nat.min_self, zF, jW, qgn, kG, b1, qkc, qlB, qQ, kC, qv5, qhP, qO, qj, zP, qgs, kv, b2, zk, qDu, qDw, q9, b3, qjV, qm, qB, qeW]
    refine ⟨_, ?_, qat rfl (qDS _) (by simp only; omega)⟩
    simp only; omega
  · have e1 : ((20000 : Int) < (s.length : Int)) = False := by rw [eq_iff_iff]; simp; omega
    rw [if_neg h1]
    have hb : ∃ e, get 0 e = .d (.s s) ∧ get 2 e = .ptr H.length 0 ∧ get 3 e = .ptr (H.length + 1) 0 ∧ get 11 e = .fn 82 [] [.ptr H.length 0, .ptr (H.length + 1) 0] ∧ exL pg f_scan_All.body ⟨ya 0 [.d (.s s)], H, H.length⟩ = some (.nrm, ⟨e, H ++ [.cells [.d .nil]] ++ [.cells [.d .nil]], H.length⟩) := by
      simp only [f_scan_All, l_, k_, o_, m_, g_, i_, z_, qn, qDz, qu, qw, qx, qk, qeX, qDy, qDF, qI, zw, List.length_append, qDE, qDD, qa, qc, qd, kL, reduceCtorEq, qH, qE, qy, qz, qZ, qM, kT, ql, qi, kf, kA, qDC, kS, kW, e1, decide_false, qA, qL, qDt, ↓reduceIte, qP, qeC, Nat.reduceEqDiff, kp, yC, qc1, qhz, qDA, qgv, qeG]
      exact ⟨_, rfl, rfl, rfl, rfl, rfl⟩
    obtain ⟨e, g0, g2, g3, g11, hb⟩ := hb
    rw [hb, que]
    have hD := qCC hs hz g0 g2 g3
    generalize qe8 s (s.length + 1) 0 [] = r at hD
    cases r with
    | inr L =>
      obtain ⟨e', H', lo', k1, k2, k3, k4, k5, k6⟩ := hD
      rw [qnr g11 rfl k6]
      obtain ⟨e2, hh⟩ := qwz (i0 := H.length) (i1 := H.length + 1) (H := H') (lo := lo')
      rw [qlf (hf := f_scan_All_1) (d := 5) rfl rfl rfl hh, qhP]
      have hr : f_scan_All.res = [.cell 2 ⟨1, false⟩, .cell 3 ⟨1, false⟩] := rfl
      have ho : f_scan_All.own = false := rfl
      simp only [ho, hr, qO, qj, zP, k2, qgs, kv, k4, zk, qDu, qDw, q9, k3, k5, qm, qB, qeW]
      exact ⟨_, k1, qat rfl (qDS _) k1⟩
    | inl q =>
      obtain ⟨p, x⟩ := q
      obtain ⟨e', H', lo', v, k1, k2, k3, k4, k5, k6⟩ := hD
      rw [qna g11 rfl k6 rfl]
      obtain ⟨e2, lo2, hlo, hh⟩ := qv4 (p := (p : Int)) (e := x) (lo := lo') k4 k5 d3
      rw [qlf (hf := f_scan_All_1) (d := 5) rfl rfl rfl hh, qhP]
      have hr : f_scan_All.res = [.cell 2 ⟨1, false⟩, .cell 3 ⟨1, false⟩] := rfl
      have ho : f_scan_All.own = false := rfl
      have q1 : (kO H' H.length (.cells [.d .nil]))[H.length + 1]? = some (.cells [.d .nil]) := by rw [qcC d3]; exact k5
      have q2 : ∀ o', (kO (kO H' H.length (.cells [.d .nil])) (H.length + 1) o')[H.length]? = some (.cells [.d .nil]) := fun o' => by rw [qcC d5]; exact yn k4
      have q3 : ∀ o', (kO (kO H' H.length (.cells [.d .nil])) (H.length + 1) o')[H.length + 1]? = some o' := fun o' => yn q1
      simp only [ho, hr, qO, qj, zP, k2, qgs, kv, q2, zk, qDu, qDw, q9, k3, q3, qjV, qm, qB, qeW]
      refine ⟨_, ?_, qat rfl (qDS _) (by simp only; omega)⟩
      simp only; omega
end W

