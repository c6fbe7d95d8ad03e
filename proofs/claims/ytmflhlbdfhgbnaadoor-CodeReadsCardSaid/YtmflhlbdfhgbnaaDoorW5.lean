/-
  CodeReads: any bytes are the list that the document reads from them, or are refused: part 5 of what the proof rests on (a value semantics for a part of the language, sound against the model; the walks).
-/
import Derived.WalkKit
import Derived.ProofKit
import Derived.OpenShut
import Derived.Carry
import Derived.ChangeSame
import Derived.RowKit
import Derived.Test.YtmflhlbdfhgbnaaDoorW4
/-
  What an operation looks at, and what it changes.
-/
set_option linter.unusedSimpArgs false
set_option linter.unusedVariables false
open Bool renaming false_eq_true → qvA, and_eq_true → qvB, cond_eq_ite → qvD, or_true → qvK, and_self → qvL, not_true → qvN, or_self → qvR
open Nat renaming le_refl → qvC, zero_add → qvF, beq → qvG, eq_of_beq_eq_true → qvJ
open Option renaming bind_eq_some_iff → qvE, map_some → qvH, bind_eq_bind → qvI, pure_def → qvO
open List renaming map_cons → qvM, length_cons → qvP, length_nil → qvQ, getElem?_cons_zero → qvS, map_nil → qvT
namespace W
open Go (IntKind BinOp UnOp)
structure Fr (k : OpK) (st st2 : St) (r r2 : Or) : Prop where
  pan : r2.pan = r.pan
  same : r2.same = r.same
  v : r2.v = r.v
  inn : ∀ s, s ∈ k.boxW → get s r2.st.env = get s r.st.env
  out1 : ∀ s, s ∉ k.boxW → get s r.st.env = get s st.env
  out2 : ∀ s, s ∉ k.boxW → get s r2.st.env = get s st2.env
  H1 : k.free = true → r.same = true → r.st.H = st.H ∧ r2.st.H = st2.H
  H2 : st2.H = st.H → r2.st.H = r.st.H
  lp : ∀ n, yY n r.st.env = yY n st.env
  lp2 : ∀ n, yY n r2.st.env = yY n st2.env
def qvm (k : OpK) (e e2 : Env) : Prop := ∀ s, s ∈ kZ k.rds ∨ s ∈ k.boxR → get s e2 = get s e
theorem qfk {e e2 : Env} {x : O} (h : ∀ s, s ∈ kZ [x] → get s e2 = get s e) : rd e2 x = rd e x := by
  cases x with
  | t n => simp only [rd]; rw [h n (by simp [kZ])]
  | mv n => simp only [rd]; rw [h n (by simp [kZ])]
  | c x => rfl
  | f i => rfl
  | g i x => rfl
theorem yp (a b : List O) : kZ (a ++ b) = kZ a ++ kZ b := by
  induction a with
  | nil => rfl
  | cons x l ih => cases x <;> simp [kZ, ih]
theorem jk (x : O) (l : List O) : kZ (x :: l) = kZ [x] ++ kZ l := yp [x] l
theorem qei {e e2 : Env} : ∀ {l : List O}, (∀ s, s ∈ kZ l → get s e2 = get s e) → l.map (rd e2) = l.map (rd e)
  | [], _ => rfl
  | x :: l, h => by
    rw [jk] at h
    simp only [qvM]
    rw [qfk (fun s hs => h s (by simp [hs])), qei (fun s hs => h s (by simp [hs]))]
theorem yZ {e e2 : Env} {x : Option O} (h : ∀ s, s ∈ kZ x.toList → get s e2 = get s e) : zw e2 x = zw e x := by
  cases x with
  | none => rfl
  | some x => simp only [zw]; rw [qfk (x := x) (by simpa using h)]
theorem qgg (n : Nat) (x : O) (e : Env) : yY n (spent x e) = yY n e := by cases x <;> rfl
theorem qa7 (n : Nat) : ∀ (l : List O) (e : Env), yY n (spentAll l e) = yY n e
  | [], _ => rfl
  | x :: l, e => by simp only [spentAll]; rw [qa7 n l, qgg]
theorem qc0 (x : O) (e : Env) (k : Nat) : get k (spent x e) = if k ∈ ji [x] then .undef else get k e := zp [x] e k
variable {st st2 : St} {r : Or}
theorem qk3 {k : OpK} (hst : r.st = st) {r2 : Or} (h2 : r2 = { r with st := st2 }) (hW : ∀ s, s ∈ k.boxW → get s st2.env = get s st.env) : Fr k st st2 r r2 := by
  subst h2
  refine ⟨rfl, rfl, rfl, fun s hs => (by rw [hst]; exact hW s hs), fun s _ => (by rw [hst]), fun s _ => rfl, fun _ _ => ⟨by rw [hst], rfl⟩, fun h => (by rw [hst]; exact h), fun n => (by rw [hst]), fun n => rfl⟩
theorem qdj {k : OpK} {l : List O} {v : V} (hW : k.boxW = ji l) {same : Bool} {pan : Bool} {H' H2' : List Obj} {lo lo2 : Nat} (h1 : k.free = true → same = true → H' = st.H ∧ H2' = st2.H) (h2 : st2.H = st.H → H2' = H') :
    Fr k st st2 ⟨pan, same, v, { env := spentAll l st.env, H := H', lo := lo }⟩ ⟨pan, same, v, { env := spentAll l st2.env, H := H2', lo := lo2 }⟩ := by
  refine ⟨rfl, rfl, rfl, fun s hs => ?_, fun s hs => ?_, fun s hs => ?_, h1, h2, fun n => qa7 n l _, fun n => qa7 n l _⟩
  · rw [hW] at hs; simp only [zp, hs, if_true]
  · rw [hW] at hs; simp only [zp, hs, if_false]
  · rw [hW] at hs; simp only [zp, hs, if_false]
theorem ke {v : V} (h : ok v st = some r) : r.st = st ∧ ok v st2 = some { r with st := st2 } := by
  simp only [ok, Option.some.injEq] at h; subst h; exact ⟨rfl, rfl⟩
theorem qtM {c a b : O} (h : qeM c a b st = some r) (e1 : rd st2.env c = rd st.env c) (e2 : rd st2.env a = rd st.env a) (e3 : rd st2.env b = rd st.env b) : r.st = st ∧ qeM c a b st2 = some { r with st := st2 } := by
  unfold qeM at h ⊢; rw [e1, e2, e3]
  split at h
  · rename_i hz; (try simp only [hz]); exact ke h
  · cases h
theorem qsd {z : List D} {p : List (Nat × Nat × O)} (h : qbX z p st = some r) (e : (p.map fun (o, s, x) => (o, s, rd st2.env x)) = (p.map fun (o, s, x) => (o, s, rd st.env x))) : r.st = st ∧ qbX z p st2 = some { r with st := st2 } := by
  unfold qbX at h ⊢; rw [e]
  cases hk : qaK (p.map fun (o, s, x) => (o, s, rd st.env x)) with
  | false => rw [hk] at h; simp at h
  | true =>
    rw [hk] at h
    simp only [qvN, cond_false] at h ⊢
    split at h
    · rename_i hz; (try simp only [hz]); exact ke h
    · cases h
theorem qkW {z : D} {n : Nat} {p : List (Nat × O)} (h : zR z n p st = some r) (e : (p.map fun (j, x) => (j, rd st2.env x)) = (p.map fun (j, x) => (j, rd st.env x))) : r.st = st ∧ zR z n p st2 = some { r with st := st2 } := by
  unfold zR at h ⊢; rw [e]
  split at h
  · rename_i hz; (try simp only [hz])
    split at h
    · rename_i hw; (try simp only [hw, if_true]); exact ke h
    · cases h
  · cases h
theorem qq9 {z : List D} {p : List (Nat × Nat × O)} (h : qco z p st = some r) (e : (p.map fun (o, s, x) => (o, s, rd st2.env x)) = (p.map fun (o, s, x) => (o, s, rd st.env x))) : r.st = st ∧ qco z p st2 = some { r with st := st2 } := by
  unfold qco at h ⊢; rw [e]
  cases hk : qaK (p.map fun (o, s, x) => (o, s, rd st.env x)) with
  | false => rw [hk] at h; simp at h
  | true =>
    rw [hk] at h
    simp only [qvN, cond_false] at h ⊢
    split at h
    · rename_i hz; (try simp only [hz]); exact ke h
    · cases h
theorem qlH {z : D} {n : Nat} {p : List (Nat × O)} (h : y6 z n p st = some r) (e : (p.map fun (j, x) => (j, rd st2.env x)) = (p.map fun (j, x) => (j, rd st.env x))) : r.st = st ∧ y6 z n p st2 = some { r with st := st2 } := by
  unfold y6 at h ⊢; rw [e]
  split at h
  · rename_i hz; (try simp only [hz])
    split at h
    · rename_i hw; (try simp only [hw, if_true]); exact ke h
    · cases h
  · cases h
theorem qnK {x : O} (h : ya x st = some r) (e1 : rd st2.env x = rd st.env x) : r.st = st ∧ ya x st2 = some { r with st := st2 } := by
  unfold ya at h ⊢; rw [e1]
  split at h
  · rename_i hz; (try simp only [hz]); exact ke h
  · rename_i hz; (try simp only [hz]); exact ke h
  · rename_i hz; (try simp only [hz]); exact ke h
  · cases h
theorem qve {op : BinOp} {kd : Kd} {x y : O} (h : qiw op kd x y st = some r) (e1 : rd st2.env x = rd st.env x) (e2 : rd st2.env y = rd st.env y) : r.st = st ∧ qiw op kd x y st2 = some { r with st := st2 } := by
  unfold qiw at h ⊢; rw [e1, e2]
  split at h
  · rename_i hz; (try simp only [hz]); exact ke h
  · cases h
theorem qvr {op : UnOp} {x : O} (h : eUn op x st = some r) (e1 : rd st2.env x = rd st.env x) : r.st = st ∧ eUn op x st2 = some { r with st := st2 } := by
  unfold eUn at h ⊢; rw [e1]
  split at h
  · rename_i hz; (try simp only [hz])
    split at h
    · rename_i hw; (try simp only [hw]); exact ke h
    · cases h
  · cases h
theorem qtb {k : IntKind} {x : O} (h : qeP k x st = some r) (e1 : rd st2.env x = rd st.env x) : r.st = st ∧ qeP k x st2 = some { r with st := st2 } := by
  unfold qeP at h ⊢; rw [e1]
  split at h
  · rename_i hz; (try simp only [hz]); exact ke h
  · cases h
theorem qr6 {x : O} (h : qeC x st = some r) (e1 : rd st2.env x = rd st.env x) : r.st = st ∧ qeC x st2 = some { r with st := st2 } := by
  unfold qeC at h ⊢; rw [e1]
  split at h
  · rename_i hz; (try simp only [hz]); exact ke h
  · cases h
theorem qtn {x : O} (h : qhp x st = some r) (e1 : rd st2.env x = rd st.env x) (hH : st2.H = st.H) : r.st = st ∧ qhp x st2 = some { r with st := st2 } := by
  unfold qhp at h ⊢; rw [e1, hH]
  simp only [qvD] at h ⊢
  split at h
  · rename_i hz; (try simp only [hz]); exact ke h
  · rename_i hz; (try simp only [hz])
    split at h
    · rename_i hw; (try simp only [hw]); exact ke h
    · cases h
  · rename_i hz; (try simp only [hz])
    split at h
    · rename_i hw; (try simp only [hw])
      split at h
      · rename_i hw2; (try simp only [hw2, if_true])
        split at h
        · rename_i hw3; (try simp only [hw3])
          split at h
          · rename_i hw4; (try simp only [hw4]); exact ke h
          · cases h
        · cases h
      · cases h
    · cases h
  · cases h
theorem qtL {x : O} (h : qhj x st = some r) (e1 : rd st2.env x = rd st.env x) : r.st = st ∧ qhj x st2 = some { r with st := st2 } := by
  unfold qhj at h ⊢; rw [e1]
  split at h
  · rename_i hz; (try simp only [hz]); exact ke h
  · cases h
theorem qrU {t : Nat} {x : O} (h : qes t x st = some r) (e1 : rd st2.env x = rd st.env x) : r.st = st ∧ qes t x st2 = some { r with st := st2 } := by
  unfold qes at h ⊢; rw [e1]
  split at h
  · rename_i hz; (try simp only [hz, if_true]); exact ke h
  · cases h
theorem qm5 {t : Nat} {z : D} {x : O} (h : qaJ t z x st = some r) (e1 : rd st2.env x = rd st.env x) : r.st = st ∧ qaJ t z x st2 = some { r with st := st2 } := by
  unfold qaJ at h ⊢; rw [e1]
  split at h
  · rename_i t' v hz
    (try simp only [hz])
    cases hb : qvG t' t with
    | true => simp only [hb, cond_true] at h ⊢; exact ke h
    | false => simp only [hb, cond_false] at h ⊢; exact ke h
  · rename_i hz; (try simp only [hz]); exact ke h
  · cases h
theorem qs3 {f : Nat} {a b : List O} (h : qf2 f a b st = some r) (e1 : a.map (rd st2.env) = a.map (rd st.env)) (e2 : b.map (rd st2.env) = b.map (rd st.env)) : r.st = st ∧ qf2 f a b st2 = some { r with st := st2 } := by
  unfold qf2 at h ⊢; rw [e1, e2]
  split at h
  · rename_i hz; (try simp only [hz, if_true]); exact ke h
  · cases h
theorem qq3 {x : O} {a b : Option O} (h : qcn x a b st = some r) (e1 : rd st2.env x = rd st.env x) (e2 : zw st2.env a = zw st.env a) (e3 : zw st2.env b = zw st.env b) : r.st = st ∧ qcn x a b st2 = some { r with st := st2 } := by
  unfold qcn at h ⊢; rw [e1, e2, e3]
  split at h
  · rename_i hz1 hz2; (try simp only [hz1, hz2])
    split at h
    · rename_i hw; (try simp only [hw]); exact ke h
    · cases h
  · cases h
theorem qq2 {n : Nat} {x : O} {a b : Option O} (h : qbK n x a b st = some r) (e1 : rd st2.env x = rd st.env x) (e2 : zw st2.env a = zw st.env a) (e3 : zw st2.env b = zw st.env b) : r.st = st ∧ qbK n x a b st2 = some { r with st := st2 } := by
  unfold qbK at h ⊢; rw [e1, e2, e3]
  split at h
  · rename_i hz1 hz2; (try simp only [hz1, hz2])
    split at h
    · rename_i hw; (try simp only [hw]); exact ke h
    · cases h
  · cases h
theorem qqq {n : Nat} {x : O} {a b : Option O} (h : qcM n x a b st = some r) (e1 : rd st2.env x = rd st.env x) (e2 : zw st2.env a = zw st.env a) (e3 : zw st2.env b = zw st.env b) : r.st = st ∧ qcM n x a b st2 = some { r with st := st2 } := by
  unfold qcM at h ⊢; rw [e1, e2, e3]
  split at h
  · rename_i hz1 hz2; (try simp only [hz1, hz2])
    split at h
    · rename_i hw; (try simp only [hw]); exact ke h
    · cases h
  · cases h
theorem qrA {n : Nat} {x : O} {a : Option O} {b m : O} (h : qcR n x a b m st = some r) (e1 : rd st2.env x = rd st.env x) (e2 : zw st2.env a = zw st.env a) (e3 : rd st2.env b = rd st.env b) (e4 : rd st2.env m = rd st.env m) : r.st = st ∧ qcR n x a b m st2 = some { r with st := st2 } := by
  unfold qcR at h ⊢; rw [e1, e2, e3, e4]
  split at h
  · rename_i hz1 hz2 hz3; (try simp only [hz1, hz2, hz3])
    split at h
    · rename_i hw; (try simp only [hw]); exact ke h
    · cases h
  · cases h
theorem ql4 {x : O} {o : Nat} {l : L} (h : zL x o l st = some r) (e1 : rd st2.env x = rd st.env x) : r.st = st ∧ zL x o l st2 = some { r with st := st2 } := by
  unfold zL at h ⊢; rw [e1]
  split at h
  · rename_i hz; (try simp only [hz]); exact ke h
  · rename_i hz; (try simp only [hz]); exact ke h
  · rename_i hz; (try simp only [hz])
    split at h
    · rename_i hw; (try simp only [hw])
      split at h
      · rename_i hq; (try simp only [hq, if_true]); exact ke h
      · cases h
    · cases h
  · cases h
theorem qsH {x : O} {o : Nat} {l : L} (h : qdG x o l st = some r) (e1 : rd st2.env x = rd st.env x) : r.st = st ∧ qdG x o l st2 = some { r with st := st2 } := by
  unfold qdG at h ⊢; rw [e1]
  split at h
  · rename_i hz; (try simp only [hz])
    split at h
    · rename_i hw; (try simp only [hw]); exact ke h
    · cases h
  · rename_i hz; (try simp only [hz])
    split at h
    · rename_i hw; (try simp only [hw]); exact ke h
    · cases h
  · cases h
theorem qmB {x i : O} {n : Nat} {arr : Option Nat} (h : zI x i n arr st = some r) (e1 : rd st2.env x = rd st.env x) (e2 : rd st2.env i = rd st.env i) : r.st = st ∧ zI x i n arr st2 = some { r with st := st2 } := by
  unfold zI at h ⊢; rw [e2]
  split at h
  · rename_i hz; (try simp only [hz])
    cases arr with
    | some len =>
      simp only [qaz, qvD, e1] at h ⊢
      split at h
      · rename_i hw; (try simp only [hw, if_true])
        split at h
        · rename_i hq; (try simp only [hq]); exact ke h
        · rename_i hq; (try simp only [hq]); exact ke h
        · rename_i hq; (try simp only [hq])
          split at h
          · rename_i hq1; (try simp only [hq1, if_true])
            split at h
            · rename_i hq2; (try simp only [hq2])
              split at h
              · rename_i hq3; (try simp only [hq3, if_true]); exact ke h
              · cases h
            · cases h
          · cases h
        · cases h
      · cases h
    | none =>
      simp only [yU, qvD, e1] at h ⊢
      split at h
      · rename_i hw; (try simp only [hw, if_true])
        split at h
        · rename_i hq; (try simp only [hq])
          split at h
          · rename_i hq2; (try simp only [hq2])
            split at h
            · rename_i hq3; (try simp only [hq3, if_true]); exact ke h
            · cases h
          · cases h
        · rename_i hq; (try simp only [hq])
          split at h
          · rename_i hq3; (try simp only [hq3, if_true]); exact ke h
          · cases h
        · rename_i hq; (try simp only [hq])
          split at h
          · rename_i hq3; (try simp only [hq3, if_true]); exact ke h
          · cases h
        · cases h
      · cases h
  · cases h
theorem qsF {x i : O} (h : qdC x i st = some r) (e1 : rd st2.env x = rd st.env x) (e2 : rd st2.env i = rd st.env i) : r.st = st ∧ qdC x i st2 = some { r with st := st2 } := by
  unfold qdC at h ⊢; rw [e1, e2]
  split at h
  · rename_i hz1 hz2; (try simp only [hz1, hz2, qvD] at h ⊢)
    split at h
    · rename_i hw; (try simp only [hw, if_true])
      split at h
      · rename_i hq; (try simp only [hq]); exact ke h
      · cases h
    · cases h
  · cases h
theorem qq7 {kk : Nat} {z : D} {m k : O} {c : Bool} (h : qbk kk z m k c st = some r) (e1 : rd st2.env m = rd st.env m) (e2 : rd st2.env k = rd st.env k) (eH : st2.H = st.H) : r.st = st ∧ qbk kk z m k c st2 = some { r with st := st2 } := by
  unfold qbk at h ⊢; rw [e1, e2]
  split at h
  · rename_i hz1 hz2; (try simp only [hz1, hz2])
    split at h
    · rename_i hw; (try simp only [hw, if_true]); exact ke h
    · cases h
  · rename_i hz1 hz2; (try simp only [hz1, hz2, eH])
    split at h
    · rename_i hw; (try simp only [hw])
      split at h
      · rename_i hq; (try simp only [hq, if_true])
        split at h
        · rename_i hq2; (try simp only [hq2]); exact ke h
        · rename_i hq2; (try simp only [hq2]); exact ke h
        · cases h
      · cases h
    · cases h
  · cases h
theorem qpT {x : O} {i : Nat} (h : qae x i st = some r) (e : ∀ s, s ∈ kZ [x] → get s st2.env = get s st.env) : r.st = st ∧ qae x i st2 = some { r with st := st2 } := by
  unfold qae at h ⊢
  split at h
  · rename_i n
    rw [e n (by simp [kZ])]
    split at h
    · rename_i hz; (try simp only [hz])
      split at h
      · rename_i hw; (try simp only [hw]); exact ke h
      · cases h
    · cases h
  · cases h
end W

/-
  What an operation looks at, and what it changes: those that change something.
-/
set_option linter.unusedSimpArgs false
set_option linter.unusedVariables false
namespace W
open Go (IntKind BinOp UnOp)
variable {st st2 : St} {r : Or}
theorem qpW {v : V} (h : ∀ m o, v ≠ .lp m o) (n k : Nat) (e : Env) : yY n ((k, v) :: e) = yY n e := by
  cases v <;> first | rfl | exact absurd rfl (h _ _)
theorem quV {x : O} (h : qks x st = some r) (e1 : rd st2.env x = rd st.env x) : ∃ r2, qks x st2 = some r2 ∧ Fr (.mov x) st st2 r r2 := by
  simp only [qks, ok, Option.some.injEq] at h ⊢
  subst h
  refine ⟨_, rfl, ?_⟩
  rw [e1]
  exact qdj (l := [x]) rfl (fun _ _ => ⟨rfl, rfl⟩) (fun h => h)
theorem qrN {loc : Bool} {z : List D} (h : qc8 loc z st = some r) (eH : (!loc) = true → st2.H = st.H) : ∃ r2, qc8 loc z st2 = some r2 ∧ Fr (.alloc loc z) st st2 r r2 := by
  cases loc with
  | true =>
    simp only [qc8, cond_true] at h ⊢
    obtain ⟨h1, h2⟩ := ke (st2 := st2) h
    exact ⟨_, h2, qk3 h1 rfl (fun s hs => by cases hs)⟩
  | false =>
    simp only [qc8, cond_false, okH, Option.some.injEq] at h ⊢
    subst h
    have e := eH rfl
    refine ⟨_, rfl, rfl, rfl, by rw [e], fun s hs => (by cases hs), fun s _ => rfl, fun s _ => rfl, fun h => (by cases h), fun _ => by rw [e], fun n => rfl, fun n => rfl⟩
theorem quG {loc : Bool} {x : O} (h : qiq loc x st = some r) (e1 : rd st2.env x = rd st.env x) (eH : (!loc) = true → st2.H = st.H) : ∃ r2, qiq loc x st2 = some r2 ∧ Fr (.box loc x) st st2 r r2 := by
  simp only [qiq] at h ⊢
  rw [e1]
  split at h
  · cases h
  · rename_i hv
    (try rw [if_neg hv])
    cases loc with
    | true =>
      simp only [cond_true, ok, Option.some.injEq] at h ⊢
      subst h
      exact ⟨_, rfl, qdj (l := [x]) rfl (fun _ _ => ⟨rfl, rfl⟩) (fun h => h)⟩
    | false =>
      simp only [cond_false] at h ⊢
      split at h
      · rename_i hv2
        (try rw [if_pos hv2])
        simp only [okH, Option.some.injEq] at h ⊢
        subst h
        have e := eH rfl
        rw [e]
        exact ⟨_, rfl, qdj (l := [x]) rfl (fun h => by cases h) (fun h => rfl)⟩
      · cases h
theorem qrY (h : qeW st = some r) (eH : st2.H = st.H) : ∃ r2, qeW st2 = some r2 ∧ Fr .mkMap st st2 r r2 := by
  simp only [qeW, okH, Option.some.injEq] at h ⊢
  subst h
  refine ⟨_, rfl, rfl, rfl, by rw [eH], fun s hs => (by cases hs), fun s _ => rfl, fun s _ => rfl, fun h => (by cases h), fun _ => by rw [eH], fun n => rfl, fun n => rfl⟩
theorem qpR {z : D} {a b : O} (h : qbU z a b st = some r) (e1 : rd st2.env a = rd st.env a) (e2 : rd st2.env b = rd st.env b) (eH : st2.H = st.H) : ∃ r2, qbU z a b st2 = some r2 ∧ Fr (.mkSlice z a b) st st2 r r2 := by
  unfold qbU at h ⊢
  rw [e1, e2]
  split at h
  · rename_i hz1 hz2; (try simp only [hz1, hz2])
    split at h
    · rename_i hw; (try simp only [hw])
      split at h
      · rename_i hq; (try simp only [hq, if_true])
        simp only [okH, Option.some.injEq] at h
        subst h
        (try rw [if_pos hw])
        refine ⟨_, rfl, rfl, rfl, by rw [eH, hq], fun s hs => (by cases hs), fun s _ => rfl, fun s _ => rfl, fun h => (by cases h), fun _ => by rw [eH, hq], fun n => rfl, fun n => rfl⟩
      · cases h
    · cases h
  · cases h
theorem qnp {z : D} {n : Nat} {p : List (Nat × O)} (h : qaU z n p st = some r) (e : (p.map fun (j, x) => (j, rd st2.env x)) = (p.map fun (j, x) => (j, rd st.env x))) (eH : st2.H = st.H) : ∃ r2, qaU z n p st2 = some r2 ∧ Fr (.buildRow z n p) st st2 r r2 := by
  unfold qaU at h ⊢
  rw [e]
  split at h
  · rename_i xs hz; (try simp only [hz])
    split at h
    · rename_i hw
      (try rw [if_pos hw])
      simp only [okH, Option.some.injEq] at h
      subst h
      refine ⟨_, rfl, rfl, rfl, by rw [eH], fun s hs => (by cases hs), fun s _ => rfl, fun s _ => rfl, fun h => (by cases h), fun _ => by rw [eH], fun n => rfl, fun n => rfl⟩
    · cases h
  · cases h
theorem qns {x : O} (h : qaT x st = some r) (e : rd st2.env x = rd st.env x) (eH : st2.H = st.H) : ∃ r2, qaT x st2 = some r2 ∧ Fr (.bytesRow x) st st2 r r2 := by
  unfold qaT at h ⊢
  rw [e]
  split at h
  · rename_i t hz; (try simp only [hz])
    simp only [okH, Option.some.injEq] at h
    subst h
    refine ⟨_, rfl, rfl, rfl, by rw [eH], fun s hs => (by cases hs), fun s _ => rfl, fun s _ => rfl, fun h => (by cases h), fun _ => by rw [eH], fun n => rfl, fun n => rfl⟩
  · cases h
theorem qlz {kk : Nat} {m k x : O} (h : jT kk m k x st = some r) (e1 : rd st2.env m = rd st.env m) (e2 : rd st2.env k = rd st.env k) (e3 : rd st2.env x = rd st.env x) (eH : st2.H = st.H) :
    ∃ r2, jT kk m k x st2 = some r2 ∧ Fr (.mapUpdate kk m k x) st st2 r r2 := by
  unfold jT at h ⊢
  rw [e1, e2, e3, eH]
  split at h
  · rename_i hz1 hz2; (try simp only [hz1, hz2])
    split at h
    · rename_i hw; (try simp only [hw])
      simp only at h
      split at h
      · rename_i hq
        (try rw [if_pos hq])
        split at h
        · rename_i hq2; (try simp only [hq2])
          simp only [okH, Option.some.injEq] at h
          subst h
          exact ⟨_, rfl, qdj (l := [x]) rfl (fun h => by cases h) (fun _ => rfl)⟩
        · cases h
      · cases h
    · cases h
  · cases h
theorem qth {call : Call} (hc : yq call) {f : O} {l : List O} (h : qcH call f l st = some r) (e1 : rd st2.env f = rd st.env f) (e2 : l.map (rd st2.env) = l.map (rd st.env)) (eH : st2.H = st.H) :
    ∃ r2, qcH call f l st2 = some r2 ∧ Fr (.call f l) st st2 r r2 := by
  unfold qcH at h ⊢
  rw [e1, e2, eH]
  split at h
  · rename_i hz; (try simp only [hz])
    simp only at h ⊢
    split at h
    · rename_i hw
      (try rw [if_pos hw])
      split at h
      · rename_i q hq; (try simp only [hq])
        simp only [Option.some.injEq] at h
        subst h
        have hs := (hc _ _ _ _ hq).2.2
        exact ⟨_, rfl, qdj (l := l) rfl (fun _ hh => ⟨hs hh, by rw [eH]; exact hs hh⟩) (fun _ => rfl)⟩
      · cases h
    · cases h
  · cases h
theorem qc3 : ∀ {l : List O} {s : Nat}, s ∈ ji l → s ∈ kZ l
  | .mv n :: l, s, h => by
    simp only [ji, kZ, List.mem_cons] at h ⊢
    exact h.imp id qc3
  | .t n :: l, s, h => by
    simp only [kZ, List.mem_cons]
    exact .inr (qc3 (l := l) h)
  | .c _ :: l, s, h => qc3 (l := l) h
  | .f _ :: l, s, h => qc3 (l := l) h
  | .g _ _ :: l, s, h => qc3 (l := l) h
theorem qme (x : O) (l : List O) : ji (x :: l) = ji [x] ++ ji l := by cases x <;> rfl
theorem qrH {size bytes : Nat} {x y : O} (h : qbH size bytes x y st = some r) (e1 : rd st2.env x = rd st.env x) (e2 : rd st2.env y = rd st.env y) (hy : ∀ s, s ∈ ji [y] → get s st2.env = get s st.env) :
    ∃ r2, qbH size bytes x y st2 = some r2 ∧ Fr (.bi (.append size bytes) [x, y]) st st2 r r2 := by
  unfold qbH at h ⊢
  rw [e1, e2]
  split at h
  · rename_i hz; (try simp only [hz])
    simp only [ok, Option.some.injEq] at h
    subst h
    have hW : ∀ s, s ∈ (OpK.bi (.append size bytes) [x, y]).boxW ↔ s ∈ ji [x] ∨ s ∈ ji [y] := fun s => by
      show s ∈ ji [x, y] ↔ _
      rw [qme]; simp
    refine ⟨_, rfl, rfl, rfl, rfl, fun s hs => ?_, fun s hs => ?_, fun s hs => ?_, fun _ _ => ⟨rfl, rfl⟩, fun h => h, fun n => qgg n x _, fun n => qgg n x _⟩
    · show get s (spent x st2.env) = get s (spent x st.env)
      rw [qc0, qc0]
      split
      · rfl
      · rename_i hx
        exact hy s (((hW s).1 hs).resolve_left hx)
    · rw [hW, not_or] at hs
      show get s (spent x st.env) = _
      rw [qc0, if_neg hs.1]
    · rw [hW, not_or] at hs
      show get s (spent x st2.env) = _
      rw [qc0, if_neg hs.1]
  · cases h
theorem qsh {l : L} {a : O} (h : qcF l a st = some r) (e1 : rd st2.env a = rd st.env a) : r.st = st ∧ qcF l a st2 = some { r with st := st2 } := by
  unfold qcF at h ⊢
  rw [e1]
  split at h
  · rename_i x hx
    split at h
    · rename_i v hv
      have hv2 : zE l st2 (.cp x) = some v := hv
      simp only [hv2]
      exact ke h
    · cases h
  · cases h
theorem qto {sl : Option Nat} {l : L} {a : O} (h : qaZ false sl l a st = some r) (e1 : rd st2.env a = rd st.env a) (e2 : ∀ s, sl = some s → get s st2.env = get s st.env) (eH : sl.isNone = true → st2.H = st.H) :
    ∃ r2, qaZ false sl l a st2 = some r2 ∧ Fr (.load false sl l a) st st2 r r2 := by
  unfold qaZ at h ⊢
  rw [e1]
  cases hs : zf sl (rd st.env a) with
  | false => rw [hs] at h; simp at h
  | true =>
    rw [hs] at h
    simp only [qvN, cond_false] at h ⊢
    have key : ∀ v, zE l st (rd st.env a) = some v → zE l st2 (rd st.env a) = some v := by
      intro v hv
      unfold zE at hv ⊢
      split at hv
      · rename_i s off hz
        have hsl : sl = some s := by
          rw [hz] at hs
          cases sl with
          | none => simp [zf] at hs
          | some n => exact congrArg some (by simpa [zf] using hs)
        rw [e2 s hsl]; exact hv
      · exact hv
      · rename_i id off hz
        have hsl : sl.isNone = true := by
          rw [hz] at hs
          cases sl with
          | none => rfl
          | some n => simp [zf] at hs
        rw [eH hsl]; exact hv
      · cases hv
    split at h
    · rename_i v hv
      rw [key v hv]
      obtain ⟨h1, h2⟩ := ke (st2 := st2) h
      exact ⟨_, h2, qk3 h1 rfl (fun s hs => by cases hs)⟩
    · cases h
theorem ql8 {k : OpK} {s : Nat} {l : List O} {cs : List V} {v : V} {same pan : Bool} (hW : ∀ n, n ∈ k.boxW ↔ n = s ∨ n ∈ ji l) :
    Fr k st st2 ⟨pan, same, v, { st with env := (s, .box cs) :: spentAll l st.env }⟩ ⟨pan, same, v, { st2 with env := (s, .box cs) :: spentAll l st2.env }⟩ := by
  refine ⟨rfl, rfl, rfl, fun n hn => ?_, fun n hn => ?_, fun n hn => ?_, fun _ _ => ⟨rfl, rfl⟩, fun h => h, fun n => qa7 n l _, fun n => qa7 n l _⟩
  · rw [hW] at hn
    simp only [kD, zp]
    rcases hn with h | h
    · simp [h]
    · simp [h]
  · rw [hW, not_or] at hn
    simp only [kD, zp, hn.1, hn.2, if_false]
  · rw [hW, not_or] at hn
    simp only [kD, zp, hn.1, hn.2, if_false]
theorem qp1 {sl : Option Nat} {l : L} {a : O} (h : qaZ true sl l a st = some r) (e1 : rd st2.env a = rd st.env a) (e2 : ∀ s, sl = some s → get s st2.env = get s st.env) (eH : sl.isNone = true → st2.H = st.H) :
    ∃ r2, qaZ true sl l a st2 = some r2 ∧ Fr (.load true sl l a) st st2 r r2 := by
  unfold qaZ at h ⊢
  rw [e1]
  cases hs : zf sl (rd st.env a) with
  | false => rw [hs] at h; simp at h
  | true =>
    rw [hs] at h
    simp only [qvN, cond_false, cond_true] at h ⊢
    cases hl : l.agg with
    | true => rw [hl] at h; simp at h
    | false =>
      rw [hl] at h
      simp only [cond_false] at h ⊢
      split at h
      · rename_i v st' hst
        unfold qkM at hst ⊢
        split at hst
        · rename_i s off hz
          have hsl : sl = some s := by
            rw [hz] at hs
            cases sl with
            | none => simp [zf] at hs
            | some n => exact congrArg some (by simpa [zf] using hs)
          subst hsl
          rw [e2 s rfl]
          split at hst
          · rename_i cs hb
            split at hst
            · rename_i v' hc
              simp only [Option.some.injEq, Prod.mk.injEq] at hst
              obtain ⟨rfl, rfl⟩ := hst
              simp only [ok, Option.some.injEq] at h ⊢
              subst h
              exact ⟨_, rfl, ql8 (l := []) (fun n => by simp [OpK.boxW, ji])⟩
            · cases hst
          · cases hst
        · rename_i id off hz
          have hsl : sl = none := by
            rw [hz] at hs
            cases sl with
            | none => rfl
            | some n => simp [zf] at hs
          subst hsl
          rw [eH rfl]
          split at hst
          · rename_i cs hb
            split at hst
            · rename_i v' hc
              simp only [Option.some.injEq, Prod.mk.injEq] at hst
              obtain ⟨rfl, rfl⟩ := hst
              simp only [okH, Option.some.injEq] at h ⊢
              subst h
              exact ⟨_, rfl, rfl, rfl, rfl, fun s hs => (by cases hs), fun s _ => rfl, fun s _ => rfl, fun h => (by cases h), fun _ => rfl, fun n => rfl, fun n => rfl⟩
            · cases hst
          · cases hst
        · cases hst
      · cases h
theorem qsx {sl : Option Nat} {l : L} {a x : O} (h : qbS sl l a x st = some r) (e1 : rd st2.env a = rd st.env a) (e3 : rd st2.env x = rd st.env x) (e2 : ∀ s, sl = some s → get s st2.env = get s st.env) (eH : sl.isNone = true → st2.H = st.H) :
    ∃ r2, qbS sl l a x st2 = some r2 ∧ Fr (.store sl l a x) st st2 r r2 := by
  unfold qbS at h ⊢
  rw [e1, e3]
  cases hs : zf sl (rd st.env a) with
  | false => rw [hs] at h; simp at h
  | true =>
    rw [hs] at h
    simp only [qvN, cond_false] at h ⊢
    split at h
    · rename_i st' hst
      unfold qbj at hst ⊢
      split at hst
      · rename_i s off hz
        have hsl : sl = some s := by
          rw [hz] at hs
          cases sl with
          | none => simp [zf] at hs
          | some n => exact congrArg some (by simpa [zf] using hs)
        subst hsl
        have e4 : get s (spent x st2.env) = get s (spent x st.env) := by rw [qc0, qc0, e2 s rfl]
        simp only [e4]
        split at hst
        · rename_i cs hb
          split at hst
          · rename_i hc
            (try rw [if_pos hc])
            split at hst
            · rename_i cs' hset
              simp only [Option.some.injEq] at hst
              subst hst
              (try simp only [hb, if_pos hc, hset])
              simp only [ok, Option.some.injEq] at h ⊢
              subst h
              exact ⟨_, rfl, ql8 (l := [x]) (fun n => by simp [OpK.boxW])⟩
            · cases hst
          · cases hst
        · cases hst
      · rename_i id off hz
        have hsl : sl = none := by
          rw [hz] at hs
          cases sl with
          | none => rfl
          | some n => simp [zf] at hs
        subst hsl
        simp only [eH rfl]
        split at hst
        · rename_i cs hb
          split at hst
          · rename_i hc
            (try rw [if_pos hc])
            split at hst
            · rename_i cs' hset
              simp only [Option.some.injEq] at hst
              subst hst
              (try simp only [hb, if_pos hc, hset])
              simp only [okH, Option.some.injEq] at h ⊢
              subst h
              exact ⟨_, rfl, qdj (l := [x]) rfl (fun h => by cases h) (fun _ => rfl)⟩
            · cases hst
          · cases hst
        · rename_i k0 cs hb
          split at hst
          · rename_i hc
            (try rw [if_pos hc])
            split at hst
            · rename_i cs' hset
              simp only [Option.some.injEq] at hst
              subst hst
              (try simp only [hb, if_pos hc, hset])
              simp only [okH, Option.some.injEq] at h ⊢
              subst h
              exact ⟨_, rfl, qdj (l := [x]) rfl (fun h => by cases h) (fun _ => rfl)⟩
            · cases hst
          · cases hst
        · cases hst
      · cases hst
    · cases h
theorem qtz {x : O} (h : qgJ x st = some r) (e1 : rd st2.env x = rd st.env x) : r.st = st ∧ qgJ x st2 = some { r with st := st2 } := by
  unfold qgJ at h ⊢; rw [e1]
  split at h
  · rename_i hz; (try simp only [hz]); exact ke h
  · cases h
theorem qtr {x : O} (h : qcI x st = some r) (e1 : rd st2.env x = rd st.env x) : r.st = st ∧ qcI x st2 = some { r with st := st2 } := by
  unfold qcI at h ⊢; rw [e1]
  split at h
  · rename_i hz; (try simp only [hz])
    split at h
    · rename_i hw; (try simp only [hw]); exact ke h
    · cases h
  · rename_i hz; (try simp only [hz]); exact ke h
  · rename_i hz; (try simp only [hz]); exact ke h
  · cases h
theorem qtP {x : O} (h : qh9 x st = some r) (e1 : rd st2.env x = rd st.env x) (eH : st2.H = st.H) : r.st = st ∧ qh9 x st2 = some { r with st := st2 } := by
  unfold qh9 at h ⊢; rw [e1, eH]
  split at h
  · rename_i hz; (try simp only [hz]); exact ke h
  · rename_i hz; (try simp only [hz])
    split at h
    · rename_i hw; (try simp only [hw]); exact ke h
    · cases h
  · cases h
theorem qfh {e e2 : Env} : ∀ {p : List (Nat × Nat × O)}, (∀ s, s ∈ kZ (p.map (·.2.2)) → get s e2 = get s e) → (p.map fun (o, s, x) => (o, s, rd e2 x)) = (p.map fun (o, s, x) => (o, s, rd e x))
  | [], _ => rfl
  | (o, n, x) :: l, h => by
    simp only [qvM] at h ⊢
    rw [jk] at h
    rw [qfk (fun s hs => h s (by simp [hs])), qfh (fun s hs => h s (by simp [hs]))]
theorem qbN {e e2 : Env} : ∀ {p : List (Nat × O)}, (∀ s, s ∈ kZ (p.map (·.2)) → get s e2 = get s e) → (p.map fun (j, x) => (j, rd e2 x)) = (p.map fun (j, x) => (j, rd e x))
  | [], _ => rfl
  | (o, x) :: l, h => by
    simp only [qvM] at h ⊢
    rw [jk] at h
    rw [qfk (fun s hs => h s (by simp [hs])), qbN (fun s hs => h s (by simp [hs]))]
theorem qrG {l : L} {z : D} {n : Nat} {p : List (Nat × O)} (h : qcY l z n p st = some r) (e : (p.map fun (j, x) => (j, rd st2.env x)) = (p.map fun (j, x) => (j, rd st.env x))) (eH : st2.H = st.H) : ∃ r2, qcY l z n p st2 = some r2 ∧ Fr (.buildR l z n p) st st2 r r2 := by
  unfold qcY at h ⊢
  rw [e]
  split at h
  · rename_i xs hz; (try simp only [hz])
    split at h
    · rename_i hw
      (try rw [if_pos hw])
      simp only [okH, Option.some.injEq] at h
      subst h
      refine ⟨_, rfl, rfl, rfl, by rw [eH], fun s hs => (by cases hs), fun s _ => rfl, fun s _ => rfl, fun h => (by cases h), fun _ => by rw [eH], fun n => rfl, fun n => rfl⟩
    · cases h
  · cases h
theorem qpr {l : L} {b : Nat} {x y : O} (h : qaD l b x y st = some r) (e1 : rd st2.env x = rd st.env x) (e2 : rd st2.env y = rd st.env y) (eH : st2.H = st.H) : ∃ r2, qaD l b x y st2 = some r2 ∧ Fr (.appendR l b x y) st st2 r r2 := by
  unfold qaD at h ⊢
  rw [e1, e2, eH]
  split at h
  · rename_i ys hy; (try simp only [hy])
    split at h
    · rename_i hx; (try simp only [hx])
      rw [qvD] at h ⊢
      split at h
      · rename_i hb; rw [if_pos hb]
        split at h
        · simp only [ok, Option.some.injEq] at h; subst h
          exact ⟨_, rfl, rfl, rfl, rfl, fun s hs => (by cases hs), fun s _ => rfl, fun s _ => rfl, fun h => (by cases h), fun _ => by rw [eH], fun n => rfl, fun n => rfl⟩
        · simp only [okH, Option.some.injEq] at h; subst h
          exact ⟨_, rfl, rfl, rfl, rfl, fun s hs => (by cases hs), fun s _ => rfl, fun s _ => rfl, fun h => (by cases h), fun _ => rfl, fun n => rfl, fun n => rfl⟩
      · cases h
    · rename_i hx; (try simp only [hx])
      split at h
      · rename_i ho; (try simp only [ho])
        rw [qvD] at h ⊢
        split at h
        · rename_i hb; rw [if_pos hb]
          simp only [okH, Option.some.injEq] at h; subst h
          exact ⟨_, rfl, rfl, rfl, rfl, fun s hs => (by cases hs), fun s _ => rfl, fun s _ => rfl, fun h => (by cases h), fun _ => rfl, fun n => rfl, fun n => rfl⟩
        · cases h
      · cases h
    · cases h
  · cases h
theorem qnZ {v : V} {H : List Obj} {lo : Nat} {v' : V} {H' : List Obj} {lo' : Nat} (h : qhs v H lo = some (v', H', lo')) (lo2 : Nat) : ∃ lo2', qhs v H lo2 = some (v', H', lo2') := by
  unfold qhs at h ⊢
  split at h
  · split at h
    · rename_i ho; (try simp only [ho])
      rw [qvD] at h ⊢
      split at h
      · rename_i hb; rw [if_pos hb]
        split at h
        · rename_i hd; (try simp only [hd])
          rw [qvD] at h ⊢
          split at h
          · rename_i hs; rw [if_pos hs]
            simp only [Option.some.injEq, Prod.mk.injEq] at h ⊢
            exact ⟨_, h.1, h.2.1, rfl⟩
          · cases h
        · cases h
      · cases h
    · cases h
  · simp only [Option.some.injEq, Prod.mk.injEq] at h ⊢
    exact ⟨_, h.1, h.2.1, rfl⟩
theorem qoq : ∀ {l : List V} {H : List Obj} {lo : Nat} {l' : List V} {H' : List Obj} {lo' : Nat}, qh0 l H lo = some (l', H', lo') → ∀ lo2, ∃ lo2', qh0 l H lo2 = some (l', H', lo2')
  | [], H, lo, l', H', lo', h, lo2 => by
    simp only [qh0, Option.some.injEq, Prod.mk.injEq] at h ⊢
    exact ⟨_, h.1, h.2.1, rfl⟩
  | v :: l, H, lo, l', H', lo', h, lo2 => by
    simp only [qh0] at h ⊢
    split at h
    · rename_i h1
      obtain ⟨lo3, h3⟩ := qnZ h1 lo2
      simp only [h3]
      split at h
      · rename_i h2
        obtain ⟨lo4, h4⟩ := qoq h2 lo3
        simp only [h4]
        simp only [Option.some.injEq, Prod.mk.injEq] at h ⊢
        exact ⟨_, h.1, h.2.1, rfl⟩
      · cases h
    · cases h
theorem qvv {n : Nat} (h : eFz n st = some r) (e : get n st2.env = get n st.env) (eH : st2.H = st.H) : ∃ r2, eFz n st2 = some r2 ∧ Fr (.fz n) st st2 r r2 := by
  have key : ∀ {v : V} {H' : List Obj} {lo lo2 : Nat}, (∀ m e, yY m ((n, v) :: e) = yY m e) → Fr (.fz n) st st2 ⟨false, false, .undef, ⟨(n, v) :: st.env, H', lo⟩⟩ ⟨false, false, .undef, ⟨(n, v) :: st2.env, H', lo2⟩⟩ := fun {v} {H'} {lo} {lo2} hv =>
    ⟨rfl, rfl, rfl, fun s hs => by
      have : s = n := by simpa [OpK.boxW] using hs
      subst this; simp [kD], fun s hs => by
      have : s ≠ n := by simpa [OpK.boxW] using hs
      simp [kD, this], fun s hs => by
      have : s ≠ n := by simpa [OpK.boxW] using hs
      simp [kD, this], fun h => (by cases h), fun _ => rfl, fun m => hv m _, fun m => hv m _⟩
  unfold eFz at h ⊢
  rw [e, eH]
  split at h
  · rename_i hz; (try simp only [hz])
    split at h
    · rename_i h1
      obtain ⟨lo2, h2⟩ := qoq h1 st2.lo
      simp only [h2]
      simp only [okH, Option.some.injEq] at h; subst h
      exact ⟨_, rfl, key (fun m e => rfl)⟩
    · cases h
  · rename_i hz; (try simp only [hz])
    split at h
    · rename_i h1
      obtain ⟨lo2, h2⟩ := qnZ h1 st2.lo
      simp only [h2]
      simp only [okH, Option.some.injEq] at h; subst h
      refine ⟨_, rfl, key (fun m e => ?_)⟩
      obtain ⟨l, cs, ds, _, _, _, _, _, _, _, _, rfl, _, _⟩ := qiJ h1
      rfl
    · cases h
  · simp only [okH, Option.some.injEq] at h; subst h
    rename_i h1 h2
    refine ⟨⟨false, false, .undef, st2⟩, ?_, rfl, rfl, rfl, fun s hs => by
      have : s = n := by simpa [OpK.boxW] using hs
      subst this; exact e, fun s _ => rfl, fun s _ => rfl, fun h => (by cases h), fun _ => eH, fun n => rfl, fun n => rfl⟩
    rfl
theorem qp6 {call : Call} (hc : yq call) {k : OpK} (h : qy call k st = some r) (hs : qvm k st.env st2.env) (hH : k.looks = true → st2.H = st.H) : ∃ r2, qy call k st2 = some r2 ∧ Fr k st st2 r r2 := by
  have s1 : ∀ {x : O} {l l' : List O}, k.rds = l ++ x :: l' → rd st2.env x = rd st.env x := fun {x l l'} e => qfk (fun s hs' => hs s (.inl (by rw [e, yp, jk]; simp [hs'])))
  have pure : ∀ {f : St → Option Or}, qy call k = f → (r.st = st ∧ f st2 = some { r with st := st2 }) → (∀ s, s ∈ k.boxW → get s st2.env = get s st.env) → ∃ r2, qy call k st2 = some r2 ∧ Fr k st st2 r r2 := fun hf ⟨h1, h2⟩ hW => ⟨_, by rw [hf]; exact h2, qk3 h1 rfl hW⟩
  have nW : ∀ {s : Nat}, s ∈ ([] : List Nat) → get s st2.env = get s st.env := fun h => by cases h
  cases k with
  | mov x => exact quV h (s1 (l := []) rfl)
  | pick c a b => exact pure rfl (qtM h (s1 (l := []) rfl) (s1 (l := [c]) rfl) (s1 (l := [c, a]) rfl)) (fun s h => nW h)
  | alloc loc z => exact qrN h hH
  | box loc x => exact quG h (s1 (l := []) rfl) hH
  | build z p => exact pure rfl (qsd h (qfh fun s h => hs s (.inl h))) (fun s h => nW h)
  | buildSlice z n p => exact pure rfl (qkW h (qbN fun s h => hs s (.inl h))) (fun s h => nW h)
  | buildV z p => exact pure rfl (qq9 h (qfh fun s h => hs s (.inl h))) (fun s h => nW h)
  | buildFull z n p => exact pure rfl (qlH h (qbN fun s h => hs s (.inl h))) (fun s h => nW h)
  | load mv sl l a =>
    have e2 : ∀ s, sl = some s → get s st2.env = get s st.env := fun s e => hs s (.inr (by subst e; simp [OpK.boxR]))
    cases mv with
    | false => exact qto h (s1 (l := []) rfl) e2 hH
    | true => exact qp1 h (s1 (l := []) rfl) e2 hH
  | loadC l a => exact pure rfl (qsh h (s1 (l := []) rfl)) (fun s h => nW h)
  | store sl l a x => exact qsx h (s1 (l := []) rfl) (s1 (l := [a]) rfl) (fun s e => hs s (.inr (by subst e; simp [OpK.boxR]))) hH
  | nilCheck x => exact pure rfl (qnK h (s1 (l := []) rfl)) (fun s h => nW h)
  | bin op kd x y => exact pure rfl (qve h (s1 (l := []) rfl) (s1 (l := [x]) rfl)) (fun s h => nW h)
  | un op x => exact pure rfl (qvr h (s1 (l := []) rfl)) (fun s h => nW h)
  | conv k x => exact pure rfl (qtb h (s1 (l := []) rfl)) (fun s h => nW h)
  | bytes x => exact pure rfl (qr6 h (s1 (l := []) rfl)) (fun s h => nW h)
  | text x => exact pure rfl (qtn h (s1 (l := []) rfl) (hH rfl)) (fun s h => nW h)
  | movS x => exact pure rfl (qtL h (s1 (l := []) rfl)) (fun s h => nW h)
  | mkIfc t x => exact pure rfl (qrU h (s1 (l := []) rfl)) (fun s h => nW h)
  | mkFn f a b => exact pure rfl (qs3 h (qei fun s h => hs s (.inl (by show s ∈ kZ (a ++ b); rw [yp]; simp [h]))) (qei fun s h => hs s (.inl (by show s ∈ kZ (a ++ b); rw [yp]; simp [h])))) (fun s h => nW h)
  | mkMap => exact qrY h (hH rfl)
  | mkSlice z a b => exact qpR h (s1 (l := []) rfl) (s1 (l := [a]) rfl) (hH rfl)
  | bytesRow x => exact qns h (s1 (l := []) rfl) (hH rfl)
  | buildRow z n p => exact qnp h (qbN fun s h => hs s (.inl h)) (hH rfl)
  | buildR l z n p => exact qrG h (qbN fun s h => hs s (.inl h)) (hH rfl)
  | appendR l b x y => exact qpr h (s1 (l := []) rfl) (s1 (l := [x]) rfl) (hH rfl)
  | fz n => exact qvv h (hs n (.inl (by simp [OpK.rds, kZ]))) (hH rfl)
  | assertOk t z x => exact pure rfl (qm5 h (s1 (l := []) rfl)) (fun s h => nW h)
  | sliceS x a b =>
    have e : ∀ s, s ∈ kZ a.toList ∨ s ∈ kZ b.toList → get s st2.env = get s st.env := fun s h => hs s (.inl (by
      show s ∈ kZ (x :: (a.toList ++ b.toList)); rw [jk, yp]; simp only [List.mem_append]; exact .inr h))
    exact pure rfl (qq3 h (s1 (l := []) rfl) (yZ fun s h => e s (.inl h)) (yZ fun s h => e s (.inr h))) (fun s h => nW h)
  | sliceL n x a b =>
    have e : ∀ s, s ∈ kZ a.toList ∨ s ∈ kZ b.toList → get s st2.env = get s st.env := fun s h => hs s (.inl (by
      show s ∈ kZ (x :: (a.toList ++ b.toList)); rw [jk, yp]; simp only [List.mem_append]; exact .inr h))
    exact pure rfl (qq2 h (s1 (l := []) rfl) (yZ fun s h => e s (.inl h)) (yZ fun s h => e s (.inr h))) (fun s h => nW h)
  | sliceA n x a b =>
    have e : ∀ s, s ∈ kZ a.toList ∨ s ∈ kZ b.toList → get s st2.env = get s st.env := fun s h => hs s (.inl (by
      show s ∈ kZ (x :: (a.toList ++ b.toList)); rw [jk, yp]; simp only [List.mem_append]; exact .inr h))
    exact pure rfl (qqq h (s1 (l := []) rfl) (yZ fun s h => e s (.inl h)) (yZ fun s h => e s (.inr h))) (fun s h => nW h)
  | sliceM n x a b m =>
    have e : ∀ s, s ∈ kZ a.toList → get s st2.env = get s st.env := fun s h => hs s (.inl (by
      show s ∈ kZ (m :: b :: x :: a.toList); rw [jk m, jk b, jk x]; simp only [List.mem_append]; exact Or.inr (Or.inr (Or.inr h))))
    exact pure rfl (qrA h (s1 (l := [m, b]) rfl) (yZ fun s h => e s h) (s1 (l := [m]) rfl) (s1 (l := []) rfl)) (fun s h => nW h)
  | stuck => cases h
  | fieldAddr x o l => exact pure rfl (ql4 h (s1 (l := []) rfl)) (fun s h => nW h)
  | field x o l => exact pure rfl (qsH h (s1 (l := []) rfl)) (fun s h => nW h)
  | indexAddr x i n arr => exact pure rfl (qmB h (s1 (l := []) rfl) (s1 (l := [x]) rfl)) (fun s h => nW h)
  | index x i => exact pure rfl (qsF h (s1 (l := []) rfl) (s1 (l := [x]) rfl)) (fun s h => nW h)
  | lookup kk z m k c => exact pure rfl (qq7 h (s1 (l := []) rfl) (s1 (l := [m]) rfl) (hH rfl)) (fun s h => nW h)
  | mapUpdate kk m k x => exact qlz h (s1 (l := []) rfl) (s1 (l := [m]) rfl) (s1 (l := [m, k]) rfl) (hH rfl)
  | extract x i => exact pure rfl (qpT h (fun s h => hs s (.inl h))) (fun s h => nW h)
  | call f l => exact qth hc h (s1 (l := []) rfl) (qei fun s h => hs s (.inl (by show s ∈ kZ (f :: l); rw [jk]; simp [h]))) (hH rfl)
  | panic x =>
    refine pure rfl ?_ (fun s h => nW h)
    have e := s1 (x := x) (l := []) (l' := []) rfl
    simp only [qy] at h
    show r.st = st ∧ qga x st2 = _
    unfold qga at h ⊢
    rw [e]
    split at h
    · rename_i hz; (try simp only [hz])
      simp only [Option.some.injEq] at h
      subst h
      exact ⟨rfl, rfl⟩
    · cases h
  | bi b l =>
    have hW : ∀ s, s ∈ ji l → get s st2.env = get s st.env := fun s h => hs s (.inl (qc3 h))
    have eL : l.map (rd st2.env) = l.map (rd st.env) := qei fun s h => hs s (.inl h)
    simp only [qy, eBi] at h
    cases b with
    | lenS =>
      rcases l with _ | ⟨x, _ | ⟨y, l⟩⟩
      · cases h
      · exact pure rfl (qtz h (s1 (l := []) rfl)) hW
      · cases h
    | lenL =>
      rcases l with _ | ⟨x, _ | ⟨y, l⟩⟩
      · cases h
      · exact pure rfl (qtr h (s1 (l := []) rfl)) hW
      · cases h
    | lenM =>
      rcases l with _ | ⟨x, _ | ⟨y, l⟩⟩
      · cases h
      · exact pure rfl (qtP h (s1 (l := []) rfl) (hH rfl)) hW
      · cases h
    | append size bytes =>
      rcases l with _ | ⟨x, _ | ⟨y, _ | ⟨z, l⟩⟩⟩
      · cases h
      · cases h
      · exact qrH h (s1 (l := []) rfl) (s1 (l := [x]) rfl) (fun s h => hW s (by rw [qme]; simp [h]))
      · cases h
    | max =>
      refine pure (f := fun st => eBi .max l st) rfl ?_ hW
      have h' : (match qkK (l.map (rd st.env)) with | some v => ok v st | none => none) = some r := by cases l <;> exact h
      have g : eBi .max l st2 = (match qkK (l.map (rd st2.env)) with | some v => ok v st2 | none => none) := by cases l <;> rfl
      show r.st = st ∧ eBi .max l st2 = _
      rw [g, eL]
      split at h'
      · rename_i hz; (try simp only [hz]); exact ke h'
      · cases h'
    | min =>
      refine pure (f := fun st => eBi .min l st) rfl ?_ hW
      have h' : (match qhJ (l.map (rd st.env)) with | some v => ok v st | none => none) = some r := by cases l <;> exact h
      have g : eBi .min l st2 = (match qhJ (l.map (rd st2.env)) with | some v => ok v st2 | none => none) := by cases l <;> rfl
      show r.st = st ∧ eBi .min l st2 = _
      rw [g, eL]
      split at h'
      · rename_i hz; (try simp only [hz]); exact ke h'
      · cases h'
end W

/-
  Regions whose order is open: whatever the order, the same.
-/
set_option linter.unusedSimpArgs false
set_option linter.unusedVariables false
namespace W
open Go (IntKind BinOp UnOp Oper)
abbrev El := Op × Bool × List Nat
def qeh (call : Call) (x : El) (st : St) : Option St :=
  match wanted x.1.g st.env with
  | some true => match qy call x.1.k st with
    | some r => bif r.pan || !(r.same || x.2.1) then none else qio (qqL x.1.k) x.2.2 x.1.dst r.v r.st
    | none => none
  | some false => some (put x.1.dst (.tup []) st)
  | none => none
def qgI (call : Call) : List El → St → Option St
  | [], st => some st
  | x :: l, st => match qeh call x st with
    | some st' => qgI call l st'
    | none => none
theorem qcL {call : Call} : ∀ {l : List El} {st : St} {e : Ex} {st' : St}, zg call l st = some (e, st') → e = .nrm ∧ qgI call l st = some st'
  | [], st, e, st', h => by simp only [zg, Option.some.injEq, Prod.mk.injEq] at h; exact ⟨h.1.symm, by rw [← h.2]; rfl⟩
  | (o, s, no) :: l, st, e, st', h => by
    simp only [zg] at h
    simp only [qgI, qeh]
    split at h
    · rename_i hw
      simp only [hw]
      split at h
      · rename_i r hr
        simp only [hr]
        rw [qvD] at h ⊢
        split at h
        · cases h
        · rename_i hp
          rw [if_neg hp]
          split at h
          · rename_i st1 h1
            simp only [h1]
            exact qcL h
          · cases h
      · cases h
    · rename_i hw
      simp only [hw]
      exact qcL h
    · cases h
structure Eqv (st st2 : St) : Prop where
  e : ∀ k, get k st2.env = get k st.env
  H : st2.H = st.H
  lp : ∀ n, yY n st2.env = yY n st.env
theorem Eqv.refl (st : St) : Eqv st st := ⟨fun _ => rfl, rfl, fun _ => rfl⟩
theorem Eqv.trans {a b c : St} (h : Eqv a b) (h' : Eqv b c) : Eqv a c := ⟨fun k => (h'.e k).trans (h.e k), h'.H.trans h.H, fun n => (h'.lp n).trans (h.lp n)⟩
structure FrD (x : El) (st st2 st1 st1' : St) (b : Nat → Bool) : Prop where
  inn : ∀ s, s ∈ x.1.wr → get s st1'.env = get s st1.env
  out1 : ∀ s, s ∉ x.1.wr → get s st1.env = get s st.env
  out2 : ∀ s, s ∉ x.1.wr → get s st1'.env = get s st2.env
  H1 : x.2.1 = false → st1.H = st.H ∧ st1'.H = st2.H
  H2 : st2.H = st.H → st1'.H = st1.H
  lp : ∀ n, yY n st1.env = (yY n st.env && b n)
  lp2 : ∀ n, yY n st1'.env = (yY n st2.env && b n)
  no : ∀ n, qeG n x.2.2 = true → b n = true
theorem qjv {n : Nat} : ∀ {l : List Nat}, n ∈ l → qeG n l = true
  | m :: l, h => by
    simp only [qeG, Bool.or_eq_true]
    rcases List.mem_cons.1 h with e | h
    · subst e; exact .inl (by simp)
    · exact .inr (qjv h)
theorem qle {g : Option (Nat × Bool)} {e e2 : Env} (h : ∀ n w, g = some (n, w) → get n e2 = get n e) : wanted g e2 = wanted g e := by
  cases g with
  | none => rfl
  | some nw => obtain ⟨n, w⟩ := nw; simp only [wanted]; rw [h n w rfl]
theorem qrm {o : Op} {s : Nat} (h : s ∈ kZ o.k.rds ∨ s ∈ o.k.boxR) : s ∈ o.re := by
  unfold Op.re
  simp only [List.mem_append]
  rcases h with h | h
  · exact .inr (.inl h)
  · exact .inr (.inr (.inl h))
theorem qlD {o : Op} {s : Nat} (h : s ∈ o.k.boxW) : s ∈ o.re := by
  unfold Op.re
  simp only [List.mem_append]
  exact .inr (.inr (.inr h))
theorem qrD {o : Op} {n : Nat} {w : Bool} (h : o.g = some (n, w)) : n ∈ o.re := by
  unfold Op.re; rw [h]; simp
theorem frD {call : Call} (hc : yq call) {x : El} {st st2 st1 : St} (h : qeh call x st = some st1) (hfl : x.2.1 = false → x.1.k.free = true) (hs : ∀ s, s ∈ x.1.re → get s st2.env = get s st.env) (hH : x.1.k.looks = true → st2.H = st.H)
    (hbx : ∀ n, n ∈ qea x.1 → yY n st.env = true → yY n st2.env = true) : ∃ st1' b, qeh call x st2 = some st1' ∧ FrD x st st2 st1 st1' b := by
  unfold qeh at h ⊢
  rw [qle (e := st.env) (fun n w hg => hs n (qrD hg))]
  split at h
  · rename_i hw
    (try simp only [hw])
    split at h
    · rename_i r hr
      obtain ⟨r2, hr2, F⟩ := qp6 hc hr (fun s h => hs s (qrm h)) hH
      simp only [hr2]
      rw [qvD] at h ⊢
      rw [F.pan, F.same]
      split at h
      · cases h
      · rename_i hp
        rw [if_neg hp]
        have hsame : x.2.1 = false → r.same = true := fun hf => by
          simp only [Bool.or_eq_true, not_or, Bool.not_eq_true', hf, Bool.or_false] at hp
          simpa using hp.2
        have done : ∀ {v : V} {b : Nat → Bool} {n : Nat}, x.1.dst = some n → (∀ m (e : Env), yY m ((n, v) :: e) = (yY m e && b m)) → (∀ m, qeG m x.2.2 = true → b m = true) →
            FrD x st st2 { r.st with env := (n, v) :: r.st.env } { r2.st with env := (n, v) :: r2.st.env } b := by
          intro v b n hdst hb hno
          have hwr : ∀ s, s ∈ x.1.wr ↔ s = n ∨ s ∈ x.1.k.boxW := fun s => by unfold Op.wr; rw [hdst]; simp
          refine ⟨fun s hs => ?_, fun s hs => ?_, fun s hs => ?_, fun hf => F.H1 (hfl hf) (hsame hf), F.H2, fun m => ?_, fun m => ?_, hno⟩
          · show get s ((n, v) :: r2.st.env) = get s ((n, v) :: r.st.env)
            rw [kD, kD]
            split
            · rfl
            · rename_i hne; exact F.inn s (((hwr s).1 hs).resolve_left hne)
          · rw [hwr, not_or] at hs
            show get s ((n, v) :: r.st.env) = _
            rw [kD, if_neg hs.1]; exact F.out1 s hs.2
          · rw [hwr, not_or] at hs
            show get s ((n, v) :: r2.st.env) = _
            rw [kD, if_neg hs.1]; exact F.out2 s hs.2
          · show yY m ((n, v) :: r.st.env) = _
            rw [hb, F.lp]
          · show yY m ((n, v) :: r2.st.env) = _
            rw [hb, F.lp2]
        unfold qio at h ⊢
        rw [F.v]
        cases hdst : x.1.dst with
        | none =>
          rw [hdst] at h
          simp only [Option.some.injEq] at h
          subst h
          have hwr : ∀ s, s ∈ x.1.wr ↔ s ∈ x.1.k.boxW := fun s => by unfold Op.wr; rw [hdst]; simp
          exact ⟨_, fun _ => true, rfl, fun s hs => F.inn s ((hwr s).1 hs), fun s hs => F.out1 s (fun h => hs ((hwr s).2 h)), fun s hs => F.out2 s (fun h => hs ((hwr s).2 h)), fun hf => F.H1 (hfl hf) (hsame hf), F.H2,
            fun n => by rw [F.lp]; simp, fun n => by rw [F.lp2]; simp, fun _ _ => rfl⟩
        | some n =>
          rw [hdst] at h
          simp only at h ⊢
          split at h
          · rename_i cs hv
            rw [qvD] at h
            split at h
            · rename_i hb
              simp only [Option.some.injEq] at h
              subst h
              simp only [qvB] at hb
              have hb2 : (qqL x.1.k && yY n r2.st.env) = true := by
                rw [qvB]
                refine ⟨hb.1, ?_⟩
                rw [F.lp2]
                exact hbx n (by unfold qea; rw [hb.1, hdst]; simp) (by rw [← F.lp]; exact hb.2)
              rw [hb2]
              simp only [cond_true]
              exact ⟨_, fun _ => true, rfl, done hdst (fun m e => by simp [yY]) (fun _ _ => rfl)⟩
            · cases h
          · rename_i m o hv
            rw [qvD] at h
            split at h
            · cases h
            · rename_i hb
              simp only [Option.some.injEq] at h
              subst h
              have hb' : qeG m x.2.2 = false := by simpa using hb
              simp only [hb', cond_false]
              refine ⟨_, fun k => !Nat.beq m k, rfl, done hdst (fun k e => by simp only [yY]; rw [Bool.and_comm]) (fun k hk => ?_)⟩
              cases hq : qvG m k with
              | false => rfl
              | true =>
                have := qvJ hq
                subst this
                rw [hb'] at hk; cases hk
          · rename_i h1 h2
            simp only [Option.some.injEq] at h
            subst h
            refine ⟨_, fun _ => true, rfl, ?_⟩
            exact done hdst (fun m e => by rw [qpW (fun k o => h2 k o)]; simp) (fun _ _ => rfl)
    · cases h
  · rename_i hw
    (try simp only [hw])
    simp only [Option.some.injEq] at h
    subst h
    cases hdst : x.1.dst with
    | none =>
      refine ⟨_, fun _ => true, rfl, fun s hs' => ?_, fun s _ => rfl, fun s _ => rfl, fun _ => ⟨rfl, rfl⟩, fun h => h, fun n => by simp [put], fun n => by simp [put], fun _ _ => rfl⟩
      unfold Op.wr at hs'
      rw [hdst] at hs'
      exact hs s (qlD (by simpa using hs'))
    | some n =>
      have hwr : ∀ s, s ∈ x.1.wr ↔ s = n ∨ s ∈ x.1.k.boxW := fun s => by unfold Op.wr; rw [hdst]; simp
      refine ⟨_, fun _ => true, rfl, fun s hs' => ?_, fun s hs' => ?_, fun s hs' => ?_, fun _ => ⟨rfl, rfl⟩, fun h => h, fun m => by simp [put, yY], fun m => by simp [put, yY], fun _ _ => rfl⟩
      · show get s ((n, .tup []) :: st2.env) = get s ((n, .tup []) :: st.env)
        rw [kD, kD]
        split
        · rfl
        · rename_i hne; exact hs s (qlD (((hwr s).1 hs').resolve_left hne))
      · rw [hwr, not_or] at hs'
        show get s ((n, .tup []) :: st.env) = _
        rw [kD, if_neg hs'.1]
      · rw [hwr, not_or] at hs'
        show get s ((n, .tup []) :: st2.env) = _
        rw [kD, if_neg hs'.1]
  · cases h
theorem qid {a b : List Nat} (h : meets a b = false) : ∀ n, n ∈ a → n ∉ b := by
  intro n hn hb
  simp only [meets, List.any_eq_false] at h
  exact h n hn (by simpa using hb)
structure Apart (o o' : Op) : Prop where
  f1 : o.k.free = true ∨ (o'.k.looks = false ∧ o'.k.free = true)
  f2 : o'.k.free = true ∨ (o.k.looks = false ∧ o.k.free = true)
  w1 : ∀ n, n ∈ o.wr → n ∉ o'.wr ∧ n ∉ o'.re
  w2 : ∀ n, n ∈ o'.wr → n ∉ o.wr ∧ n ∉ o.re
theorem qiU {o o' : Op} (h : apart o o' = true) : Apart o o' := by
  simp only [apart, qvB, Bool.not_eq_true', Bool.and_eq_false_iff, Bool.or_eq_false_iff, Bool.not_eq_false'] at h
  obtain ⟨⟨⟨h1, h2⟩, h3⟩, h4⟩ := h
  refine ⟨by rcases h1 with h | h; exact .inl h; exact .inr h, by rcases h2 with h | h; exact .inl h; exact .inr h, fun n hn => ?_, fun n hn => ?_⟩
  · have := qid h3 n hn
    simpa [not_or] using this
  · have := qid h4 n hn
    simpa [not_or] using this
theorem commute {call : Call} (hc : yq call) {x y : El} {st st1 st2 : St} (hx : qeh call x st = some st1) (hy : qeh call y st1 = some st2) (lx : x.2.1 = false → x.1.k.free = true) (ly : y.2.1 = false → y.1.k.free = true) (fx : x.2.1 = false ∨ (y.1.k.looks = false ∧ y.2.1 = false)) (fy : y.2.1 = false ∨ (x.1.k.looks = false ∧ x.2.1 = false)) (hap : Apart x.1 y.1)
    (hno : ∀ n, n ∈ qea x.1 → qeG n y.2.2 = true) : ∃ st1' st2', qeh call y st = some st1' ∧ qeh call x st1' = some st2' ∧ Eqv st2 st2' := by
  -- x, once more in its own state: what it changes
  obtain ⟨_, bx, hx0, Fx⟩ := frD hc (st2 := st) hx lx (fun _ _ => rfl) (fun _ => rfl) (fun _ _ h => h)
  rw [hx] at hx0
  cases hx0
  -- y ahead
  obtain ⟨st1', by_, hy', Fy⟩ := frD hc (st2 := st) hy ly (fun s hs => (Fx.out1 s (fun h => (hap.w1 s h).2 hs)).symm) (fun hl => by
      rcases fx with h | h
      · exact (Fx.H1 h).1.symm
      · rw [h.1] at hl; cases hl) (fun n hn h => by
      rw [Fx.lp] at h; simp only [qvB] at h; exact h.1)
  -- x behind it
  obtain ⟨st2', b3, hx', Fx'⟩ := frD hc (st2 := st1') hx lx (fun s hs => Fy.out2 s (fun h => (hap.w2 s h).2 hs)) (fun hl => by
      rcases fy with h | h
      · exact (Fy.H1 h).2
      · rw [h.1] at hl; cases hl) (fun n hn h => by
      rw [Fy.lp2, h, Fy.no n (hno n hn)]; rfl)
  refine ⟨st1', st2', hy', hx', fun s => ?_, ?_, fun n => ?_⟩
  · by_cases h1 : s ∈ x.1.wr
    · have h2 : s ∉ y.1.wr := (hap.w1 s h1).1
      rw [Fx'.inn s h1, Fy.out1 s h2]
    · rw [Fx'.out2 s h1]
      by_cases h2 : s ∈ y.1.wr
      · rw [Fy.inn s h2]
      · rw [Fy.out2 s h2, Fy.out1 s h2, Fx.out1 s h1]
  · rcases fx with h | h
    · -- x leaves the objects alone
      rw [(Fx'.H1 h).2]
      exact Fy.H2 (Fx.H1 h).1.symm
    · rw [(Fy.H1 h.2).1]
      exact Fx'.H2 (Fy.H1 h.2).2
  · rw [Fx'.lp2, Fy.lp2, Fy.lp, Fx.lp]
    -- what x adds is the same
    have e : (yY n st.env && bx n) = (yY n st.env && b3 n) := by rw [← Fx.lp, ← Fx'.lp]
    cases h1 : yY n st.env with
    | false => simp
    | true =>
      rw [h1] at e
      simp only [Bool.true_and] at e ⊢
      rw [e, Bool.and_comm]
theorem qpL {call : Call} (hc : yq call) {x : El} {st st2 st1 : St} (h : qeh call x st = some st1) (lx : x.2.1 = false → x.1.k.free = true) (he : Eqv st st2) : ∃ st1', qeh call x st2 = some st1' ∧ Eqv st1 st1' := by
  obtain ⟨st1', b, h1, F⟩ := frD hc h lx (fun s _ => he.e s) (fun _ => he.H) (fun n _ h => by rw [he.lp]; exact h)
  refine ⟨st1', h1, fun s => ?_, F.H2 he.H, fun n => by rw [F.lp, F.lp2, he.lp]⟩
  by_cases hs : s ∈ x.1.wr
  · exact F.inn s hs
  · rw [F.out2 s hs, F.out1 s hs, he.e]
theorem qmy {call : Call} (hc : yq call) : ∀ {l : List El} {st st2 stF : St}, (∀ x ∈ l, x.2.1 = false → x.1.k.free = true) → qgI call l st = some stF → Eqv st st2 → ∃ stF2, qgI call l st2 = some stF2 ∧ Eqv stF stF2
  | [], st, st2, stF, _, h, he => by simp only [qgI, Option.some.injEq] at h; subst h; exact ⟨st2, rfl, he⟩
  | x :: l, st, st2, stF, hf, h, he => by
    simp only [qgI] at h ⊢
    split at h
    · rename_i st1 h1
      obtain ⟨st1', h2, he2⟩ := qpL hc h1 (hf x (by simp)) he
      simp only [h2]
      exact qmy hc (fun y hy => hf y (by simp [hy])) h he2
    · cases h
theorem qmD {call : Call} (hc : yq call) {x : El} {post : List El} : ∀ {pre : List El} {st stF : St}, (∀ y ∈ pre ++ x :: post, y.2.1 = false → y.1.k.free = true) → (∀ y ∈ pre, (y.2.1 = false ∨ (x.1.k.looks = false ∧ x.2.1 = false)) ∧ (x.2.1 = false ∨ (y.1.k.looks = false ∧ y.2.1 = false))) → (∀ y ∈ pre, Apart y.1 x.1 ∧ ∀ n, n ∈ qea y.1 → qeG n x.2.2 = true) →
    qgI call (pre ++ x :: post) st = some stF → ∃ st1 stF', qeh call x st = some st1 ∧ qgI call (pre ++ post) st1 = some stF' ∧ Eqv stF stF'
  | [], st, stF, _, hf, _, h => by
    simp only [List.nil_append, qgI] at h
    split at h
    · rename_i st1 h1
      exact ⟨st1, stF, h1, h, Eqv.refl _⟩
    · cases h
  | y :: pre, st, stF, hl, hf, ha, h => by
    simp only [List.cons_append, qgI] at h
    split at h
    · rename_i sty hy
      obtain ⟨stx, stF1, h1, h2, h3⟩ := qmD hc (pre := pre) (fun z hz => hl z (by simp only [List.cons_append, List.mem_cons]; exact .inr hz)) (fun z hz => hf z (by simp [hz])) (fun z hz => ha z (by simp [hz])) h
      obtain ⟨st1', st2', h4, h5, h6⟩ := commute hc hy h1 (hl y (by simp)) (hl x (by simp)) (hf y (by simp)).1 (hf y (by simp)).2 (ha y (by simp)).1 (ha y (by simp)).2
      obtain ⟨stF2, h7, h8⟩ := qmy hc (fun z hz => hl z (by
        simp only [List.cons_append, List.mem_cons, List.mem_append] at hz ⊢
        rcases hz with h | h
        · exact .inr (.inl h)
        · exact .inr (.inr (.inr h)))) h2 h6
      refine ⟨st1', stF2, h4, ?_, h3.trans h8⟩
      simp only [List.cons_append, qgI, h5]
      exact h7
    · cases h
end W

/-
  Regions whose order is open: simulated.
-/
set_option linter.unusedSimpArgs false
set_option linter.unusedVariables false
namespace W
open Go (World Value Addr IntKind Program TypeId FuncId Operand Act Oper Next Result Sem BinOp UnOp Ending Exit Code Func Fence)
def qbi (acc : Array Nat) (o : Oper) : Array Nat :=
  acc.push (o.after.foldl (fun s e => if Go.Region.binds .any e then s ||| 2 ^ e.on ||| acc.getD e.on 0 else s) 0)
theorem qoC (ops : Array Oper) : Go.Region.before ops = ops.toList.foldl qbi #[] := by
  unfold Go.Region.before
  rw [← Array.foldl_toList]
  rfl
theorem qhm (acc : Array Nat) : ∀ (l : List Go.Edge) (s j : Nat), (l.foldl (fun s e => if Go.Region.binds .any e then s ||| 2 ^ e.on ||| acc.getD e.on 0 else s) s).testBit j = true →
    s.testBit j = true ∨ ∃ e ∈ l, Go.Region.binds .any e = true ∧ (e.on = j ∨ (acc.getD e.on 0).testBit j = true)
  | [], s, j, h => .inl h
  | e :: l, s, j, h => by
    simp only [List.foldl_cons] at h
    rcases qhm acc l _ j h with h | ⟨e', he', hb, hj⟩
    · split at h
      · rename_i hb
        simp only [Nat.testBit_or, Bool.or_eq_true] at h
        rcases h with (h | h) | h
        · exact .inl h
        · rw [Nat.testBit_two_pow] at h
          exact .inr ⟨e, by simp, hb, .inl (by simpa using h)⟩
        · exact .inr ⟨e, by simp, hb, .inr h⟩
      · exact .inl h
    · exact .inr ⟨e', by simp [he'], hb, hj⟩
theorem qla : ∀ (l : List Oper) (acc : Array Nat) (i : Nat), i < acc.size → (l.foldl qbi acc).getD i 0 = acc.getD i 0
  | [], acc, i, _ => rfl
  | o :: l, acc, i, h => by
    simp only [List.foldl_cons]
    rw [qla l _ i (by simp [qbi]; omega)]
    simp only [qbi, Array.getD_eq_getD_getElem?, Array.getElem?_push]
    rw [if_neg (by omega)]
theorem qnW : ∀ (l : List Oper) (acc : Array Nat) (k : Nat) (o : Oper), l[k]? = some o → ∀ j, ((l.foldl qbi acc).getD (acc.size + k) 0).testBit j = true →
    ∃ e ∈ o.after.toList, Go.Region.binds .any e = true ∧ (e.on = j ∨ ((l.foldl qbi acc).getD e.on 0).testBit j = true)
  | [], acc, k, o, h, j, _ => by simp at h
  | o' :: l, acc, 0, o, h, j, hb => by
    simp at h; subst h
    simp only [List.foldl_cons, Nat.add_zero] at hb
    rw [qla l _ acc.size (by simp [qbi])] at hb
    have e0 : (qbi acc o').getD acc.size 0 = o'.after.foldl (fun s e => if Go.Region.binds .any e then s ||| 2 ^ e.on ||| acc.getD e.on 0 else s) 0 := by
      simp [qbi]
    rw [e0, ← Array.foldl_toList] at hb
    rcases qhm acc _ _ j hb with h | ⟨e, he, hbi, hj⟩
    · simp at h
    · refine ⟨e, he, hbi, hj.imp id (fun h => ?_)⟩
      have hlt : e.on < acc.size := by
        rcases Nat.lt_or_ge e.on acc.size with h1 | h1
        · exact h1
        · rw [Array.getD_eq_getD_getElem?, Array.getElem?_eq_none (by omega)] at h
          simp at h
      rw [qla (o' :: l) acc e.on hlt]
      exact h
  | o' :: l, acc, k + 1, o, h, j, hb => by
    simp only [List.foldl_cons] at hb ⊢
    have hs : (qbi acc o').size = acc.size + 1 := by simp [qbi]
    have := qnW l (qbi acc o') k o (by simpa using h) j (by rw [hs, show acc.size + 1 + k = acc.size + (k + 1) by omega]; exact hb)
    exact this
theorem qmh {ops : Array Oper} {i : Nat} {o : Oper} (h : ops[i]? = some o) {j : Nat} (hb : ((Go.Region.before ops).getD i 0).testBit j = true) :
    ∃ e ∈ o.after.toList, Go.Region.binds .any e = true ∧ (e.on = j ∨ ((Go.Region.before ops).getD e.on 0).testBit j = true) := by
  rw [qoC] at hb ⊢
  exact qnW ops.toList #[] i o (by simpa using h) j (by simpa using hb)
section
variable {P : Program} {M : Maps} {call : Call}
theorem qft {A : Ann} {rid : Nat} {ops : Array Oper} : ∀ {rest : List Oper} {i : Nat} {l : List Op}, yL M P A rid ops i rest = some l → l.length = rest.length ∧ ∀ k o, rest[k]? = some o → ∃ q, l[k]? = some q ∧ q.dst = o.dst ∧ gOf ops o.guard = some q.g ∧
    q.k = qbg (jZ M P A (fun k' => (mvs A rid (i + k)).contains k') (match o.dst with | some d => A.loc.contains d | none => false) o.op)
  | [], i, l, h => by simp only [yL, Option.some.injEq] at h; subst h; exact ⟨rfl, fun k o h => by simp at h⟩
  | o' :: rest, i, l, h => by
    simp only [yL] at h
    split at h
    · rename_i g' r hg hr
      simp only [Option.some.injEq] at h
      subst h
      obtain ⟨h1, h2⟩ := qft hr
      refine ⟨by simp [h1], fun k o ho => ?_⟩
      cases k with
      | zero =>
        simp at ho
        subst ho
        exact ⟨_, rfl, rfl, hg, rfl⟩
      | succ k =>
        obtain ⟨q, q1, q2, q3, q4⟩ := h2 k o (by simpa using ho)
        exact ⟨q, by simpa using q1, q2, q3, by rw [show i + (k + 1) = i + 1 + k by omega]; exact q4⟩
    · cases h
theorem qne {k : OpK} (h : k.looks = false) : k.isCall = false := by cases k <;> first | rfl | cases h
theorem qjc {ops : Array Oper} {l : List Op} {o o' : Op} {i j : Nat} (ha : o.k.free = true ∨ (o'.k.looks = false ∧ o'.k.free = true)) (s1 : qc9 ops l.length i = false) (s2 : qc9 ops l.length j = false) (hc : qen ops l i = true → o'.k.looks = false ∧ o'.k.free = true) :
    qa2 ops l o i = false ∨ (o'.k.looks = false ∧ qa2 ops l o' j = false) := by
  have right : o'.k.looks = false ∧ o'.k.free = true → o'.k.looks = false ∧ qa2 ops l o' j = false := fun h => ⟨h.1, by
    unfold qa2
    rw [h.2, s2, qne h.1]; rfl⟩
  rcases ha with ha | ha
  · cases h : qen ops l i with
    | true => exact .inr (right (hc h))
    | false =>
      left
      unfold qa2
      rw [ha, s1, h]; simp
  · exact .inr (right ha)
def qb1 (ops : Array Oper) (l : List Op) (i : Nat) : El := (l.getD i default, qa2 ops l (l.getD i default) i, qer ops l i)
theorem qog (ops : Array Oper) (l : List Op) : (l.zipIdx.map fun (o, i) => (o, qa2 ops l o i, qer ops l i)) = (List.range l.length).map (qb1 ops l) := by
  apply List.ext_getElem?
  intro k
  simp only [List.getElem?_map, List.getElem?_zipIdx, List.getElem?_range']
  by_cases hk : k < l.length
  · rw [List.getElem?_range hk]
    simp [hk, qb1]
  · rw [List.getElem?_eq_none (by omega), List.getElem?_eq_none (by simp; omega)]
    rfl
theorem qia {n : Nat} : ∀ {e : Env}, yY n e = true → qcl n e = e
  | [], _ => rfl
  | (m, v) :: e, h => by
    have h2 : yY n e = true := by
      cases v <;> first | exact h | (simp only [yY, qvB] at h; exact h.2)
    simp only [qcl, qia h2]
    cases v with
    | lp t o =>
      simp only [yY, qvB, Bool.not_eq_true'] at h
      simp [h.1]
    | _ => rfl
theorem qrd {bx : Bool} {no : List Nat} {dst : Option Nat} {v : V} {st st' : St} (h : qio bx no dst v st = some st') : put dst v st = st' := by
  unfold qio at h
  cases dst with
  | none => simpa [put] using h
  | some n =>
    simp only at h
    split at h
    · rw [qvD] at h
      split at h
      · rename_i hb
        simp only [Option.some.injEq] at h
        simp only [qvB] at hb
        rw [← h]
        simp only [put, qia hb.2]
      · cases h
    · rw [qvD] at h
      split at h
      · cases h
      · simpa [put] using h
    · rename_i hb _
      simp only [Option.some.injEq] at h
      rw [← h, yb (fun cs e => hb cs e)]
def rem (n : Nat) (listed : Array Bool) : List Nat := (List.range n).filter fun i => !listed.getD i true
theorem qeD (n : Nat) (listed : Array Bool) : (rem n listed).Pairwise (· < ·) := (List.pairwise_lt_range).filter _
theorem qbf {n i : Nat} {listed : Array Bool} : i ∈ rem n listed ↔ i < n ∧ listed.getD i true = false := by
  simp [rem, List.mem_filter]
theorem qnS {n i : Nat} {listed : Array Bool} (hs : listed.size = n) {pre post : List Nat} (h : rem n listed = pre ++ i :: post) : rem n (listed.setIfInBounds i true) = pre ++ post := by
  have hi : i < listed.size := by
    have : i ∈ rem n listed := by rw [h]; simp
    rw [hs]; exact (qbf.1 this).1
  have e : rem n (listed.setIfInBounds i true) = (rem n listed).filter (fun k => k != i) := by
    unfold rem
    rw [List.filter_filter]
    apply List.filter_congr
    intro k hk
    by_cases hki : k = i
    · subst hki; simp [hi]
    · have : i ≠ k := fun e => hki e.symm
      simp [Array.getElem?_setIfInBounds_ne this, hki]
  rw [e, h]
  have hp := qeD n listed
  rw [h] at hp
  rw [List.pairwise_append] at hp
  obtain ⟨_, h2, h3⟩ := hp
  rw [List.pairwise_cons] at h2
  rw [List.filter_append, List.filter_cons]
  simp only [bne_self_eq_false, qvA, if_false]
  congr 1
  · rw [List.filter_eq_self]
    intro k hk
    have := h3 k hk i (by simp)
    simp; omega
  · rw [List.filter_eq_self]
    intro k hk
    have := h2.1 k hk
    simp; omega
theorem qmm {ops : Array Oper} (hlex : qmV ops = true) {listed : Array Bool} (hs : listed.size = ops.size) (hr : Go.Region.ready .any ops listed = []) : rem ops.size listed = [] := by
  cases hq : rem ops.size listed with
  | nil => rfl
  | cons i t =>
    exfalso
    have hi : i ∈ rem ops.size listed := by rw [hq]; simp
    obtain ⟨h1, h2⟩ := qbf.1 hi
    have : i ∈ Go.Region.ready .any ops listed := by
      rw [Go.mem_ready]
      refine ⟨h2, ops[i], by simp [h1], fun e he hb => ?_⟩
      simp only [qmV, List.all_eq_true] at hlex
      have h3 := hlex (ops[i], i) (by rw [List.mem_zipIdx_iff_getElem?]; simp [h1]) e (by simpa using he)
      simp only [hb, qvN, Bool.false_or, Nat.blt_eq] at h3
      -- it's smaller: listed
      cases hl : listed.getD e.on false with
      | true => rfl
      | false =>
        exfalso
        have : e.on ∈ rem ops.size listed := qbf.2 ⟨by omega, by
          have hlt : e.on < listed.size := by omega
          simp only [Array.getD_eq_getD_getElem?, Array.getElem?_eq_getElem hlt, Option.getD_some] at hl ⊢
          exact hl⟩
        have hp := qeD ops.size listed
        rw [hq] at this hp
        rcases List.mem_cons.1 this with h | h
        · omega
        · have := (List.pairwise_cons.1 hp).1 _ h; omega
    rw [hr] at this
    cases this
theorem qhF {ops : Array Oper} {listed : Array Bool} (hrem : rem ops.size listed = []) : Go.Region.ready .any ops listed = [] := by
  cases hq : Go.Region.ready .any ops listed with
  | nil => rfl
  | cons i t =>
    exfalso
    have hi : i ∈ Go.Region.ready .any ops listed := by rw [hq]; simp
    rw [Go.mem_ready] at hi
    obtain ⟨h1, o, ho, _⟩ := hi
    have : i ∈ rem ops.size listed := qbf.2 ⟨(Array.getElem?_eq_some_iff.1 ho).1, h1⟩
    rw [hrem] at this; cases this
theorem qou (hcs : yc P M call) (hlo : yq call) {F : Fence} (hF : WF F) {m : Nat} {A : Ann} {rid nt : Nat} {ops : Array Oper} {l : List Op} (htr : yL M P A rid ops 0 ops.toList = some l) (hlex : qmV ops = true) (hord : qeu ops l = true)
    (hdst : ∀ o ∈ ops.toList, ∀ d, o.dst = some d → d < nt) (hnd : ∀ o ∈ ops.toList, F.round = none ∨ qdg o.op) (tl : List Nat) (htl : ∀ z ∈ tl, ∀ j, j < z → ((Go.Region.before ops).getD z 0).testBit j = true) : ∀ (fuel : Nat) (front : List Nat) (listed : Array Bool), listed.size = ops.size → rem ops.size listed = front ++ tl → front.length = fuel →
      (∀ x, listed.getD x false = true → ∀ j, ((Go.Region.before ops).getD x 0).testBit j = true → listed.getD j false = true) →
    ∀ (st stF : St) (g : Gh) (w : World) (β : Nat → Nat) (a : Act), nt ≤ a.tmps.size → qgI call (front.map (qb1 ops l)) st = some stF → Rel M g w β st a.tmps →
    ∀ Q : Exit → Act → World → Prop, (∀ listed' a' w' st', listed'.size = ops.size → rem ops.size listed' = tl → (∀ x, listed'.getD x false = true → ∀ j, ((Go.Region.before ops).getD x 0).testBit j = true → listed'.getD j false = true) → Eqv stF st' → Good True M g w a st' a' w' → Go.wpAnyIn F m P .any ops Q tl.length listed' a' w') → Go.wpAnyIn F m P .any ops Q (fuel + tl.length) listed a w := by
  obtain ⟨hlen, hget⟩ := qft htr
  have hll : l.length = ops.size := by simpa using hlen
  have noReady := fun listed => qmm (listed := listed) hlex
  intro fuel
  induction fuel with
  | zero =>
    intro front listed hs hrem hf hcl st stF g w β a hnt hrun hR Q hQ
    have hfr : front = [] := List.eq_nil_of_length_eq_zero hf
    subst hfr
    simp only [qvT, qgI, Option.some.injEq] at hrun
    subst hrun
    rw [qvF]
    exact hQ listed a w st hs (by simpa using hrem) hcl (Eqv.refl _) ⟨⟨g, β, hR, Evo.refl g w, .refl⟩, rfl, fun _ => rfl⟩
  | succ fuel ih =>
    intro front listed hs hrem0 hf hcl st stF g w β a hnt hrun hR Q hQ
    rw [Nat.succ_add]
    refine ⟨fun hr => ?_, fun i hi => ?_⟩
    · have := noReady listed hs hr
      rw [hrem0] at this
      have : front = [] := (List.append_eq_nil_iff.1 this).1
      rw [this] at hf; simp at hf
    · rw [Go.mem_ready] at hi
      obtain ⟨h1, o, ho, hpre⟩ := hi
      have hilt := (Array.getElem?_eq_some_iff.1 ho).1
      have him : i ∈ rem ops.size listed := qbf.2 ⟨hilt, h1⟩
      -- what stands before i is listed
      have hbef : ∀ j, ((Go.Region.before ops).getD i 0).testBit j = true → listed.getD j false = true := fun j hj => by
        obtain ⟨e, he, hb, hj⟩ := qmh ho hj
        have hl := hpre e (by simpa using he) hb
        rcases hj with rfl | hj
        · exact hl
        · exact hcl _ hl j hj
      have hif : i ∈ front := by
        rw [hrem0, List.mem_append] at him
        refine him.resolve_right (fun hz => ?_)
        cases front with
        | nil => simp at hf
        | cons k front =>
          have hkm : k ∈ rem ops.size listed := by rw [hrem0]; simp
          have hsort := qeD ops.size listed
          rw [hrem0, List.pairwise_append] at hsort
          have hk := htl i hz k (hsort.2.2 k (by simp) i hz)
          have h3 := hbef k hk
          have h2 := (qbf.1 hkm).2
          have hlt : k < listed.size := by rw [hs]; exact (qbf.1 hkm).1
          simp only [Array.getD_eq_getD_getElem?, Array.getElem?_eq_getElem hlt, Option.getD_some] at h3 h2
          rw [h3] at h2; cases h2
      obtain ⟨pre, post, hfr⟩ := List.append_of_mem hif
      have hrem : rem ops.size listed = pre ++ i :: (post ++ tl) := by rw [hrem0, hfr]; simp
      have hwhole : front.map (qb1 ops l) = pre.map (qb1 ops l) ++ qb1 ops l i :: post.map (qb1 ops l) := by rw [hfr]; simp
      rw [hwhole] at hrun
      obtain ⟨q, hq1, hq2, hq3, hq4⟩ := hget i o (by simpa using ho)
      have hel : (qb1 ops l i).1 = q := by simp [qb1, hq1]
      have hsorted := qeD ops.size listed
      obtain ⟨st1, stF', hstep, hrest, heqv⟩ := qmD hlo (x := qb1 ops l i) (pre := pre.map (qb1 ops l)) (post := post.map (qb1 ops l)) (fun y hy => by
          have : ∃ k, y = qb1 ops l k := by
            simp only [List.mem_append, List.mem_map, List.mem_cons] at hy
            rcases hy with ⟨k, _, h⟩ | h | ⟨k, _, h⟩
            · exact ⟨k, h.symm⟩
            · exact ⟨i, h⟩
            · exact ⟨k, h.symm⟩
          obtain ⟨k, rfl⟩ := this
          intro hf
          have hf : qa2 ops l (l.getD k default) k = false := hf
          unfold qa2 at hf
          simp only [Bool.or_eq_false_iff, Bool.not_eq_false'] at hf
          exact hf.1.1) (fun y hy => by
          obtain ⟨k, hk, rfl⟩ := List.mem_map.1 hy
          have hkm : k ∈ rem ops.size listed := by rw [hrem]; simp [hk]
          have hki : k < i := by
            rw [hrem, List.pairwise_append] at hsorted
            exact hsorted.2.2 k hk i (by simp)
          have hnb : ((Go.Region.before ops).getD i 0).testBit k = false := by
            cases hq : ((Go.Region.before ops).getD i 0).testBit k with
            | false => rfl
            | true =>
              have := hbef k hq
              have h2 := (qbf.1 hkm).2
              have hlt : k < listed.size := by rw [hs]; exact (qbf.1 hkm).1
              simp only [Array.getD_eq_getD_getElem?, Array.getElem?_eq_getElem hlt, Option.getD_some] at this h2
              rw [this] at h2; cases h2
          have s1 : qc9 ops l.length i = false := by
            unfold qc9
            rw [List.all_eq_false]
            refine ⟨k, by rw [List.mem_range]; omega, ?_⟩
            have b1 : qvG k i = false := by
              cases hq : qvG k i with
              | false => rfl
              | true => have := qvJ hq; omega
            have b2 : Nat.blt k i = true := by simpa using hki
            rw [b1, b2, cond_true, hnb]; simp
          have s2 : qc9 ops l.length k = false := by
            unfold qc9
            rw [List.all_eq_false]
            refine ⟨i, by rw [List.mem_range]; omega, ?_⟩
            have b1 : qvG i k = false := by
              cases hq : qvG i k with
              | false => rfl
              | true => have := qvJ hq; omega
            have b2 : Nat.blt i k = false := by
              cases hq : Nat.blt i k with
              | false => rfl
              | true => have : i < k := by simpa using hq
                        omega
            rw [b1, b2, cond_false, hnb]; simp
          have hkl : k < l.length := by rw [hll]; omega
          have hil : i < l.length := by rw [hll]; omega
          have ek : (qb1 ops l k).1 = l[k] := by simp [qb1, hkl]
          have ei : (qb1 ops l i).1 = l[i] := by simp [qb1, hil]
          have fk : (qb1 ops l k).2.1 = qa2 ops l l[k] k := by simp [qb1, hkl]
          have fi : (qb1 ops l i).2.1 = qa2 ops l l[i] i := by simp [qb1, hil]
          have hbl : Nat.blt k i = true := by simpa using hki
          have hbl2 : Nat.blt i k = false := by
            cases hq : Nat.blt i k with
            | false => rfl
            | true => have : i < k := by simpa using hq
                      omega
          have hne1 : qvG i k = false := by
            cases hq : qvG i k with
            | false => rfl
            | true => have := qvJ hq; omega
          have hne2 : qvG k i = false := by
            cases hq : qvG k i with
            | false => rfl
            | true => have := qvJ hq; omega
          have hap : Apart l[k] l[i] := by
            simp only [qeu, List.all_eq_true] at hord
            have := hord (l[k], k) (by rw [List.mem_zipIdx_iff_getElem?]; simp [hkl]) (l[i], i) (by rw [List.mem_zipIdx_iff_getElem?]; simp [hil])
            simp only [Bool.or_eq_true, Bool.not_eq_true', hnb, qvA, or_false] at this
            refine qiU (this.resolve_left ?_)
            rw [hbl]; simp
          have c1 : qen ops l k = true → l[i].k.looks = false ∧ l[i].k.free = true := fun h => by
            simp only [qen, List.all_eq_true] at h
            have := h (l[i], i) (by rw [List.mem_zipIdx_iff_getElem?]; simp [hil])
            rw [hne1, hbl2, cond_false, hnb] at this
            simpa using this
          have c2 : qen ops l i = true → l[k].k.looks = false ∧ l[k].k.free = true := fun h => by
            simp only [qen, List.all_eq_true] at h
            have := h (l[k], k) (by rw [List.mem_zipIdx_iff_getElem?]; simp [hkl])
            rw [hne2, hbl, cond_true, hnb] at this
            simpa using this
          have e1 : (qb1 ops l k).1.k = l[k].k := by rw [ek]
          have e2 : (qb1 ops l i).1.k = l[i].k := by rw [ei]
          rw [e1, e2, fk, fi]
          exact ⟨qjc hap.f1 s2 s1 c1, qjc hap.f2 s1 s2 c2⟩) (fun y hy => by
          obtain ⟨k, hk, rfl⟩ := List.mem_map.1 hy
          have hkm : k ∈ rem ops.size listed := by rw [hrem]; simp [hk]
          have hki : k < i := by
            rw [hrem, List.pairwise_append] at hsorted
            exact hsorted.2.2 k hk i (by simp)
          have hnb : ((Go.Region.before ops).getD i 0).testBit k = false := by
            cases hq : ((Go.Region.before ops).getD i 0).testBit k with
            | false => rfl
            | true =>
              have := hbef k hq
              have h2 := (qbf.1 hkm).2
              have hlt : k < listed.size := by rw [hs]; exact (qbf.1 hkm).1
              simp only [Array.getD_eq_getD_getElem?, Array.getElem?_eq_getElem hlt, Option.getD_some] at this h2
              rw [this] at h2; cases h2
          have hkl : k < l.length := by rw [hll]; omega
          have hil : i < l.length := by rw [hll]; omega
          have ek : (qb1 ops l k).1 = l[k] := by simp [qb1, hkl]
          have ei : (qb1 ops l i).1 = l[i] := by simp [qb1, hil]
          refine ⟨?_, fun n hn => ?_⟩
          · simp only [qeu, List.all_eq_true] at hord
            have := hord (l[k], k) (by rw [List.mem_zipIdx_iff_getElem?]; simp [hkl]) (l[i], i) (by rw [List.mem_zipIdx_iff_getElem?]; simp [hil])
            simp only [Bool.or_eq_true, Bool.not_eq_true', hnb, qvA, or_false] at this
            rw [ek, ei]
            refine qiU (this.resolve_left ?_)
            have hbl : Nat.blt k i = true := by simpa using hki
            rw [hbl]; simp
          · refine qjv ?_
            show n ∈ qer ops l i
            unfold qer
            rw [List.mem_flatMap]
            refine ⟨(l[k], k), by rw [List.mem_zipIdx_iff_getElem?]; simp [hkl], ?_⟩
            simp only [hnb, qvA, if_false]
            rw [ek] at hn
            exact hn) hrun
      have hrem' := qnS hs hrem
      have hf' : (pre ++ post).length = fuel := by
        rw [hfr] at hf; simp at hf ⊢; omega
      have hcl' : ∀ x, (listed.setIfInBounds i true).getD x false = true → ∀ j, ((Go.Region.before ops).getD x 0).testBit j = true → (listed.setIfInBounds i true).getD j false = true := by
        intro x hx j hj
        by_cases hxi : i = x
        · subst hxi; exact Go.getD_set_true (hbef j hj)
        · rw [Go.getD_set_ne false hxi] at hx
          exact Go.getD_set_true (hcl x hx j hj)
      have go : ∀ {g1 : Gh} {w1 : World} {β1 : Nat → Nat} {a1 : Act}, a1.tmps.size = a.tmps.size → DefOk g1 w w1 a.defers a1.defers → a1.defers = a.defers → Rel M g1 w1 β1 st1 a1.tmps → Evo g w g1 w1 → Go.wpAnyIn F m P .any ops Q (fuel + tl.length) (listed.setIfInBounds i true) a1 w1 := by
        intro g1 w1 β1 a1 hs1 hd1 hq1 hR1 hE1
        refine ih (pre ++ post) _ (by simpa using hs) (by rw [hrem', List.append_assoc]) hf' hcl' st1 stF' g1 w1 β1 a1 (by rw [hs1]; exact hnt) (by rw [List.map_append]; exact hrest) hR1 Q (fun listed' a' w' st' hs2 hr2 hc2 he hg => ?_)
        exact hQ listed' a' w' st' hs2 hr2 hc2 (heqv.trans he) (hg.trans hE1 hs1 hd1 (fun _ => hq1) id)
      have hd : kp o a := fun n hn => Nat.lt_of_lt_of_le (hdst o (by
        have := Array.mem_of_getElem? ho
        simpa using this) n hn) hnt
      unfold Go.wpOpIn
      simp only [ho]
      unfold qeh at hstep
      rw [hel] at hstep
      split at hstep
      · rename_i hw
        rw [qaB hR hq3 hw]
        simp only [if_true]
        refine qgA hF (hnd o (by
          have := Array.mem_of_getElem? ho
          simpa using this)) ?_
        split at hstep
        · rename_i r hr
          rw [qvD] at hstep
          split at hstep
          · cases hstep
          · rename_i hp
            have hpan : r.pan = false := by
              simp only [Bool.or_eq_true, not_or] at hp
              simpa using hp.1
            have hput := qrd hstep
            have hq5 := hr
            rw [hq4] at hq5
            have hq6 := qcT hq5
            rw [← hq4] at hq6
            refine qnM hcs hd hR hq6 (fun hloc hn => ?_) hr ⟨fun _ c w1 g1 β1 hR1 hE1 => ?_, fun hp2 => ?_⟩
            · rw [hn] at hloc; simp at hloc
            · rw [← hq2, hput, hq2] at hR1
              exact go (jq _ _ _) (qdz _ _ _) (jd _ _ _) hR1 hE1
            · rw [hpan] at hp2; cases hp2
        · cases hstep
      · rename_i hw
        rw [qaB hR hq3 hw]
        simp only [qvA, if_false]
        simp only [Option.some.injEq] at hstep
        subst hstep
        refine ⟨fun f _ => hF.fn f, ?_⟩
        exact go (jq _ _ _) (qdz _ _ _) (jd _ _ _) (by rw [hq2]; exact qgS hR hd) (Evo.refl g w)
      · cases hstep
theorem qoe (hm : P.follows .mixedOrders = true) (hcs : yc P M call) (hlo : yq call) : qoi P M call := by
  intro A rid ops l htr hlex hord st e st' hrun g w β a nt hdst hnt hR F m hF hnd Q hQ
  obtain ⟨rfl, hrunD⟩ := qcL hrun
  have hll : l.length = ops.size := by simpa using (qft htr).1
  refine Go.wpIn_region_any hm ?_
  have hall : ∀ i, i < ops.size → (Array.replicate ops.size false).getD i true = false := fun i hi => by simp [hi]
  have hrem : rem ops.size (Array.replicate ops.size false) = List.range ops.size := by
    unfold rem
    rw [List.filter_eq_self]
    intro i hi
    rw [hall i (by simpa using hi)]; rfl
  have hsm : SameMem w { w with drawn := w.drawn + 1 } := ⟨rfl, rfl, rfl⟩
  refine qou hcs hlo hF htr hlex hord hdst (qn4 hnd) [] (fun z hz => by cases hz) ops.size (List.range ops.size) _ (by simp) (by rw [hrem]; simp) (by simp) (fun x hx => ?_) st st' g { w with drawn := w.drawn + 1 } β a hnt (by rw [← hll, ← qog]; exact hrunD) (hR.sameMem hsm) Q (fun listed' a' w' st2 hs2 hr2 _ he hg => ⟨qhF hr2, ?_⟩)
  · exfalso
    simp only [Array.getD_eq_getD_getElem?] at hx
    by_cases hlt : x < ops.size
    · simp [hlt] at hx
    · rw [Array.getElem?_eq_none (by simp; omega)] at hx; simp at hx
  · refine hQ .normal a' w' (show Post True M g w a .nrm st' .normal a' w' from ?_)
    obtain ⟨⟨g1, β1, hR1, hE1, hd1⟩, hs1, hq1⟩ := hg
    refine ⟨⟨g1, β1, ⟨?_, fun k => ?_, fun id o ho => ?_, hR1.fresh, hR1.gl⟩, (hsm.evo g).trans hE1, hd1.imp (fun ms h => ⟨h.1, MarksOk.base (w0 := { w with drawn := w.drawn + 1 }) (w0' := w) (qvC _) h.2⟩)⟩, hs1, hq1⟩
    · rw [hR1.n, he.H]
    · rw [← he.e k]; exact hR1.e k
    · exact hR1.h id o (by rw [he.H]; exact ho)
theorem qmj (hm : P.follows .mixedOrders = true) (hcs : yc P M call) (hlo : yq call) : qmT P M call := by
  intro A rid ops l htr hlex hord hlast st st1 e st' hrunD hrunL g w β a nt hdst hnt hR F m hF hnd Q hQ
  obtain ⟨_, hrunD⟩ := qcL hrunD
  obtain ⟨hlen, hget⟩ := qft htr
  have hll : l.length = ops.size := by simpa using hlen
  have hne : l ≠ [] := fun h => by subst h; simp [qkr] at hlast
  have hpos : 0 < l.length := by cases l with | nil => exact (hne rfl).elim | cons _ _ => simp
  obtain ⟨z, hz⟩ : ∃ z, l.length = z + 1 := ⟨l.length - 1, by omega⟩
  rw [hz, Nat.add_sub_cancel] at hrunD hrunL
  have hzs : ops.size = z + 1 := by rw [← hll, hz]
  have hbefz : ∀ j, j < z → ((Go.Region.before ops).getD z 0).testBit j = true := by
    simp only [qkr, qvB, List.all_eq_true, hz, Nat.add_sub_cancel] at hlast
    exact fun j hj => hlast.2 j (by simpa using hj)
  refine Go.wpIn_region_any hm ?_
  have hall : ∀ i, i < ops.size → (Array.replicate ops.size false).getD i true = false := fun i hi => by simp [hi]
  have hrem : rem ops.size (Array.replicate ops.size false) = List.range z ++ [z] := by
    have hrs : List.range z ++ [z] = List.range ops.size := by rw [hzs, List.range_succ]
    unfold rem
    rw [hrs, List.filter_eq_self]
    intro i hi
    rw [hall i (by simpa using hi)]; rfl
  have hsm : SameMem w { w with drawn := w.drawn + 1 } := ⟨rfl, rfl, rfl⟩
  have hfront : (l.zipIdx.map fun (o, i) => (o, qa2 ops l o i, qer ops l i)).take z = (List.range z).map (qb1 ops l) := by
    rw [qog, hz, List.range_succ, List.map_append]
    exact List.take_left' (by simp)
  rw [hfront] at hrunD
  have key := qou hcs hlo hF (m := m) htr hlex hord hdst (qn4 hnd) [z] (fun y hy j hj => by
      rw [List.mem_singleton] at hy; subst hy; exact hbefz j hj) z (List.range z) (Array.replicate ops.size false) (by simp) hrem (by simp) (fun x hx => by
      exfalso
      simp only [Array.getD_eq_getD_getElem?] at hx
      by_cases hlt : x < ops.size
      · simp [hlt] at hx
      · rw [Array.getElem?_eq_none (by simp; omega)] at hx; simp at hx) st st1 g { w with drawn := w.drawn + 1 } β a hnt hrunD (hR.sameMem hsm) Q (fun listed' a' w' st2 hs2 hr2 hc2 he hg => by
    obtain ⟨⟨g1, β1, hR1, hE1, hd1⟩, hs1, hq1⟩ := hg
    have hR1' : Rel M g1 w' β1 st1 a'.tmps := ⟨by rw [← he.H]; exact hR1.n, fun k => by rw [← he.e k]; exact hR1.e k, fun id o ho => hR1.h id o (by rw [he.H]; exact ho), hR1.fresh, hR1.gl⟩
    have fin : ∀ {x : Exit} {a2 : Act} {w2 : World}, Post True M g1 w' a' e st' x a2 w2 → Q x a2 w2 := fun h =>
      hQ _ _ _ ((h.trans hE1 hs1 hd1 (fun _ => hq1 trivial) id).trans (hsm.evo g) rfl .refl (fun _ => rfl) id)
    refine ⟨fun hr => ?_, fun i hi => ?_⟩
    · have := qmm hlex hs2 hr
      rw [hr2] at this; cases this
    · rw [Go.mem_ready] at hi
      obtain ⟨h1, o, ho, _⟩ := hi
      have him : i ∈ rem ops.size listed' := qbf.2 ⟨(Array.getElem?_eq_some_iff.1 ho).1, h1⟩
      rw [hr2, List.mem_singleton] at him
      subst him
      obtain ⟨q, hq1', hq2, hq3, hq4⟩ := hget i o (by simpa using ho)
      have hdrop : l.drop i = [q] := by
        have hlt : i < l.length := by omega
        rw [List.drop_eq_getElem_cons hlt, List.drop_eq_nil_of_le (by omega)]
        have : l[i]? = some q := by first | exact hq1' | simpa using hq1'
        rw [List.getElem?_eq_getElem hlt] at this
        simpa using this
      rw [hdrop] at hrunL
      have hd : kp o a' := fun n hn => by
        rw [hs1]
        exact Nat.lt_of_lt_of_le (hdst o (by
          have := Array.mem_of_getElem? ho
          simpa using this) n hn) hnt
      have hend : rem ops.size (listed'.setIfInBounds i true) = [] := by
        have := qnS (pre := []) (post := []) hs2 (by simpa using hr2)
        simpa using this
      unfold Go.wpOpIn
      simp only [ho]
      simp only [kj] at hrunL
      split at hrunL
      · rename_i hw
        rw [qaB hR1' hq3 hw]
        simp only [if_true]
        refine qgA hF (qn4 hnd o (by
          have := Array.mem_of_getElem? ho
          simpa using this)) ?_
        split at hrunL
        · rename_i r hr
          have hq5 := hr
          rw [hq4] at hq5
          have hq6 := qcT hq5
          rw [← hq4] at hq6
          refine qnM hcs hd hR1' hq6 (fun hloc hn => ?_) hr ⟨fun hp c w1 g2 β2 hR2 hE2 => ?_, fun hp cv w1 g2 β2 hR2 hE2 hv => ?_⟩
          · rw [hn] at hloc; simp at hloc
          · simp only [hp, cond_false, Option.some.injEq, Prod.mk.injEq] at hrunL
            obtain ⟨rfl, rfl⟩ := hrunL
            refine ⟨qhF hend, fin (show Post True M g1 w' a' .nrm _ .normal _ w1 from ⟨⟨g2, β2, ?_, hE2, qdz _ _ _⟩, jq _ _ _, fun _ => jd _ _ _⟩)⟩
            rw [hq2]
            exact hR2
          · simp only [hp, cond_true, Option.some.injEq, Prod.mk.injEq] at hrunL
            obtain ⟨rfl, rfl⟩ := hrunL
            exact fin (show Post True M g1 w' a' (.pan r.v) r.st (.panic _) a' w1 from ⟨⟨g2, cv, β2, rfl, hR2, hE2, hv, .refl⟩, rfl, fun _ => rfl⟩)
        · cases hrunL
      · rename_i hw
        rw [qaB hR1' hq3 hw]
        simp only [qvA, if_false]
        simp only [Option.some.injEq, Prod.mk.injEq] at hrunL
        obtain ⟨rfl, rfl⟩ := hrunL
        refine ⟨fun f _ => hF.fn f, qhF hend, fin (show Post True M g1 w' a' .nrm _ .normal _ w' from ⟨⟨g1, β1, ?_, Evo.refl g1 w', qdz _ _ _⟩, jq _ _ _, fun _ => jd _ _ _⟩)⟩
        rw [hq2]
        exact qgS hR1' hd
      · cases hrunL)
  rw [show z + [z].length = ops.size by rw [hzs]; rfl] at key
  exact key
theorem sound {pg : Pg} (hm : P.follows .mixedOrders = true) (hT : Tab P M pg) (hx : yc P M pg.ext) (hxlo : yq pg.ext) (n : Nat) : yc P M (qbc pg n) := by
  have key : ∀ n, qdq P M (exec pg n) := qmM (fun n h => qeq hT hx (qcm hxlo n) h (qfF n)) (fun n hcs => ⟨qoe hm hcs (qcw hxlo (qcm hxlo n)), qmj hm hcs (qcw hxlo (qcm hxlo n))⟩) (fun n h => qmS hT.2 h)
  exact qeq hT hx (qcm hxlo n) (key n) (qfF n)
theorem qms {pg : Pg} (hm : P.follows .mixedOrders = true) (hT : Tab P M pg) (hx : yc P M pg.ext) (hxlo : yq pg.ext) {n i : Nat} {vs : List V} {H : List Obj} {r : Cr} (hcall : qbc pg n i vs H = some r) {f' : FuncId} (hlook : look M.fm f' = some i) (hext : pg.fn i ≠ none)
    {g : Gh} {w : World} {argv : List Value} (hargs : ArgsRep M g w 0 vs argv) (hH : RelH M g w H) : Go.Calls P f' argv.toArray w (zW M g w r) := by
  have key : ∀ n, qdq P M (exec pg n) := qmM (fun n h => qeq hT hx (qcm hxlo n) h (qfF n)) (fun n hcs => ⟨qoe hm hcs (qcw hxlo (qcm hxlo n)), qmj hm hcs (qcw hxlo (qcm hxlo n))⟩) (fun n h => qmS hT.2 h)
  exact (qeY hT (qcm hxlo n) (key n) (qfF n) hcall hlook hext hargs hH).1
end
end W

/-
  From the small semantics to a law's statement: what is read stays; the answer is true.
-/
set_option linter.unusedSimpArgs false
set_option linter.unusedVariables false
namespace W
open Go (World Value Addr IntKind Program TypeId FuncId Operand Act Oper Next Result Sem Ending Exit Code Func DataW MemPlace Calls trodAll_cons_mk)
open Go.ChangeShapes Go.RowKit Go.WideShapes Go.ChangeAt
section
variable {P : Program} {Hh : Type} {enc : TypeId × Value → Hh}
theorem qnq {W W' : World} (hb : ∀ b, b < W.heap.size → W'.heap[b]? = W.heap[b]?) {p : MemPlace} (hp : p.block < W.heap.size) : W.sameAt W' p := by
  cases p with
  | cell b o => exact yk (hb b hp) o
  | map b => exact hb b hp
theorem qfW (hl : Go.laidOutB P = true) {W W' : World} (hb : ∀ b, b < W.heap.size → W'.heap[b]? = W.heap[b]?) {sp : Nat → Bool} : ∀ {ts : List TypeId} {vs : List Value} {ds : List (DataW Hh)} {ps : List MemPlace}, (∀ t ∈ ts, P.readableRec t = true ∧ t < P.types.size) →
    DataW.TrodAll enc P W 0 (fun _ => true) true ts vs ds ps → (∀ p ∈ ps, p.block < W.heap.size) → (∀ p ∈ ps, sp p.block = true) → DataW.TrodAll enc P W' 0 sp true ts vs ds ps
  | [], vs, ds, ps, hr, h, hlt, hs => by
    obtain ⟨rfl, rfl, rfl⟩ := trodAll_nil h
    exact trodAll_mk0
  | t :: ts, vs, ds, ps, hr, h, hlt, hs => by
    obtain ⟨v, vs', d, ds', p, q, rfl, rfl, rfl, hd, hrest⟩ := trodAll_cons h
    refine trodAll_cons_mk (Go.WideElems.Trod_stays hl (hr t (by simp)).1 (hr t (by simp)).2 hd (fun x hx => qnq hb (hlt x (by simp [hx]))) (fun x hx => hs x (by simp [hx])))
      (qfW hl hb (fun u hu => hr u (by simp [hu])) hrest (fun x hx => hlt x (by simp [hx])) (fun x hx => hs x (by simp [hx])))
theorem qqv {f : Func} {s : Go.ChangeSpec} {apart fresh handsOn again : Bool} {W W' : World} {args : Array Value} {ds gs : List (DataW Hh)} {before : List MemPlace} {tb : TypeId} (hvars : s.vars = [])
    (hW : DataW.Whole enc P f.params.toList s.vars apart W args.toList ds gs before) (hs : s.fn Hh ds = { results := [.lit (.bool true)], args := ds }) (hres : f.resultTypes = #[tb]) (htb : P.underlying tb = some .bool)
    (hl : Go.laidOutB P = true) (hread : ∀ t ∈ f.params.toList, P.readableRec t = true ∧ t < P.types.size)
    (hio : W'.os = W.os ∧ W'.output = W.output) (hb : ∀ b, b < W.heap.size → W'.heap[b]? = W.heap[b]?) :
    s.post enc P f apart fresh handsOn again W args (.bool true) W' := by
  have hlt : ∀ p ∈ before, p.block < W.heap.size := fun p hp => by simpa using hW.lt p hp
  have hW' := hW
  obtain ⟨p, q, hA, hV, rfl, hfz, hnd⟩ := hW
  rw [hvars] at hV
  obtain ⟨rfl, rfl⟩ := trodVars_none hV
  have hfn : s.fn Hh (ds ++ []) = { results := [.lit (.bool true)], args := ds } := by rw [List.append_nil]; exact hs
  have hargs : ∀ sp : Nat → Bool, (∀ x ∈ p ++ [], sp x.block = true) → DataW.TrodAll enc P W' 0 sp true f.params.toList args.toList ds p := fun sp hsp =>
    qfW hl hb hread hA (fun x hx => hlt x (by simp [hx])) (fun x hx => hsp x (by simp [hx]))
  have hk : W.keptBut W' (fun _ => False) := by
    refine ⟨hio.1, hio.2, fun i hi => ?_⟩
    rw [hb i hi]
    cases hq : W.heap[i]? with
    | none => rfl
    | some o => cases o <;> first | rfl | exact ⟨rfl, rfl, rfl, fun _ _ => rfl⟩ | exact .inr ⟨rfl, rfl⟩
  have hresT : ∀ (b : Nat) (sp : Nat → Bool) (hd : Bool), DataW.TrodAll enc P W' b sp hd f.resultTypes.toList ((Value.bool true).resultList f.resultTypes.size) [.lit (.bool true)] [] := fun b sp hd => by
    rw [hres]
    exact trodAll_cons_mk (shut_bool htb _) trodAll_mk0
  have hfz' : ∀ a : Addr, a.block < W.heap.size → W'.frozen? a = W.frozen? a := fun a ha => by simp only [World.frozen?, hb a.block ha]
  have hres2 : ∀ (b : Nat) (sp : Nat → Bool) (hd : Bool), DataW.TrodAll enc P W' b sp hd f.resultTypes.toList ((Value.bool true).resultList f.resultTypes.size) (s.fn Hh (ds ++ [])).results [] := fun b sp hd => by rw [hfn]; exact hresT b sp hd
  have hargs2 : ∀ sp : Nat → Bool, (∀ x ∈ p ++ [], sp x.block = true) → DataW.TrodAll enc P W' 0 sp true f.params.toList args.toList (s.fn Hh (ds ++ [])).args p := fun sp hsp => by rw [hfn]; exact hargs sp hsp
  have hvars2 : ∀ sp : Nat → Bool, DataW.TrodVars enc P W' sp s.vars (s.fn Hh (ds ++ [])).vars [] := fun sp => by rw [hfn, hvars]; rfl
  have hold : ∀ x ∈ p ++ [], (fun b => decide (b < W.heap.size)) x.block = true := fun x hx => by simpa using hlt x hx
  refine ⟨ds, [], p ++ [], [], p, [], hW', hres2 _ _ _, hargs2 _ hold, hvars2 _, Go.World.keptBut_mono (fun _ h => h.elim) hk, fun _ => ?_⟩
  refine ⟨ok_one hres rfl (okWide_bool_mk htb _), _, _, ([] ++ p) ++ [], ⟨[] ++ p, [], trodAll_append (hargs2 _ (fun _ _ => rfl)) (hres2 _ _ _), hvars2 _, rfl, ?_, ?_⟩, ?_⟩
  · intro b off hp
    rw [hfz' _ (hlt (.cell b off) (by simpa using hp))]
    exact hfz b off (by simpa using hp)
  · intro ha
    simpa using hnd ha
  · intro x hx _
    simpa using hx
end
end W

/-
  Arguments that were read are data.
-/
set_option linter.unusedSimpArgs false
set_option linter.unusedVariables false
namespace W
open Go (World Value Addr IntKind Program TypeId FuncId Operand Act Oper Next Result Sem Ending Exit Code Func DataW MemPlace Calls TypeDesc Lit)
mutual
def D.bulk : D → Nat
  | .s x => x.length + 1
  | .sl xs => D.bulks xs + 1
  | .agg cs => D.bulks cs + 1
  | _ => 1
def D.bulks : List D → Nat
  | [] => 0
  | x :: l => D.bulk x + D.bulks l
end
theorem qg2 : ∀ (a b : List D), D.bulks (a ++ b) = D.bulks a + D.bulks b
  | [], b => by simp [D.bulks]
  | x :: a, b => by simp only [List.cons_append, D.bulks, qg2 a b]; omega
def tiles (P : Program) : Nat → List Go.Field → Bool
  | _, [] => true
  | off, f :: l => f.offset == off && tiles P (off + P.cellsOf f.type) l
def qe5 (P : Program) : List Go.Field → Nat
  | [] => 0
  | f :: l => P.cellsOf f.type + qe5 P l
def qjm (P : Program) (ts : List TypeId) (t : TypeId) : Bool :=
  match P.underlying t with
  | some .bool | some (.int _) | some .string => true
  | some (.slice e) => ts.contains e && Nat.blt 0 (P.cellsOf e)
  | some (.struct fs) => fs.toList.all (fun f => ts.contains f.type) && tiles P 0 fs.toList && qvG (P.cellsOf t) (qe5 P fs.toList)
  | some (.array n e) => ts.contains e && qvG (P.cellsOf t) (n * P.cellsOf e)
  | _ => false
def covers (P : Program) (ts : List TypeId) : Bool := ts.all (qjm P ts)
def qbz (P : Program) (t : TypeId) : Bool :=
  match P.underlying t with
  | some (.struct _) | some (.array _ _) => true
  | _ => false
def elD : Bool → List D → D
  | true, xs => .agg xs
  | false, [x] => x
  | false, _ => .np
def Ty (P : Program) : Nat → TypeId → List D → Prop
  | 0, _, _ => False
  | n + 1, t, xs => match P.underlying t with
    | some .bool => ∃ b, xs = [.b b]
    | some (.int k) => ∃ z, xs = [.i k z] ∧ (Lit.int k z).wf = true
    | some .string => ∃ s, xs = [.s s] ∧ s.length ≤ Go.maxLen ∧ ∀ c ∈ s, c < 256
    | some (.slice e) => xs = [.nil] ∨ ∃ yss : List (List D), xs = [.sl (yss.map (elD (qbz P e)))] ∧ yss.length ≤ Go.maxLen ∧ ∀ q ∈ yss, Ty P n e q
    | some (.struct fs) => ∃ yss : List (List D), xs = yss.flatten ∧ yss.length = fs.toList.length ∧ ∀ (i : Nat) (f : Go.Field) (q : List D), fs.toList[i]? = some f → yss[i]? = some q → Ty P n f.type q
    | some (.array m e) => ∃ yss : List (List D), xs = yss.flatten ∧ yss.length = m ∧ ∀ q ∈ yss, Ty P n e q
    | _ => False
def Arg (P : Program) (t : TypeId) (x : D) : Prop := ∃ n xs, Ty P n t xs ∧ x = elD (qbz P t) xs
structure Bulk {Hh : Type} (B : DataW Hh → Nat) (BA : List (DataW Hh) → Nat) : Prop where
  str : ∀ bytes, B (.lit (.string bytes)) = bytes.length + 1
  lit : ∀ l, 1 ≤ B (.lit l)
  nil : B .nil = 1
  sl : ∀ es sp, B (.slice es sp) = BA es + BA sp + 1
  agg : ∀ ps, B (.agg ps) = BA ps + 1
  n : BA [] = 0
  c : ∀ d r, BA (d :: r) = B d + BA r
def g0 (W : World) : Gh := { n := 0, Φ := fun _ => (0, 0), own := fun _ => none, pub := fun b => match W.heap[b]? with | some (.cells c _ _) => c.size | _ => 0 }
theorem qr4 (M : Maps) (W : World) (hgl : GlOk M (g0 W) W) : RelH M (g0 W) W [] := ⟨rfl, fun id o h => by simp at h, fun b hb => ⟨rfl, by
  show (match W.heap[b]? with | some (.cells c _ _) => c.size | _ => 0) = 0
  rw [Array.getElem?_eq_none hb]⟩, hgl⟩
theorem qtJ {W W' : World} {g' : Gh} (h : Evo (g0 W) W g' W') : ∀ b, b < W.heap.size → W'.heap[b]? = W.heap[b]? := fun b hb => (h.keep b hb (.inl rfl)).2.1
theorem qly {W : World} {b o : Nat} {v : Value} (h : W.cell? ⟨b, o, none⟩ = some v) : o < (g0 W).pub b := by
  simp only [World.cell?] at h
  show o < (match W.heap[b]? with | some (.cells c _ _) => c.size | _ => 0)
  split at h
  · rename_i c e f hq
    rw [hq]
    simp at h
    exact (Array.getElem?_eq_some_iff.1 h).1
  · cases h
theorem qlc {W : World} {a : Addr} {v : Value} (h : W.cell? a = some v) : a.spot = none := by
  simp only [World.cell?] at h
  split at h
  · cases hs : a.spot with
    | none => rfl
    | some s => simp [hs] at h
  · cases h
section
variable {P : Program} {Hh : Type} {enc : TypeId × Value → Hh} {W : World}
theorem RepDL.split {pub : Nat → Nat} {w : World} : ∀ {a : List (List D)} {b : List (List Value)}, a.length = b.length → (∀ (i : Nat) (q : List D) (r : List Value), a[i]? = some q → b[i]? = some r → RepDL pub w q r) → RepDL pub w a.flatten b.flatten
  | [], [], _, _ => .nil
  | q :: a, r :: b, hl, h => by
    simp only [List.flatten_cons]
    exact (h 0 q r rfl rfl).append (RepDL.split (by simpa using hl) (fun i q' r' hq hr => h (i + 1) q' r' (by simpa using hq) (by simpa using hr)))
  | [], _ :: _, hl, _ => by simp at hl
  | _ :: _, [], hl, _ => by simp at hl
theorem qf3 (cs : List Value) : ∀ (fs : List Go.Field) (off : Nat), tiles P off fs = true → (fs.map fun f => (cs.drop f.offset).take (P.cellsOf f.type)).flatten = (cs.drop off).take (qe5 P fs)
  | [], off, _ => by simp [qe5]
  | f :: fs, off, h => by
    simp only [tiles, qvB, beq_iff_eq] at h
    simp only [qvM, List.flatten_cons, qe5, qf3 cs fs _ h.2, h.1]
    rw [List.take_add, List.drop_drop]
theorem qfZ (cs : List Value) (sz : Nat) : ∀ n, ((List.range n).map fun i => (cs.drop (i * sz)).take sz).flatten = cs.take (n * sz)
  | 0 => by simp
  | n + 1 => by
    rw [List.range_succ, List.map_append, List.flatten_append, qfZ cs sz n, Nat.succ_mul, List.take_add]
    simp
theorem qiD {n : Nat} {t : TypeId} {xs : List D} (h : Ty P n t xs) : (elD (qbz P t) xs).cells = xs := by
  cases n with
  | zero => exact h.elim
  | succ n =>
    unfold Ty at h
    unfold qbz
    split at h
    · rename_i hu; rw [hu]; obtain ⟨b, rfl⟩ := h; rfl
    · rename_i k hu; rw [hu]; obtain ⟨b, rfl, _⟩ := h; rfl
    · rename_i hu; rw [hu]; obtain ⟨b, rfl, _⟩ := h; rfl
    · rename_i e hu; rw [hu]
      rcases h with rfl | ⟨yss, rfl, _⟩ <;> rfl
    · rename_i fs hu; rw [hu]; rfl
    · rename_i m e hu; rw [hu]; rfl
    · exact h.elim
theorem qlg {a b : List D} (h1 : D.ones a = true) (h2 : D.ones b = true) : D.ones (a ++ b) = true := by
  induction a with
  | nil => exact h2
  | cons q a ih => simp only [List.cons_append, D.ones, qvB] at h1 ⊢; exact ⟨h1.1, ih h1.2⟩
theorem qcV : ∀ {l : List (List D)}, (∀ q ∈ l, D.ones q = true) → D.ones l.flatten = true
  | [], _ => rfl
  | q :: l, h => qlg (h q (by simp)) (qcV fun r hr => h r (by simp [hr]))
theorem qld : ∀ {n : Nat} {t : TypeId} {xs : List D}, Ty P n t xs → D.ones xs = true
  | 0, _, _, h => h.elim
  | n + 1, t, xs, h => by
    unfold Ty at h
    split at h
    · obtain ⟨b, rfl⟩ := h; rfl
    · obtain ⟨b, rfl, _⟩ := h; rfl
    · obtain ⟨b, rfl, _⟩ := h; rfl
    · rcases h with rfl | ⟨yss, rfl, _⟩ <;> rfl
    · obtain ⟨yss, rfl, hl, h⟩ := h
      refine qcV fun q hq => ?_
      obtain ⟨i, hi⟩ := List.getElem?_of_mem hq
      have hlt := (List.getElem?_eq_some_iff.1 hi).1
      rename_i fs hu
      exact qld (h i (fs.toList[i]'(by omega)) q (by simp [hl ▸ hlt]) hi)
    · obtain ⟨yss, rfl, hl, h⟩ := h
      exact qcV fun q hq => qld (h q hq)
    · exact h.elim
end
end W

/-
  Arguments that were read are data: the reading itself.
-/
set_option linter.unusedSimpArgs false
set_option linter.unusedVariables false
namespace W
open Go (World Value Addr IntKind Program TypeId FuncId Operand Act Oper Next Result Sem Ending Exit Code Func DataW MemPlace Calls TypeDesc Lit)
theorem qdu {α : Type} {R : Nat → α → Prop} : ∀ (n : Nat), (∀ i, i < n → ∃ a, R i a) → ∃ l : List α, l.length = n ∧ ∀ (i : Nat) (a : α), l[i]? = some a → R i a
  | 0, _ => ⟨[], rfl, fun i a h => by simp at h⟩
  | n + 1, h => by
    obtain ⟨l, h1, h2⟩ := qdu n (fun i hi => h i (by omega))
    obtain ⟨a, ha⟩ := h n (by omega)
    refine ⟨l ++ [a], by simp [h1], fun i b hb => ?_⟩
    rw [List.getElem?_append] at hb
    split at hb
    · exact h2 i b hb
    · rename_i hge
      have hi : i - l.length = 0 := by
        rcases Nat.eq_zero_or_pos (i - l.length) with h0 | h0
        · exact h0
        · rw [List.getElem?_eq_none (by simp; omega)] at hb; cases hb
      rw [hi] at hb
      simp only [qvS, Option.some.injEq] at hb
      subst hb
      rwa [show i = n by omega]
theorem qh7 {α : Type} {c : Nat} : ∀ (l : List (List α)), (∀ q ∈ l, q.length = c) → ∀ (j : Nat) (v : α), l.flatten[j]? = some v → ∃ i r q, j = i * c + r ∧ l[i]? = some q ∧ q[r]? = some v
  | [], _, j, v, h => by simp at h
  | q :: l, hc, j, v, h => by
    have hq := hc q (by simp)
    rw [List.flatten_cons, List.getElem?_append] at h
    split at h
    · exact ⟨0, j, q, by simp, rfl, h⟩
    · rename_i hge
      obtain ⟨i, r, q', h1, h2, h3⟩ := qh7 l (fun x hx => hc x (by simp [hx])) _ v h
      exact ⟨i + 1, r, q', by rw [Nat.succ_mul]; omega, by simpa using h2, h3⟩
theorem qe7 {α : Type} {c : Nat} : ∀ (l : List (List α)), (∀ q ∈ l, q.length = c) → l.flatten.length = l.length * c
  | [], _ => by simp
  | q :: l, hc => by
    rw [List.flatten_cons, List.length_append, hc q (by simp), qe7 l (fun x hx => hc x (by simp [hx])), qvP, Nat.succ_mul]; omega
section
variable {P : Program} {Hh : Type} {enc : TypeId × Value → Hh} {W : World}
theorem qok {n : Nat} {t : TypeId} {q : List D} (h : Ty P n t q) {b : Nat} (hb : D.bulks q + (if qbz P t then 1 else 0) ≤ b) : D.bulk (elD (qbz P t) q) ≤ b := by
  cases ha : qbz P t with
  | true => rw [ha] at hb; simpa [elD, D.bulk] using hb
  | false =>
    rw [ha] at hb
    have h1 := qiD h
    rw [ha] at h1
    match q, h1, hb with
    | [x], _, hb => simpa [elD, D.bulks] using hb
    | [], h1, _ => simp [elD, D.cells] at h1
    | x :: y :: l, h1, _ => simp [elD, D.cells] at h1
theorem qlW {B : DataW Hh → Nat} {BA : List (DataW Hh) → Nat} (hB : Bulk B BA) : ∀ {ys : List D} {ds : List (DataW Hh)}, ys.length = ds.length → (∀ (i : Nat) (y : D) (d : DataW Hh), ys[i]? = some y → ds[i]? = some d → D.bulk y ≤ B d) → D.bulks ys ≤ BA ds
  | [], [], _, _ => by simp [D.bulks]
  | y :: ys, d :: ds, hl, h => by
    rw [hB.c, D.bulks]
    have h1 := h 0 y d rfl rfl
    have h2 := qlW hB (ys := ys) (ds := ds) (by simpa using hl) (fun i y d hy hd => h (i + 1) y d (by simpa using hy) (by simpa using hd))
    omega
  | [], _ :: _, hl, _ => by simp at hl
  | _ :: _, [], hl, _ => by simp at hl
theorem qdE {B : DataW Hh → Nat} {BA : List (DataW Hh) → Nat} (hB : Bulk B BA) : ∀ {ys : List (List D)} {ds : List (DataW Hh)}, ys.length = ds.length → (∀ (i : Nat) (y : List D) (d : DataW Hh), ys[i]? = some y → ds[i]? = some d → D.bulks y ≤ B d) → D.bulks ys.flatten ≤ BA ds
  | [], [], _, _ => by simp [D.bulks]
  | y :: ys, d :: ds, hl, h => by
    rw [hB.c, List.flatten_cons, qg2]
    have h1 := h 0 y d rfl rfl
    have h2 := qdE hB (ys := ys) (ds := ds) (by simpa using hl) (fun i y d hy hd => h (i + 1) y d (by simpa using hy) (by simpa using hd))
    omega
  | [], _ :: _, hl, _ => by simp at hl
  | _ :: _, [], hl, _ => by simp at hl
theorem qiK {a : Addr} {n : Nat} {cs : List Value} (h : W.cells? 0 a n = some cs) : cs.length = n ∧ ∀ (i : Nat) (v : Value), cs[i]? = some v → W.cell? (a.add i) = some v := by
  unfold World.cells? at h
  simp only [Nat.zero_le, if_true] at h
  have hl := Go.mapM_some_length h
  refine ⟨by simpa using hl, fun i v hv => ?_⟩
  have hi : i < n := by
    have := (List.getElem?_eq_some_iff.1 hv).1
    rw [hl] at this; simpa using this
  have := Go.mapM_some_get h i i (by simp [hi])
  rw [this, hv]
theorem qrF (ys : List D) : D.bulks [.sl ys] = D.bulks ys + 1 := by simp [D.bulks, D.bulk]
theorem qgF {ts : List TypeId} (hts : covers P ts = true) {B : DataW Hh → Nat} {BA : List (DataW Hh) → Nat} (hB : Bulk B BA) : ∀ (n : Nat) (t : TypeId) (cs : List Value) (x : DataW Hh × List MemPlace), t ∈ ts →
    DataW.trod enc P W 0 (fun _ => true) true n t cs = some x → ∃ xs, Ty P n t xs ∧ RepDL (g0 W).pub W xs cs ∧ D.bulks xs + (if qbz P t then 1 else 0) ≤ B x.1
  | 0, t, cs, x, _, h => by simp [DataW.trod] at h
  | n + 1, t, cs, x, ht, h => by
    have hcov : qjm P ts t = true := by
      simp only [covers, List.all_eq_true] at hts
      exact hts t ht
    unfold qjm at hcov
    unfold Ty qbz
    split at hcov
    · -- bool
      rename_i hu
      obtain ⟨b, rfl, rfl⟩ := DataW.trod_bool hu h
      rw [hu]
      exact ⟨[.b b], ⟨b, rfl⟩, .cons _ _ _ _ (.b b) .nil, by have := hB.lit (.bool b); simpa [D.bulks, D.bulk] using this⟩
    · rename_i k hu
      obtain ⟨z, rfl, rfl, hw⟩ := DataW.trod_int hu h
      rw [hu]
      exact ⟨[.i k z], ⟨z, rfl, hw⟩, .cons _ _ _ _ (.i k z) .nil, by have := hB.lit (.int k z); simpa [D.bulks, D.bulk] using this⟩
    · rename_i hu
      obtain ⟨z, rfl, rfl, hm⟩ := DataW.trod_string hu h
      rw [hu]
      have hl : (z.data.toList.map (·.toNat)).length = z.size := by simp
      refine ⟨[.s (z.data.toList.map (·.toNat))], ⟨_, rfl, by rw [hl]; exact hm, fun c hc => ?_⟩, .cons _ _ _ _ (.s _ z rfl) .nil, ?_⟩
      · obtain ⟨b, _, rfl⟩ := List.mem_map.1 hc
        exact b.toNat_lt
      · simp only [D.bulks, D.bulk, hB.str]
        simp
    · -- slice
      rename_i e hu
      simp only [qvB, List.contains_iff_mem, Nat.blt_eq] at hcov
      obtain ⟨he, hpos⟩ := hcov
      rw [hu]
      rcases DataW.trod_slice hu h with ⟨rfl, rfl⟩ | ⟨a, len, cap, elems, rest, m, hm, rfl, rfl, hb, hlc, hcap, hlen, hel, _, _⟩
      · exact ⟨[.nil], .inl rfl, .cons _ _ _ _ .nil .nil, by rw [hB.nil]; simp [D.bulks, D.bulk]⟩
      · cases hm
        -- each element
        obtain ⟨l, hl1, hl2⟩ := qdu (R := fun i (p : List D × List Value) => ∃ y, elems[i]? = some y ∧ W.cells? 0 (a.add (i * P.cellsOf e)) (P.cellsOf e) = some p.2 ∧ Ty P n e p.1 ∧ RepDL (g0 W).pub W p.1 p.2 ∧ D.bulks p.1 + (if qbz P e then 1 else 0) ≤ B y.1) len (fun i hi => by
          have h1 := hel i hi
          rw [List.getElem?_eq_getElem (by omega)] at h1
          obtain ⟨cs', h2, h3⟩ := Option.bind_eq_some_iff.1 h1
          obtain ⟨xs, h4, h5, h6⟩ := qgF hts hB n e cs' _ he h3
          exact ⟨(xs, cs'), _, List.getElem?_eq_getElem (by omega), h2, h4, h5, h6⟩)
        have htys : ∀ q ∈ l.map (·.1), Ty P n e q := fun q hq => by
          obtain ⟨p, hp, rfl⟩ := List.mem_map.1 hq
          obtain ⟨i, hi⟩ := List.getElem?_of_mem hp
          obtain ⟨y, _, _, h4, _⟩ := hl2 i p hi
          exact h4
        have hbulk : D.bulks ((l.map (·.1)).map (elD (qbz P e))) ≤ BA (elems.map (·.1)) := by
          refine qlW hB (by simp [hl1, hlen]) (fun i y d hy hd => ?_)
          simp only [List.getElem?_map, Option.map_map, Option.map_eq_some_iff] at hy hd
          obtain ⟨p, hp, rfl⟩ := hy
          obtain ⟨z, hz, rfl⟩ := hd
          obtain ⟨y, h1, _, h4, _, h6⟩ := hl2 i p hp
          rw [hz] at h1
          cases h1
          exact qok h4 h6
        refine ⟨[.sl ((l.map (·.1)).map (elD (qbz P e)))], .inr ⟨l.map (·.1), rfl, by simp only [List.length_map, hl1]; omega, htys⟩, .cons _ _ _ _ ?_ .nil, ?_⟩
        · cases hle : l with
          | nil =>
            rw [hle] at hl1
            simp at hl1
            subst hl1
            exact .sl0 a cap
          | cons p0 l' =>
            rw [← hle]
            have hlpos : 0 < len := by rw [← hl1, hle]; simp
            have hcl : ∀ p ∈ l, p.2.length = P.cellsOf e := fun p hp => by
              obtain ⟨i, hi⟩ := List.getElem?_of_mem hp
              obtain ⟨y, _, h2, _⟩ := hl2 i p hi
              exact (qiK h2).1
            have hcell : ∀ i p, l[i]? = some p → ∀ r v, p.2[r]? = some v → W.cell? ((a.add (i * P.cellsOf e)).add r) = some v := fun i p hi r v hv => by
              obtain ⟨y, _, h2, _⟩ := hl2 i p hi
              exact (qiK h2).2 r v hv
            have hspot : a.spot = none := by
              have h0 : l[0]? = some p0 := by rw [hle]; rfl
              have hp0 := hcl p0 (by rw [hle]; simp)
              have hlt : 0 < p0.2.length := by omega
              have := qlc (hcell 0 p0 h0 0 p0.2[0] (by simp [hlt]))
              rw [Nat.zero_mul] at this
              unfold Addr.add at this
              simpa using this
            obtain ⟨b, off, sp⟩ := a
            simp only at hspot
            subst hspot
            have hvlen : (l.map (·.2)).flatten.length = len * P.cellsOf e := by
              rw [qe7 _ (fun q hq => by obtain ⟨p, hp, rfl⟩ := List.mem_map.1 hq; exact hcl p hp)]; simp [hl1]
            have hflat : ((l.map (·.1)).map (elD (qbz P e))).flatMap D.cells = (l.map (·.1)).flatten := by
              rw [List.flatMap_map, List.flatMap_def]
              congr 1
              rw [List.map_congr_left (g := id)]
              · simp
              · intro q hq; exact qiD (htys q hq)
            have hrep : RepDL (g0 W).pub W (((l.map (·.1)).map (elD (qbz P e))).flatMap D.cells) (l.map (·.2)).flatten := by
              rw [hflat]
              refine RepDL.split (by simp) (fun i q r hq hr => ?_)
              simp only [List.getElem?_map, Option.map_eq_some_iff] at hq hr
              obtain ⟨p, hp, rfl⟩ := hq
              obtain ⟨p', hp', rfl⟩ := hr
              rw [hp] at hp'
              cases hp'
              obtain ⟨y, _, _, _, h5, _⟩ := hl2 i p hp
              exact h5
            have hcs : ∀ j v, (l.map (·.2)).flatten[j]? = some v → W.cell? ⟨b, off + j, none⟩ = some v := fun j v hj => by
              obtain ⟨i, r, q, h1, h2, h3⟩ := qh7 _ (fun q hq => by obtain ⟨p, hp, rfl⟩ := List.mem_map.1 hq; exact hcl p hp) j v hj
              simp only [List.getElem?_map, Option.map_eq_some_iff] at h2
              obtain ⟨p, hp, rfl⟩ := h2
              have := hcell i p hp r v h3
              rw [jp, jp] at this
              rw [h1, ← Nat.add_assoc]; exact this
            have hlenD : ((l.map (·.1)).map (elD (qbz P e))).length = len := by simp [hl1]
            have hsl := RepD.sl (pub := (g0 W).pub) (w := W) ((l.map (·.1)).map (elD (qbz P e))) b off cap (P.cellsOf e) (l.map (·.2)).flatten (by rw [hle]; simp) (fun x hx => ?_) hrep hcs ?_ (by rw [hlenD]; exact hlc) ?_
            · rw [hlenD] at hsl; exact hsl
            · obtain ⟨q, hq, rfl⟩ := List.mem_map.1 hx
              rw [qiD (htys q hq)]
              obtain ⟨p, hp, rfl⟩ := List.mem_map.1 hq
              obtain ⟨i, hi⟩ := List.getElem?_of_mem hp
              obtain ⟨y, _, _, _, h5, _⟩ := hl2 i p hi
              rw [h5.length]; exact hcl p hp
            · have hp : 0 < len * P.cellsOf e := Nat.mul_pos hlpos hpos
              have hlt : (l.map (·.2)).flatten.length - 1 < (l.map (·.2)).flatten.length := by rw [hvlen]; omega
              have := qly (hcs _ _ (List.getElem?_eq_getElem hlt))
              rw [hvlen] at this ⊢
              omega
            · refine hrep.ones ?_
              rw [hflat]
              exact qcV fun q hq => qld (htys q hq)
        · rw [qrF, hB.sl]
          simp only [qvA, if_false]
          omega
    · -- struct
      rename_i fs hu
      simp only [qvB, List.all_eq_true, List.contains_iff_mem, Nat.beq_eq] at hcov
      obtain ⟨⟨hf, htile⟩, hsum⟩ := hcov
      obtain ⟨ys, m, hm, rfl, hlc, hlen, hel⟩ := DataW.trod_struct hu h
      cases hm
      rw [hu]
      obtain ⟨l, hl1, hl2⟩ := qdu (R := fun i (p : List D) => ∃ f y, fs[i]? = some f ∧ ys[i]? = some y ∧ Ty P n f.type p ∧ RepDL (g0 W).pub W p ((cs.drop f.offset).take (P.cellsOf f.type)) ∧ D.bulks p + (if qbz P f.type then 1 else 0) ≤ B y.1) fs.size (fun i hi => by
        have hfi : fs[i]? = some fs[i] := by simp [hi]
        have h1 := hel i fs[i] hfi
        rw [List.getElem?_eq_getElem (by omega)] at h1
        obtain ⟨xs, h4, h5, h6⟩ := qgF hts hB n _ _ _ (hf fs[i] (by simp)) h1
        exact ⟨xs, fs[i], _, hfi, List.getElem?_eq_getElem (by omega), h4, h5, h6⟩)
      refine ⟨l.flatten, ⟨l, rfl, by simp [hl1], fun i f q hfi hq => ?_⟩, ?_, ?_⟩
      · obtain ⟨f', y, h1, h2, h3, _⟩ := hl2 i q hq
        have : fs[i]? = some f := by simpa using hfi
        rw [h1] at this; cases this
        exact h3
      · have hall : cs = (fs.toList.map fun f => (cs.drop f.offset).take (P.cellsOf f.type)).flatten := by
          rw [qf3 cs _ 0 htile, ← hsum, ← hlc]; simp
        rw [hall]
        refine RepDL.split (by simp [hl1]) (fun i q r hq hr => ?_)
        simp only [List.getElem?_map, Option.map_eq_some_iff] at hr
        obtain ⟨f, hfi, rfl⟩ := hr
        obtain ⟨f', y, h1, h2, h3, h4, _⟩ := hl2 i q hq
        have : fs[i]? = some f := by simpa using hfi
        rw [h1] at this; cases this
        exact h4
      · simp only [hB.agg, if_true]
        have := qdE hB (ys := l) (ds := ys.map (·.1)) (by simp [hl1, hlen]) (fun i q d hq hd => by
          simp only [List.getElem?_map, Option.map_eq_some_iff] at hd
          obtain ⟨z, hz, rfl⟩ := hd
          obtain ⟨f', y, h1, h2, h3, h4, h5⟩ := hl2 i q hq
          rw [hz] at h2; cases h2
          omega)
        omega
    · -- array
      rename_i k e hu
      simp only [qvB, List.contains_iff_mem, Nat.beq_eq] at hcov
      obtain ⟨he, hsum⟩ := hcov
      obtain ⟨ys, m, hm, rfl, hlc, hlen, hel⟩ := DataW.trod_array hu h
      cases hm
      rw [hu]
      obtain ⟨l, hl1, hl2⟩ := qdu (R := fun i (p : List D) => ∃ y, ys[i]? = some y ∧ Ty P n e p ∧ RepDL (g0 W).pub W p ((cs.drop (i * P.cellsOf e)).take (P.cellsOf e)) ∧ D.bulks p + (if qbz P e then 1 else 0) ≤ B y.1) k (fun i hi => by
        have h1 := hel i hi
        rw [List.getElem?_eq_getElem (by omega)] at h1
        obtain ⟨xs, h4, h5, h6⟩ := qgF hts hB n _ _ _ he h1
        exact ⟨xs, _, List.getElem?_eq_getElem (by omega), h4, h5, h6⟩)
      refine ⟨l.flatten, ⟨l, rfl, hl1, fun q hq => ?_⟩, ?_, ?_⟩
      · obtain ⟨i, hi⟩ := List.getElem?_of_mem hq
        obtain ⟨y, h2, h3, _⟩ := hl2 i q hi
        exact h3
      · have hall : cs = ((List.range k).map fun i => (cs.drop (i * P.cellsOf e)).take (P.cellsOf e)).flatten := by
          rw [qfZ, ← hsum, ← hlc]; simp
        rw [hall]
        refine RepDL.split (by simp [hl1]) (fun i q r hq hr => ?_)
        simp only [List.getElem?_map, Option.map_eq_some_iff] at hr
        obtain ⟨i', hi', rfl⟩ := hr
        have hik : i < k := by rw [← hl1]; exact (List.getElem?_eq_some_iff.1 hq).1
        rw [List.getElem?_range hik] at hi'
        cases hi'
        obtain ⟨y, h2, h3, h4, _⟩ := hl2 i q hq
        exact h4
      · simp only [hB.agg, if_true]
        have := qdE hB (ys := l) (ds := ys.map (·.1)) (by simp [hl1, hlen]) (fun i q d hq hd => by
          simp only [List.getElem?_map, Option.map_eq_some_iff] at hd
          obtain ⟨z, hz, rfl⟩ := hd
          obtain ⟨y, h2, h3, h4, h5⟩ := hl2 i q hq
          rw [hz] at h2; cases h2
          omega)
        omega
    · cases hcov
end
end W

/-
  A law's contract from runs of the small semantics, one for every way that its arguments may read.
-/
set_option linter.unusedSimpArgs false
set_option linter.unusedVariables false
namespace W
open Go (World Value Addr IntKind Program TypeId FuncId Operand Act Oper Next Result Sem Ending Exit Code Func DataW MemPlace Calls TypeDesc Lit)
open Go.ChangeShapes Go.RowKit
section
variable {P : Program} {Hh : Type} {enc : TypeId × Value → Hh} {W : World} {M : Maps}
theorem qrS {r : Go.Reach} {b : Nat} {t : TypeId} {v : Value} (hv : Value.okWide P W r b t v) : (qbz P t = true → ∃ cs, v = .agg cs) ∧
    (qbz P t = false → (∃ d, P.underlying t = some d ∧ (d = .bool ∨ (∃ k, d = .int k) ∨ d = .string ∨ ∃ e, d = .slice e)) → v.cells.toList = [v]) := by
  unfold Value.okWide at hv
  unfold qbz
  split at hv
  · rename_i hu
    rw [hu]
    obtain ⟨cs, rfl, _⟩ := hv
    exact ⟨fun _ => ⟨cs, rfl⟩, fun h => by cases h⟩
  · rename_i hu
    rw [hu]
    obtain ⟨cs, rfl, _⟩ := hv
    exact ⟨fun _ => ⟨cs, rfl⟩, fun h => by cases h⟩
  · rename_i h1 h2
    refine ⟨fun h => ?_, fun _ ⟨d, hu, hd⟩ => ?_⟩
    · exfalso
      split at h
      · rename_i hu; exact h1 _ hu
      · rename_i hu; exact h2 _ _ hu
      · cases h
    · cases v with
      | agg cs => rcases hd with rfl | ⟨k, rfl⟩ | rfl | ⟨e, rfl⟩ <;> simp [Go.Cell.okWide, Go.Cell.ok, hu] at hv
      | _ => rfl
theorem qsz {ts : List TypeId} (hts : covers P ts = true) {B : DataW Hh → Nat} {BA : List (DataW Hh) → Nat} (hB : Bulk B BA) {r : Go.Reach} {b : Nat} {t : TypeId} {v : Value} {d : DataW Hh} {ps : List MemPlace} (ht : t ∈ ts)
    (hv : Value.okWide P W r b t v) (h : DataW.Trod enc P W 0 (fun _ => true) true t v d ps) : ∃ x, Arg P t x ∧ RepS M (g0 W) W (.d x) v ∧ D.bulk x ≤ B d := by
  obtain ⟨n, hn⟩ := h
  obtain ⟨xs, h1, h2, h3⟩ := qgF hts hB n t _ _ ht hn
  refine ⟨elD (qbz P t) xs, ⟨n, xs, h1, rfl⟩, ?_, qok h1 h3⟩
  obtain ⟨f1, f2⟩ := qrS hv
  cases ha : qbz P t with
  | true =>
    obtain ⟨cs, rfl⟩ := f1 ha
    exact .d _ _ (.agg xs cs h2)
  | false =>
    have hcov : qjm P ts t = true := by
      simp only [covers, List.all_eq_true] at hts
      exact hts t ht
    have hc := f2 ha (by
      unfold qjm at hcov
      split at hcov
      · rename_i hu; exact ⟨_, hu, .inl rfl⟩
      · rename_i hu; exact ⟨_, hu, .inr (.inl ⟨_, rfl⟩)⟩
      · rename_i hu; exact ⟨_, hu, .inr (.inr (.inl rfl))⟩
      · rename_i hu; exact ⟨_, hu, .inr (.inr (.inr ⟨_, rfl⟩))⟩
      · rename_i hu; simp [qbz, hu] at ha
      · rename_i hu; simp [qbz, hu] at ha
      · cases hcov)
    rw [hc] at h2
    cases h2 with
    | cons x _ l _ hx hl =>
      cases hl
      exact .d _ _ hx
theorem qml {ts : List TypeId} (hts : covers P ts = true) {B : DataW Hh → Nat} {BA : List (DataW Hh) → Nat} (hB : Bulk B BA) {r : Go.Reach} {b : Nat} : ∀ {tys : List TypeId} {vs : List Value} {ds : List (DataW Hh)} {ps : List MemPlace} (j : Nat),
    (∀ t ∈ tys, t ∈ ts) → (∀ (i : Nat) t v, tys[i]? = some t → vs[i]? = some v → Value.okWide P W r b t v) → DataW.TrodAll enc P W 0 (fun _ => true) true tys vs ds ps →
    ∃ xs : List D, All2 (Arg P) tys xs ∧ ArgsRep M (g0 W) W j (xs.map .d) vs ∧ D.bulks xs ≤ BA ds
  | [], vs, ds, ps, j, _, _, h => by
    obtain ⟨rfl, rfl, rfl⟩ := trodAll_nil h
    exact ⟨[], .nil, .nil j, by simp [D.bulks]⟩
  | t :: tys, vs, ds, ps, j, ht, hv, h => by
    obtain ⟨v, vs', d, ds', p, q, rfl, rfl, rfl, hd, hrest⟩ := trodAll_cons h
    obtain ⟨x, h1, h2, h3⟩ := qsz (M := M) hts hB (ht t (by simp)) (hv 0 t v rfl rfl) hd
    obtain ⟨xs, h4, h5, h6⟩ := qml hts hB (j + 1) (fun u hu => ht u (by simp [hu])) (fun i u w' hu hw => hv (i + 1) u w' (by simpa using hu) (by simpa using hw)) hrest
    refine ⟨x :: xs, .cons h1 h4, .cons (.s h2) h5, ?_⟩
    rw [hB.c, D.bulks]
    omega
theorem qkS {f : Func} {fid : FuncId} {s : Go.ChangeSpec} {apart fresh handsOn again : Bool} {args : Array Value} {ds gs : List (DataW Hh)} {before : List MemPlace} {tb : TypeId} {ts : List TypeId} {pg : Pg} {i : Nat} {r : Go.Reach} {b : Nat}
    (hgl : GlOk M (g0 W) W) (hm : P.follows .mixedOrders = true) (hT : Tab P M pg) (hx : yc P M pg.ext) (hxlo : yq pg.ext) (hlook : look M.fm fid = some i) (hext : pg.fn i ≠ none)
    (hts : covers P ts = true) (hpar : ∀ t ∈ f.params.toList, t ∈ ts) {B : DataW Hh → Nat} {BA : List (DataW Hh) → Nat} (hB : Bulk B BA)
    (hval : ∀ (j : Nat) t v, f.params[j]? = some t → args[j]? = some v → Value.okWide P W r b t v)
    (hvars : s.vars = []) (hW : DataW.Whole enc P f.params.toList s.vars apart W args.toList ds gs before) (hs : s.fn Hh ds = { results := [.lit (.bool true)], args := ds }) (hres : f.resultTypes = #[tb]) (htb : P.underlying tb = some .bool)
    (hl : Go.laidOutB P = true) (hread : ∀ t ∈ f.params.toList, P.readableRec t = true ∧ t < P.types.size)
    (run : ∀ xs : List D, All2 (Arg P) f.params.toList xs → D.bulks xs ≤ BA ds → ∃ n r, qbc pg n i (xs.map .d) [] = some r ∧ r.pan = false ∧ r.v = .d (.b true)) :
    Calls P fid args W fun e W' => ∃ v, e = .returned v ∧ s.post enc P f apart fresh handsOn again W args v W' := by
  have hW' := hW
  obtain ⟨p, q, hA, hV, rfl, hfz, hnd⟩ := hW
  obtain ⟨xs, h1, h2, h3⟩ := qml (M := M) hts hB 0 hpar (fun j t v ht hv => hval j t v (by simpa using ht) (by simpa using hv)) hA
  obtain ⟨n, q2, hrun, hp, hv⟩ := run xs h1 h3
  have hc := qms hm hT hx hxlo hrun hlook hext h2 (qr4 M W hgl)
  have ha : args.toList.toArray = args := by simp
  rw [ha] at hc
  refine hc.mono (fun e W' he => ?_)
  cases e with
  | returned v =>
    obtain ⟨_, g', hH, hE, hr⟩ := he
    rw [hv] at hr
    have hvb : v = .bool true := by
      cases hr with
      | s h => cases h with
        | d _ _ h => cases h; rfl
    subst hvb
    exact ⟨_, rfl, qqv hvars hW' hs hres htb hl hread hE.io (qtJ hE)⟩
  | panicked ch =>
    obtain ⟨h, _⟩ := he
    rw [hp] at h; cases h
  | outgrown => exact he.elim
end
end W

/-
  What arguments read as, kind by kind.
-/
set_option linter.unusedSimpArgs false
set_option linter.unusedVariables false
namespace W
open Go (World Value Addr IntKind Program TypeId FuncId Func DataW MemPlace TypeDesc Lit)
theorem qrI {n a b : Nat} (h : look ((List.range n).map fun i => (i, i)) a = some b) : a = b := by
  have key : ∀ (l : List Nat), look (l.map fun i => (i, i)) a = some b → a = b := by
    intro l
    induction l with
    | nil => intro h; cases h
    | cons x l ih =>
      intro h
      simp only [qvM, look, qvD] at h
      split at h
      · rename_i hb
        cases h
        exact qvJ hb
      · exact ih h
  exact key _ h
variable {P : Program} {t e : TypeId} {x : D}
theorem qk7 {k : IntKind} (hu : P.underlying t = some (.int k)) (h : Arg P t x) : ∃ z, x = .i k z ∧ (Lit.int k z).wf = true := by
  obtain ⟨n, xs, ht, rfl⟩ := h
  cases n with
  | zero => exact ht.elim
  | succ n =>
    simp only [Ty, hu] at ht
    obtain ⟨z, rfl, hw⟩ := ht
    exact ⟨z, by simp [qbz, hu, elD], hw⟩
theorem qoL (hu : P.underlying t = some (.slice e)) (h : Arg P t x) : x = .nil ∨ ∃ l : List D, x = .sl l ∧ l.length ≤ Go.maxLen ∧ ∀ y ∈ l, Arg P e y := by
  obtain ⟨n, xs, ht, rfl⟩ := h
  cases n with
  | zero => exact ht.elim
  | succ n =>
    simp only [Ty, hu] at ht
    rcases ht with rfl | ⟨yss, rfl, hl, hy⟩
    · exact .inl (by simp [qbz, hu, elD])
    · refine .inr ⟨yss.map (elD (qbz P e)), by simp [qbz, hu, elD], by simpa using hl, fun y hm => ?_⟩
      obtain ⟨q, hq, rfl⟩ := List.mem_map.1 hm
      exact ⟨n, q, hy q hq, rfl⟩
theorem qqg {α : Type} {f : α → D} : ∀ {l : List D}, (∀ y ∈ l, ∃ a, y = f a) → ∃ L : List α, l = L.map f
  | [], _ => ⟨[], rfl⟩
  | y :: l, h => by
    obtain ⟨a, ha⟩ := h y (by simp)
    obtain ⟨L, hL⟩ := qqg (l := l) (fun z hz => h z (by simp [hz]))
    exact ⟨a :: L, by simp [ha, hL]⟩
inductive SlD {α : Type} (e : α → D) : D → List α → Prop
  | nil : SlD e .nil []
  | sl (L : List α) : SlD e (.sl (L.map e)) L
theorem SlD.len {α : Type} {e : α → D} {x : D} {L : List α} (h : SlD e x L) {H : List Obj} : qjP .lenL (.d x) H = some (.d (.i .i64 L.length)) := by
  cases h with
  | nil => rfl
  | sl => simp [qjP]
theorem SlD.ix {α : Type} {e : α → D} {x : D} {L : List α} (h : SlD e x L) {k : IntKind} {n size : Nat} {y : α} (he : (e y).cells.length = size) (hn : L[n]? = some y) : iaV (.d x) (.d (.i k (n : Nat))) size none = some (.cp (e y)) := by
  cases h with
  | nil => simp at hn
  | sl => exact qra (by omega) (by simp [hn]) (by simp [he])
theorem qqX {α : Type} {f : α → D} (hu : P.underlying t = some (.slice e)) (h : Arg P t x) (he : ∀ y, Arg P e y → ∃ a, y = f a) : ∃ L, SlD f x L := by
  rcases qoL hu h with rfl | ⟨l, rfl, _, hl⟩
  · exact ⟨[], .nil⟩
  · obtain ⟨L, rfl⟩ := qqg (f := f) (fun y hy => he y (hl y hy))
    exact ⟨L, .sl L⟩
end W

set_option linter.unusedSimpArgs false
set_option linter.unusedVariables false
namespace W
open Go (IntKind BinOp UnOp)
set_option maxRecDepth 20000
def qmc (p : Int × Int) : List Nat := p.1.toNat :: (if j6 p.1 then putV (zig p.2) else [])
def qfM : List (Int × Int) → List Nat
  | [] => []
  | p :: l => qmc p ++ qfM l
theorem qc2 (p : Int × Int) : (eOp p).cells.length = 2 := rfl
theorem qgp {k x : Int} {H : List Obj} : kK pg 21 [.d (.agg [.i .i64 k, .i .i32 x])] H = some ⟨false, true, .d (.b (qcc (k, x))), H, H.length⟩ := qoX (p := (k, x))
def w32 (p : Int × Int) : Prop := -2147483648 ≤ p.2 ∧ p.2 ≤ 2147483647
theorem qlA {p : Int × Int} (h : w32 p) : (qmc p).length ≤ 11 := by
  unfold qmc
  have := qfA (qrB h.1 h.2)
  split <;> simp <;> omega
theorem qmJ {p : Int × Int} (h : qcc p = true) : 0 ≤ p.1 ∧ p.1 < 34 := by
  unfold qcc at h; simp at h; exact h.1
theorem qky {α : Type} {L : List α} {i : Nat} {y : α} (h : L[i]? = some y) : L.drop i = y :: L.drop (i + 1) := by
  obtain ⟨hi, rfl⟩ := List.getElem?_eq_some_iff.1 h
  exact List.drop_eq_getElem_cons hi
end W

set_option linter.unusedSimpArgs false
set_option linter.unusedVariables false
namespace W
open Go (IntKind BinOp UnOp)
set_option maxRecDepth 20000
theorem qmp : ∀ {L : List (Int × Int)}, (∀ p ∈ L, w32 p) → (qfM L).length ≤ 11 * L.length
  | [], _ => by simp [qfM]
  | p :: l, h => by
    have h1 := qlA (h p (by simp))
    have h2 := qmp (L := l) (fun q hq => h q (by simp [hq]))
    simp only [qfM, List.length_append, qvP]; omega
def encode (L : List (Int × Int)) : List Nat := putV L.length ++ qfM L
end W

set_option linter.unusedSimpArgs false
set_option linter.unusedVariables false
namespace W
open Go (IntKind BinOp UnOp)
set_option maxRecDepth 20000
theorem SlD.cut {α : Type} {e : α → D} {x : D} {L : List α} {z : Nat} (h : SlD e x L) (he : ∀ a, (e a).cells.length = z) {lo hi : Option Int} {l t : Nat} (h1 : lo.getD 0 = l) (h2 : hi.getD L.length = t) (h3 : l ≤ t) (h4 : t ≤ L.length) :
    ∃ y, qgs z (.d x) lo hi = some (.d y) ∧ SlD e y ((L.take t).drop l) := by
  cases h with
  | nil =>
    have : t = 0 := by simpa using h4
    subst this
    have : l = 0 := by omega
    subst this
    refine ⟨.nil, ?_, .nil⟩
    have h2 : hi.getD 0 = 0 := h2
    have h1 : lo.getD 0 = 0 := h1
    simp [qgs, qgv, qfT, h1, h2]
  | sl =>
    refine ⟨.sl ((((L.map e).take t).drop l)), ?_, ?_⟩
    · simp only [qgs, qgo he, cond_true, List.length_map, qgv, qfT, h1, h2]
      simp [h3, h4]
    · rw [← List.map_take, ← List.map_drop]; exact .sl _
def rdB (i acc : Nat) : List Nat → Option (Nat × Nat)
  | [] => none
  | c :: l => if (i = 9 ∧ 1 < c) ∨ (0 < i ∧ c = 0) then none else if c < 128 then some (acc + c % 128 * 2 ^ (7 * i), i + 1) else rdB (i + 1) (acc + c % 128 * 2 ^ (7 * i)) l
def rdV : Option (Nat × Nat) → Int | none => 0 | some p => (p.1 : Int)
def rdN : Option (Nat × Nat) → Int | none => 0 | some p => (p.2 : Int)
theorem qn5 {c : Nat} (h : c < 256) : qqk .u8 (c : Int) 127 = ((c % 128 : Nat) : Int) := by
  have key : ∀ m : Fin 256, qqk .u8 ((m.val : Nat) : Int) 127 = ((m.val % 128 : Nat) : Int) := by decide +kernel
  exact key ⟨c, h⟩
theorem qhd {acc d i : Nat} (h1 : acc < 2 ^ (7 * i)) (h2 : d < 128) (h3 : i < 9 ∨ (i = 9 ∧ d ≤ 1)) :
    orI .u64 (acc : Int) (wr .u64 ((d : Int) * 2 ^ (min ((7 * i : Nat) : Int).toNat (IntKind.bits .u64)))) = ((acc + d * 2 ^ (7 * i) : Nat) : Int) ∧ acc + d * 2 ^ (7 * i) < 2 ^ 64 ∧ (i < 9 → acc + d * 2 ^ (7 * i) < 2 ^ (7 * (i + 1))) := by
  have e1 : min ((7 * i : Nat) : Int).toNat (IntKind.bits .u64) = 7 * i := by show min _ 64 = _; omega
  have e3 : i < 9 → acc + d * 2 ^ (7 * i) < 2 ^ (7 * (i + 1)) := fun _ => by
    have : 2 ^ (7 * (i + 1)) = 128 * 2 ^ (7 * i) := by rw [show 7 * (i + 1) = 7 + 7 * i by omega, Nat.pow_add]
    rw [this]
    have : d * 2 ^ (7 * i) ≤ 127 * 2 ^ (7 * i) := Nat.mul_le_mul_right _ (by omega)
    omega
  have e2 : acc + d * 2 ^ (7 * i) < 2 ^ 64 := by
    rcases h3 with h | ⟨rfl, hd⟩
    · have := e3 h
      have : 2 ^ (7 * (i + 1)) ≤ 2 ^ 64 := Nat.pow_le_pow_right (by omega) (by omega)
      omega
    · have : d * 2 ^ (7 * 9) ≤ 1 * 2 ^ (7 * 9) := Nat.mul_le_mul_right _ hd
      omega
  refine ⟨?_, e2, e3⟩
  rw [e1]
  have e4 : ((d : Int) * 2 ^ (7 * i)) = ((d * 2 ^ (7 * i) : Nat) : Int) := by push_cast; rfl
  rw [e4, qcD (by omega) (by omega)]
  unfold orI
  show IntKind.wrap .u64 ((BitVec.ofInt 64 (acc : Int) ||| BitVec.ofInt 64 ((d * 2 ^ (7 * i) : Nat) : Int)).toNat : Int) = _
  have e : (BitVec.ofInt 64 (acc : Int) ||| BitVec.ofInt 64 ((d * 2 ^ (7 * i) : Nat) : Int)).toNat = acc + d * 2 ^ (7 * i) := by
    rw [BitVec.toNat_or, BitVec.toNat_ofInt, BitVec.toNat_ofInt]
    have f1 : ((acc : Int) % ((2 ^ 64 : Nat) : Int)).toNat = acc := by omega
    have f2 : (((d * 2 ^ (7 * i) : Nat) : Int) % ((2 ^ 64 : Nat) : Int)).toNat = d * 2 ^ (7 * i) := by omega
    rw [f1, f2, Nat.or_comm]
    have := Nat.two_pow_add_eq_or_of_lt (i := 7 * i) (b := acc) h1 d
    rw [Nat.mul_comm] at this
    omega
  rw [e, qiW _ (by omega)]
theorem qhU {H : List Obj} {y : D} {Y : List Nat} (hs : SlD e8 y Y) (hY : Y.length ≤ 10) (hb : ∀ c ∈ Y, c < 256) : ∀ (n i acc : Nat), Y.length - i = n → i ≤ Y.length → acc < 2 ^ (7 * i) → acc < 2 ^ 64 →
    ∃ e, qc6 pg (jl 0 [] (qaP pg (.d (.i .u64 (acc : Int))) (.d y) (.d (.i .i64 (Y.length : Nat))) (.d (.i .i64 (i : Nat))) H H.length)) qch = some (.ret, ⟨e, H, H.length⟩) ∧
      get 2 e = .d (.i .u64 (rdV (rdB i acc (Y.drop i)))) ∧ get 3 e = .d (.i .i64 (rdN (rdB i acc (Y.drop i)))) ∧ get 4 e = .d (.b (rdB i acc (Y.drop i)).isSome)
  | 0, i, acc, hn, hi, ha, _ => by
    have hd : Y.drop i = [] := List.drop_eq_nil_of_le (by omega)
    rw [hd]
    have hlt : ((i : Int) < (Y.length : Int)) = False := by rw [eq_iff_iff]; simp; omega
    rw [kR]
    simp only [kU, qX, ql, qk, qf, qe, kf, qvR, kC, Nat.reduceEqDiff, qs, qr, qm, kJ, hlt, decide_false, qh, qD, qT, qa, qb, qj, qw, qvA, ↓reduceIte, qa4, yn, jQ, qO, qch, qc, kH, qA, qJ, rdV, rdB, rdN]
    exact ⟨_, rfl, rfl, rfl, rfl⟩
  | n + 1, i, acc, hn, hi, ha, ha2 => by
    have hlt : ((i : Int) < (Y.length : Int)) = True := by rw [eq_iff_iff]; simp; omega
    obtain ⟨c, hy⟩ : ∃ p, Y[i]? = some p := ⟨Y[i]'(by omega), by simp⟩
    have hd := qky hy
    have hx := hs.ix (k := .i64) (qba _) hy
    have hc := hb c (List.mem_of_getElem? hy)
    simp only [e8] at hx
    have hw : wr .i64 ((i : Int) + 1) = ((i + 1 : Nat) : Int) := by rw [jt (by omega) (by omega)]; omega
    have h7 : wr .i64 (7 * (i : Int)) = ((7 * i : Nat) : Int) := by rw [jt (by omega) (by omega)]; omega
    have h8 : wr .u64 ((7 * i : Nat) : Int) = ((7 * i : Nat) : Int) := qcD (by omega) (by omega)
    have h9 : wr .u64 ((c % 128 : Nat) : Int) = ((c % 128 : Nat) : Int) := qcD (by omega) (by omega)
    have ha7 := qn5 hc
    have hge : ((0 : Int) ≤ ((7 * i : Nat) : Int)) = True := eq_true (by omega)
    rw [hd]
    by_cases q1 : (i : Int) = 9
    · have r1 := eq_true q1
      by_cases q2 : (1 : Int) < (c : Int)
      · have r2 := eq_true q2
        rw [show rdB i acc (c :: Y.drop (i + 1)) = none by rw [rdB, if_pos (by omega)]]
        rw [kR]
        simp only [kU, qX, ql, qk, qf, qe, kf, qvR, kC, Nat.reduceEqDiff, qs, qr, qm, kJ, hlt, decide_true, qh, qD, qT, qa, qb, qj, qw, ↓reduceIte, qI, qq, qc, qn, qu, hx, zY, qW, kI, ku, kx, qvK, kH, qY, r1, qQ, zc, kg, zy, r2, qz, kv, kh, qvN, qvA, ky, qkH, qU, qcN, qA, qJ, qL, qZ, rdV, rdN, Option.isSome_none]
        exact ⟨_, rfl, rfl, rfl, rfl⟩
      · have r2 := eq_false q2
        by_cases q4 : (c : Int) = 0
        · have r4 := eq_true q4
          have q3 : (0 : Int) < (i : Int) := by omega
          have r3 := eq_true q3
          rw [show rdB i acc (c :: Y.drop (i + 1)) = none by rw [rdB, if_pos (by omega)]]
          rw [kR]
          simp only [kU, qX, ql, qk, qf, qe, kf, qvR, kC, Nat.reduceEqDiff, qs, qr, qm, kJ, hlt, decide_true, qh, qD, qT, qa, qb, qj, qw, ↓reduceIte, qI, qq, qc, qn, qu, hx, zY, qW, kI, ku, kx, qvK, kH, qY, r1, qQ, zc, kg, zy, r2, decide_false, qz, kv, kh, Bool.not_false, r3, r4, qvA, qA, qJ, qL, qZ, rdV, rdN, Option.isSome_none]
          exact ⟨_, rfl, rfl, rfl, rfl⟩
        · have r4 := eq_false q4
          have q3 : (0 : Int) < (i : Int) := by omega
          have r3 := eq_true q3
          have q5 : (c : Int) < 128 := by omega
          have r5 := eq_true q5
          obtain ⟨o1, o2, o3⟩ := qhd (acc := acc) (d := c % 128) (i := i) ha (by omega) (by omega)
          rw [show rdB i acc (c :: Y.drop (i + 1)) = some (acc + c % 128 * 2 ^ (7 * i), i + 1) by rw [rdB, if_neg (by omega), if_pos (by omega)]]
          rw [kR]
          simp only [kU, qX, ql, qk, qf, qe, kf, qvR, kC, Nat.reduceEqDiff, qs, qr, qm, kJ, hlt, decide_true, qh, qD, qT, qa, qb, qj, qw, ↓reduceIte, qI, qq, qc, qn, qu, hx, zY, qW, kI, ku, kx, qvK, kH, qY, r1, qQ, zc, kg, zy, r2, decide_false, qz, kv, kh, Bool.not_false, r3, r4, qvA, yy, ha7, qE, h9, Bool.or_false, qbZ, h7, h8, hge, qaM, qbJ, o1, r5, jF, hw, qA, qJ, qZ, qL, rdV, rdN, Option.isSome_some]
          exact ⟨_, rfl, rfl, rfl, rfl⟩
    · have r1 := eq_false q1
      by_cases q3 : (0 : Int) < (i : Int)
      · have r3 := eq_true q3
        by_cases q4 : (c : Int) = 0
        · have r4 := eq_true q4
          rw [show rdB i acc (c :: Y.drop (i + 1)) = none by rw [rdB, if_pos (by omega)]]
          rw [kR]
          simp only [kU, qX, ql, qk, qf, qe, kf, qvR, kC, Nat.reduceEqDiff, qs, qr, qm, kJ, hlt, decide_true, qh, qD, qT, qa, qb, qj, qw, ↓reduceIte, qI, qq, qc, qn, qu, hx, zY, qW, kI, ku, kx, qvK, kH, qY, r1, decide_false, qQ, zc, kg, qvA, ky, qz, qU, qap, kh, Bool.not_false, zy, r3, r4, kv, qA, qJ, qL, qZ, rdV, rdN, Option.isSome_none]
          exact ⟨_, rfl, rfl, rfl, rfl⟩
        · have r4 := eq_false q4
          by_cases q5 : (c : Int) < 128
          · have r5 := eq_true q5
            obtain ⟨o1, o2, o3⟩ := qhd (acc := acc) (d := c % 128) (i := i) ha (by omega) (by omega)
            rw [show rdB i acc (c :: Y.drop (i + 1)) = some (acc + c % 128 * 2 ^ (7 * i), i + 1) by rw [rdB, if_neg (by omega), if_pos (by omega)]]
            rw [kR]
            simp only [kU, qX, ql, qk, qf, qe, kf, qvR, kC, Nat.reduceEqDiff, qs, qr, qm, kJ, hlt, decide_true, qh, qD, qT, qa, qb, qj, qw, ↓reduceIte, qI, qq, qc, qn, qu, hx, zY, qW, kI, ku, kx, qvK, kH, qY, r1, decide_false, qQ, zc, kg, qvA, ky, qz, qU, qap, kh, Bool.not_false, zy, r3, r4, kv, yy, ha7, qE, h9, Bool.or_false, qbZ, h7, h8, hge, qaM, qbJ, o1, r5, jF, hw, qA, qJ, qZ, qL, rdV, rdN, Option.isSome_some]
            exact ⟨_, rfl, rfl, rfl, rfl⟩
          · have r5 := eq_false q5
            obtain ⟨o1, o2, o3⟩ := qhd (acc := acc) (d := c % 128) (i := i) ha (by omega) (by omega)
            rw [show rdB i acc (c :: Y.drop (i + 1)) = rdB (i + 1) (acc + c % 128 * 2 ^ (7 * i)) (Y.drop (i + 1)) by rw [rdB, if_neg (by omega), if_neg (by omega)]]
            have ih := qhU hs hY hb (H := H) n (i + 1) (acc + c % 128 * 2 ^ (7 * i)) (by omega) (by omega) (o3 (by omega)) o2
            rw [kR]
            simp only [kU, qX, ql, qk, qf, qe, kf, qvR, kC, Nat.reduceEqDiff, qs, qr, qm, kJ, hlt, decide_true, qh, qD, qT, qa, qb, qj, qw, ↓reduceIte, qI, qq, qc, qn, qu, hx, zY, qW, kI, ku, kx, qvK, kH, qY, r1, decide_false, qQ, zc, kg, qvA, ky, qz, qU, qap, kh, Bool.not_false, zy, r3, r4, kv, yy, ha7, qE, h9, Bool.or_false, qbZ, h7, h8, hge, qaM, qbJ, o1, r5, zK, qP, qO, jF, hw, qa0]
            exact ih
      · have r3 := eq_false q3
        by_cases q5 : (c : Int) < 128
        · have r5 := eq_true q5
          obtain ⟨o1, o2, o3⟩ := qhd (acc := acc) (d := c % 128) (i := i) ha (by omega) (by omega)
          rw [show rdB i acc (c :: Y.drop (i + 1)) = some (acc + c % 128 * 2 ^ (7 * i), i + 1) by rw [rdB, if_neg (by omega), if_pos (by omega)]]
          rw [kR]
          simp only [kU, qX, ql, qk, qf, qe, kf, qvR, kC, Nat.reduceEqDiff, qs, qr, qm, kJ, hlt, decide_true, qh, qD, qT, qa, qb, qj, qw, ↓reduceIte, qI, qq, qc, qn, qu, hx, zY, qW, kI, ku, kx, qvK, kH, qY, r1, decide_false, qQ, zc, kg, qvA, ky, qz, qU, qap, kh, Bool.not_false, zy, r3, kv, yy, ha7, qE, h9, Bool.or_false, qbZ, h7, h8, hge, qaM, qbJ, o1, r5, jF, hw, qA, qJ, qZ, qL, rdV, rdN, Option.isSome_some]
          exact ⟨_, rfl, rfl, rfl, rfl⟩
        · have r5 := eq_false q5
          obtain ⟨o1, o2, o3⟩ := qhd (acc := acc) (d := c % 128) (i := i) ha (by omega) (by omega)
          rw [show rdB i acc (c :: Y.drop (i + 1)) = rdB (i + 1) (acc + c % 128 * 2 ^ (7 * i)) (Y.drop (i + 1)) by rw [rdB, if_neg (by omega), if_neg (by omega)]]
          have ih := qhU hs hY hb (H := H) n (i + 1) (acc + c % 128 * 2 ^ (7 * i)) (by omega) (by omega) (o3 (by omega)) o2
          rw [kR]
          simp only [kU, qX, ql, qk, qf, qe, kf, qvR, kC, Nat.reduceEqDiff, qs, qr, qm, kJ, hlt, decide_true, qh, qD, qT, qa, qb, qj, qw, ↓reduceIte, qI, qq, qc, qn, qu, hx, zY, qW, kI, ku, kx, qvK, kH, qY, r1, decide_false, qQ, zc, kg, qvA, ky, qz, qU, qap, kh, Bool.not_false, zy, r3, kv, yy, ha7, qE, h9, Bool.or_false, qbZ, h7, h8, hge, qaM, qbJ, o1, r5, zK, qP, qO, jF, hw, qa0]
          exact ih
def jz (B : List Nat) : Option (Nat × Nat) := rdB 0 0 (B.take 10)
theorem qkd {H : List Obj} {x : D} {B : List Nat} (hs : SlD e8 x B) (hb : ∀ c ∈ B, c < 256) : kK pg 23 [.d x] H = some ⟨false, true, .tup [.d (.i .u64 (rdV (jz B))), .d (.i .i64 (rdN (jz B))), .d (.b (jz B).isSome)], H, H.length⟩ := by
  rw [jE (fn := qcp) rfl rfl]
  obtain ⟨y, hy, hY⟩ := hs.cut (z := 1) qba (lo := none) (hi := some (if (10 : Int) < (B.length : Int) then 10 else (B.length : Int))) (l := 0) (t := min B.length 10) rfl (by simp only [Option.getD_some]; split <;> omega) (by omega) (by omega)
  rw [List.drop_zero, show B.take (min B.length 10) = B.take 10 by rw [Nat.min_comm, ← List.take_take, List.take_length]] at hY
  obtain ⟨e, h1, h2, h3, h4⟩ := qhU (H := H) hY (by simp; omega) (fun c hc => hb c (List.mem_of_mem_take hc)) _ 0 0 rfl (by omega) (by omega) (by omega)
  rw [show ((0 : Nat) : Int) = 0 from rfl] at h1
  rw [List.drop_zero] at h2 h3 h4
  simp only [qcp, qi, qvF, qp, ql, qk, qf, qc, kH, qA, qD, qT, qa, qb, kC, reduceCtorEq, qs, qr, qm, qn, qN, hs.len, qh, qoW, qvM, qvT, qtv, zo, Nat.reduceEqDiff, zV, zU, qcd, jS, hy, hY.len, qq, qa0, qX, h1, qM, qd, qx, h2, kq, h3, h4, qg, qo, zr, kT, zS, qd1, jv, qvL, jy, zl, zk, zM, Nat.max_self, kS, qF, jz]
end W

set_option linter.unusedSimpArgs false
set_option linter.unusedVariables false
namespace W
open Go (IntKind BinOp UnOp)
set_option maxRecDepth 20000
def zag (u : Nat) : Int := if u % 2 = 0 then ((u / 2 : Nat) : Int) else -((u / 2 : Nat) : Int) - 1
theorem qs2 {u : Nat} (h : u < 2 ^ 64) : qqk .u64 (u : Int) 1 = ((u % 2 : Nat) : Int) := by
  unfold qqk
  show IntKind.wrap .u64 ((BitVec.ofInt 64 (u : Int) &&& BitVec.ofInt 64 1).toNat : Int) = _
  have e : (BitVec.ofInt 64 (u : Int) &&& BitVec.ofInt 64 1).toNat = u % 2 := by
    rw [BitVec.toNat_and, BitVec.toNat_ofInt, BitVec.toNat_ofInt]
    have f1 : ((u : Int) % ((2 ^ 64 : Nat) : Int)).toNat = u := by omega
    have f2 : ((1 : Int) % ((2 ^ 64 : Nat) : Int)).toNat = 1 := by omega
    rw [f1, f2, Nat.and_one_is_mod]
  rw [e, qiW _ (by omega)]
theorem qry (n : Nat) (h : n < 9223372036854775808) : IntKind.wrap .i64 (n : Int) = (n : Int) := by
  simp [IntKind.wrap, IntKind.bits, IntKind.signed]; omega
theorem qpS (n : Nat) (h : 9223372036854775808 ≤ n) (h2 : n < 18446744073709551616) : IntKind.wrap .i64 (n : Int) = (n : Int) - 18446744073709551616 := by
  simp [IntKind.wrap, IntKind.bits, IntKind.signed]; omega
theorem qtQ {a : Nat} (h2 : a < 9223372036854775808) : qis .i64 (a : Int) 0 = (a : Int) := by
  unfold qis
  show IntKind.wrap .i64 ((BitVec.ofInt 64 (a : Int) ^^^ BitVec.ofInt 64 0).toNat : Int) = a
  rw [show BitVec.ofInt 64 (0 : Int) = 0#64 from by decide]
  rw [BitVec.xor_zero, BitVec.toNat_ofInt]
  have f1 : ((a : Int) % ((2 ^ 64 : Nat) : Int)).toNat = a := by omega
  rw [f1, qry _ (by omega)]
theorem qs4 {a : Nat} (h2 : a < 9223372036854775808) : qis .i64 (a : Int) (-1) = -(a : Int) - 1 := by
  unfold qis
  show IntKind.wrap .i64 ((BitVec.ofInt 64 (a : Int) ^^^ BitVec.ofInt 64 (-1)).toNat : Int) = _
  rw [show BitVec.ofInt 64 (-1 : Int) = BitVec.allOnes 64 from by decide]
  rw [BitVec.xor_allOnes, BitVec.toNat_not, BitVec.toNat_ofInt]
  have f1 : ((a : Int) % ((2 ^ 64 : Nat) : Int)).toNat = a := by omega
  rw [f1, qpS _ (by omega) (by omega)]
  omega
theorem qp2 : ∀ (l : List Nat) (i acc : Nat), acc < 2 ^ (7 * i) → i ≤ 9 → ∀ p, rdB i acc l = some p → p.1 < 2 ^ 64
  | [], i, acc, _, _, p, h => by simp [rdB] at h
  | c :: l, i, acc, ha, hi, p, h => by
    rw [rdB] at h
    by_cases h1 : (i = 9 ∧ 1 < c) ∨ (0 < i ∧ c = 0)
    · rw [if_pos h1] at h; simp at h
    · rw [if_neg h1] at h
      by_cases h2 : c < 128
      · rw [if_pos h2] at h
        obtain ⟨_, o2, _⟩ := qhd (acc := acc) (d := c % 128) (i := i) ha (by omega) (by omega)
        simp only [Option.some.injEq] at h
        rw [← h]; exact o2
      · rw [if_neg h2] at h
        by_cases h9 : i = 9
        · omega
        · obtain ⟨_, _, o3⟩ := qhd (acc := acc) (d := c % 128) (i := i) ha (by omega) (by omega)
          exact qp2 l (i + 1) _ (o3 (by omega)) (by omega) p h
theorem qfu {B : List Nat} {p : Nat × Nat} (h : jz B = some p) : p.1 < 2 ^ 64 := qp2 _ 0 0 (by omega) (by omega) p h
theorem qtA (B : List Nat) : ∃ u : Nat, rdV (jz B) = (u : Int) ∧ u < 2 ^ 64 := by
  cases h : jz B with
  | none => exact ⟨0, rfl, by omega⟩
  | some p => exact ⟨p.1, rfl, qfu h⟩
def qr8 : Option (Nat × Nat) → Int | none => 0 | some p => zag p.1
theorem qk6 {H : List Obj} {x : D} {B : List Nat} (hs : SlD e8 x B) (hb : ∀ c ∈ B, c < 256) : kK pg 33 [.d x] H = some ⟨false, true, .tup [.d (.i .i64 (qr8 (jz B))), .d (.i .i64 (rdN (jz B))), .d (.b (jz B).isSome)], H, H.length⟩ := by
  rw [jE (fn := yP) rfl rfl]
  have hr := qkd (H := H) hs hb
  obtain ⟨u, hu, hu2⟩ := qtA B
  have hz : qr8 (jz B) = zag u := by
    cases h : jz B with
    | none => rw [h] at hu; simp only [rdV] at hu; have : u = 0 := by omega
              rw [this]; rfl
    | some p => rw [h] at hu; simp only [rdV] at hu; have : u = p.1 := by omega
                rw [this]; rfl
  rw [hz]
  rw [hu] at hr
  have e1 : Int.fdiv (u : Int) (2 ^ (min (1 : Int).toNat (IntKind.bits .u64))) = ((u / 2 : Nat) : Int) := by
    show Int.fdiv (u : Int) (2 ^ 1) = _
    rw [Int.fdiv_eq_ediv_of_nonneg _ (by omega)]; omega
  have e2 : wr .i64 ((u / 2 : Nat) : Int) = ((u / 2 : Nat) : Int) := jt (by omega) (by omega)
  have e3 := qs2 hu2
  by_cases h : u % 2 = 0
  · have e4 : wr .i64 ((u % 2 : Nat) : Int) = 0 := by rw [h]; rfl
    have e5 : wr .i64 (0 - 0) = 0 := rfl
    have e6 : qis .i64 ((u / 2 : Nat) : Int) 0 = zag u := by rw [qtQ (by omega), zag, if_pos h]
    simp only [yP, qi, qvF, qp, ql, qk, qf, qc, kH, qA, qD, qT, qa, qb, jo, reduceCtorEq, qs, qr, zz, kw, qR, qvM, qvT, qC, qK, qG, qvL, kF, hr, qS, qB, qH, Nat.min_self, ky, kC, qU, qn, q9, jH, jL, qh, Nat.reduceEqDiff, jI, qan, qm, qe, kf, kx, qvK, Int.reduceLE, qfC, e1, qE, e2, yy, e3, e4, kL, qkq, Int.sub_self, Int.reduceNeg, jt, qvH, qvR, qkx, e6, qJ, qM, qd, qx, kq, qg, qo, zr, kT, zS, qd1, jv, jy, zl, zk, zM, Nat.max_self, kS, qF]
  · have e4 : wr .i64 ((u % 2 : Nat) : Int) = 1 := by rw [show u % 2 = 1 by omega]; rfl
    have e5 : wr .i64 (0 - 1) = -1 := rfl
    have e5' : wr .i64 (-1) = -1 := rfl
    have e6 : qis .i64 ((u / 2 : Nat) : Int) (-1) = zag u := by rw [qs4 (by omega), zag, if_neg h]
    simp only [yP, qi, qvF, qp, ql, qk, qf, qc, kH, qA, qD, qT, qa, qb, jo, reduceCtorEq, qs, qr, zz, kw, qR, qvM, qvT, qC, qK, qG, qvL, kF, hr, qS, qB, qH, Nat.min_self, ky, kC, qU, qn, q9, jH, jL, qh, Nat.reduceEqDiff, jI, qan, qm, qe, kf, kx, qvK, Int.reduceLE, qfC, e1, qE, e2, yy, e3, e4, kL, qkq, Int.reduceSub, e5', Int.reduceNeg, qvH, qvR, qkx, e6, qJ, qM, qd, qx, kq, qg, qo, zr, kT, zS, qd1, jv, jy, zl, zk, zM, Nat.max_self, kS, qF]
end W

set_option linter.unusedSimpArgs false
set_option linter.unusedVariables false
namespace W
open Go (IntKind BinOp UnOp)
set_option maxRecDepth 20000
def qkk (x : Int) : Bool := decide (-2147483648 ≤ x) && decide (x ≤ 2147483647)
def qag : List Nat → Option ((Int × Int) × Nat)
  | [] => none
  | c :: R => if 34 ≤ c then none else bif j6 c then match jz R with
      | none => none
      | some (u, n) => bif qkk (zag u) then some (((c : Int), zag u), 1 + n) else none
    else some (((c : Int), 0), 1)
def qko : Option ((Int × Int) × Nat) → Int × Int | none => (0, 0) | some p => p.1
def qkj : Option ((Int × Int) × Nat) → Int | none => 0 | some p => (p.2 : Int)
theorem qsS {x : Int} (h : -9223372036854775808 ≤ x) (h' : x ≤ 9223372036854775807) : (x = wr .i64 (wr .i32 x)) ↔ qkk x = true := by
  have hb : -2147483648 ≤ wr .i32 x ∧ wr .i32 x ≤ 2147483647 := by
    rw [qic]; simp only [IntKind.wrap, IntKind.bits, IntKind.signed]; simp; omega
  rw [jt (x := wr .i32 x) (by omega) (by omega)]
  constructor
  · intro e; rw [e]; simp [qkk]; exact hb
  · intro e; simp [qkk] at e; rw [qnf e.1 e.2]
theorem qqn {u : Nat} (h : u < 2 ^ 64) : -9223372036854775808 ≤ zag u ∧ zag u ≤ 9223372036854775807 := by unfold zag; split <;> omega
theorem qrr {B : List Nat} {p : Nat × Nat} (h : jz B = some p) : p.2 ≤ 10 := by
  have key : ∀ (l : List Nat) (i acc : Nat) (p : Nat × Nat), rdB i acc l = some p → p.2 ≤ i + l.length := by
    intro l
    induction l with
    | nil => intro i acc p h; simp [rdB] at h
    | cons c l ih =>
      intro i acc p h
      rw [rdB] at h
      split at h
      · simp at h
      · split at h
        · simp only [Option.some.injEq] at h; rw [← h]; simp
        · have := ih _ _ _ h; simp; omega
  have := key _ 0 0 p h
  simp at this; omega
theorem qrv {H : List Obj} {x : D} {B : List Nat} (hs : SlD e8 x B) (hb : ∀ c ∈ B, c < 256) : kK pg 24 [.d x] H = some ⟨false, true, .tup [.d (eOp (qko (qag B))), .d (.i .i64 (qkj (qag B)))], H, H.length⟩ := by
  rw [jE (fn := yV) rfl rfl]
  cases B with
  | nil =>
    have hl := hs.len (H := H)
    have e0 : (((([] : List Nat).length : Nat) : Int) = 0) = True := by simp
    simp only [yV, qi, qvF, qp, ql, qk, qf, zG, qvM, qvT, qD, ye, kW, yl, zn, qc, kH, qA, qT, qa, qb, kC, reduceCtorEq, qs, qr, qm, qn, qN, hs.len, qvQ, Int.cast_ofNat_Int, qh, qe, kf, kx, qvK, qY, decide_true, qQ, kh, qvN, kg, qvA, ↓reduceIte, ky, Nat.reduceEqDiff, qz, qU, qcN, qj, qw, jM, qal, qak, qaE, qda, qax, jV, yE, zT, zQ, j8, zO, qvP, Nat.reduceAdd, zN, qaC, y8, jr, qvL, jD, Nat.reduceLT, jA, List.set_cons_zero, List.set_cons_succ, z6, yh, qJ, qL, qM, qd, qaG, qee, Nat.reduceLeDiff, qeF, List.drop_zero, List.take_succ_cons, List.take_zero, yz, qx, kq, qg, qo, zr, kT, zS, qd1, jv, jy, zl, zk, zM, Nat.max_self, kS, qF, eOp, qko, qag, qkj]
  | cons c R =>
    have e0 : ((((c :: R).length : Nat) : Int) = 0) = False := by simp; omega
    have hc := hb c (by simp)
    have hx := hs.ix (k := .i64) (n := 0) (qba c) (by simp)
    rw [show ((0 : Nat) : Int) = 0 from rfl] at hx
    simp only [e8] at hx
    have hw : wr .i64 (c : Int) = (c : Int) := jt (by omega) (by omega)
    by_cases h34 : 34 ≤ c
    · have h34' : ((34 : Int) ≤ (c : Int)) = True := eq_true (by omega)
      rw [show qag (c :: R) = none by rw [qag, if_pos h34]]
      generalize hn : (((c :: R).length : Nat) : Int) = n at *
      have hl : ∀ H, qjP .lenL (.d x) H = some (.d (.i .i64 n)) := fun H => by rw [hs.len, hn]
      simp only [yV, qi, qvF, qp, ql, qk, qf, zG, qvM, qvT, qD, ye, kW, yl, zn, qc, kH, qA, qT, qa, qb, kC, reduceCtorEq, qs, qr, qm, qn, qN, hl, qh, qe, kf, kx, qvK, qY, e0, decide_false, qQ, kh, Bool.not_false, kg, ↓reduceIte, Nat.reduceEqDiff, qu, hx, zY, qW, kI, ku, qE, hw, ym, h34', decide_true, qz, kv, qvA, qj, qw, jM, qal, qak, qaE, qda, qax, jV, yE, zT, zQ, j8, zO, qvP, qvQ, Nat.reduceAdd, zN, qaC, y8, jr, qvL, jD, Nat.reduceLT, jA, List.set_cons_zero, List.set_cons_succ, z6, yh, qJ, qL, qM, qd, qaG, qee, Nat.reduceLeDiff, qeF, List.drop_zero, List.take_succ_cons, List.take_zero, yz, qx, kq, qg, qo, zr, kT, zS, qd1, jv, jy, zl, zk, zM, Nat.max_self, kS, qF, eOp, qko, qkj]
    · have h34' : ((34 : Int) ≤ (c : Int)) = False := eq_false (by omega)
      have hl : ∀ H, qjP .lenL (.d x) H = some (.d (.i .i64 (((c :: R).length : Nat) : Int))) := fun H => hs.len
      obtain ⟨y, hy, hY⟩ := hs.cut (z := 1) qba (lo := some 1) (hi := none) (l := 1) (t := (c :: R).length) rfl rfl (by simp) (by omega)
      generalize hn : (((c :: R).length : Nat) : Int) = n at *
      rw [List.take_length, List.drop_succ_cons, List.drop_zero] at hY
      cases hh : j6 (c : Int)
      · rw [show qag (c :: R) = some (((c : Int), 0), 1) by rw [qag, if_neg h34, hh]; rfl]
        simp only [yV, qi, qvF, qp, ql, qk, qf, zG, qvM, qvT, qD, ye, kW, yl, zn, qc, kH, qA, qT, qa, qb, kC, reduceCtorEq, qs, qr, qm, qn, qN, hl, qh, qe, kf, kx, qvK, qY, e0, decide_false, qQ, kh, Bool.not_false, kg, ↓reduceIte, Nat.reduceEqDiff, qu, hx, zY, qW, kI, ku, qE, hw, ym, h34', qz, kv, qvA, qj, qw, qI, jM, y8, qcB, qaC, qvP, qvQ, Nat.reduceAdd, Nat.reduceLT, qdo, List.set_cons_zero, qal, qak, qaE, qda, qax, jV, yE, qcs, qfy, zT, zQ, j8, zO, zN, jr, qvL, jD, jA, List.set_cons_succ, z6, yh, kB, qck, Nat.add_zero, qb6, yK, yf, qci, qvS, qvH, yz, qR, qC, qK, qG, kF, qgY, hh, qS, qB, qH, Nat.min_self, kL, jm, Nat.reduceLeDiff, qeF, List.drop_zero, List.take_succ_cons, List.take_zero, qJ, qL, qM, qd, qaG, qee, qx, kq, qg, qo, zr, kT, zS, qd1, jv, jy, zl, zk, zM, Nat.max_self, kS, qF, eOp, qko, qkj, Int.cast_ofNat_Int]
      · have hr := qk6 (H := H) hY (fun c hc => hb c (by simp [hc]))
        cases hq : jz R with
        | none =>
          rw [hq] at hr
          rw [show qag (c :: R) = none by rw [qag, if_neg h34, hh, hq]; rfl]
          simp only [qr8, rdN, Option.isSome_none] at hr
          simp only [yV, qi, qvF, qp, ql, qk, qf, zG, qvM, qvT, qD, ye, kW, yl, zn, qc, kH, qA, qT, qa, qb, kC, reduceCtorEq, qs, qr, qm, qn, qN, hl, qh, qe, kf, kx, qvK, qY, e0, decide_false, qQ, kh, Bool.not_false, kg, ↓reduceIte, Nat.reduceEqDiff, qu, hx, zY, qW, kI, ku, qE, hw, ym, h34', qz, kv, qvA, qj, qw, qI, jM, y8, qcB, qaC, qvP, qvQ, Nat.reduceAdd, Nat.reduceLT, qdo, List.set_cons_zero, qal, qak, qaE, qda, qax, jV, yE, qcs, qfy, zT, zQ, j8, zO, zN, jr, qvL, jD, jA, List.set_cons_succ, z6, yh, kB, qck, Nat.add_zero, qb6, yK, yf, qci, qvS, qvH, yz, qR, qC, qK, qG, kF, qgY, hh, qS, qB, qH, Nat.min_self, kL, jm, qvN, zo, zU, qcd, zV, jS, hy, hr, ky, qU, q9, jH, jL, jI, qan, qcN, qJ, qL, qM, qd, qaG, qee, Nat.reduceLeDiff, qeF, List.drop_zero, List.take_succ_cons, List.take_zero, qx, kq, qg, qo, zr, kT, zS, qd1, jv, jy, zl, zk, zM, Nat.max_self, kS, qF, eOp, qko, qkj]
        | some p =>
          obtain ⟨u, m⟩ := p
          rw [hq] at hr
          simp only [qr8, rdN, Option.isSome_some] at hr
          have hz := qqn (qfu hq)
          have hm := qrr hq
          simp only [] at hz hm
          have h32 := qsS hz.1 hz.2
          cases hk : qkk (zag u)
          · have h32' : (zag u = wr .i64 (wr .i32 (zag u))) = False := by rw [eq_iff_iff, h32, hk]; simp
            rw [show qag (c :: R) = none by rw [qag, if_neg h34, hh, hq]; simp [hk]]
            simp only [yV, qi, qvF, qp, ql, qk, qf, zG, qvM, qvT, qD, ye, kW, yl, zn, qc, kH, qA, qT, qa, qb, kC, reduceCtorEq, qs, qr, qm, qn, qN, hl, qh, qe, kf, kx, qvK, qY, e0, decide_false, qQ, kh, Bool.not_false, kg, ↓reduceIte, Nat.reduceEqDiff, qu, hx, zY, qW, kI, ku, qE, hw, ym, h34', qz, kv, qvA, qj, qw, qI, jM, y8, qcB, qaC, qvP, qvQ, Nat.reduceAdd, Nat.reduceLT, qdo, List.set_cons_zero, qal, qak, qaE, qda, qax, jV, yE, qcs, qfy, zT, zQ, j8, zO, zN, jr, qvL, jD, jA, List.set_cons_succ, z6, yh, kB, qck, Nat.add_zero, qb6, yK, yf, qci, qvS, qvH, yz, qR, qC, qK, qG, kF, qgY, hh, qS, qB, qH, Nat.min_self, kL, jm, qvN, zo, zU, qcd, zV, jS, hy, hr, ky, qU, q9, jH, jL, jI, qan, qvR, qdw, h32', qJ, qL, qM, qd, qaG, qee, Nat.reduceLeDiff, qeF, List.drop_zero, List.take_succ_cons, List.take_zero, qx, kq, qg, qo, zr, kT, zS, qd1, jv, jy, zl, zk, zM, Nat.max_self, kS, qF, eOp, qko, qkj]
          · have h32' : (zag u = wr .i64 (wr .i32 (zag u))) = True := eq_true (h32.2 hk)
            have hk' := hk
            simp [qkk] at hk'
            have h33 : wr .i32 (zag u) = zag u := qnf hk'.1 hk'.2
            have h35 : wr .i64 (zag u) = zag u := jt (by omega) (by omega)
            have h36 : wr .i64 (1 + (m : Int)) = ((1 + m : Nat) : Int) := by rw [jt (by omega) (by omega)]; omega
            rw [show qag (c :: R) = some (((c : Int), zag u), 1 + m) by rw [qag, if_neg h34, hh, hq]; simp [hk]]
            simp only [yV, qi, qvF, qp, ql, qk, qf, zG, qvM, qvT, qD, ye, kW, yl, zn, qc, kH, qA, qT, qa, qb, kC, reduceCtorEq, qs, qr, qm, qn, qN, hl, qh, qe, kf, kx, qvK, qY, e0, decide_false, qQ, kh, Bool.not_false, kg, ↓reduceIte, Nat.reduceEqDiff, qu, hx, zY, qW, kI, ku, qE, hw, ym, h34', qz, kv, qvA, qj, qw, qI, jM, y8, qcB, qaC, qvP, qvQ, Nat.reduceAdd, Nat.reduceLT, qdo, List.set_cons_zero, qal, qak, qaE, qda, qax, jV, yE, qcs, qfy, zT, zQ, j8, zO, zN, jr, qvL, jD, jA, List.set_cons_succ, z6, yh, kB, qck, Nat.add_zero, qb6, yK, yf, qci, qvS, qvH, yz, qR, qC, qK, qG, kF, qgY, hh, qS, qB, qH, Nat.min_self, kL, jm, qvN, zo, zU, qcd, zV, jS, hy, hr, ky, qU, q9, jH, jL, jI, qan, h33, h35, qvR, qdw, decide_true, jo, zz, kw, qf7, Nat.reduceLeDiff, qeF, List.drop_zero, List.take_succ_cons, List.take_zero, Bool.or_false, jF, h36, qJ, qM, qd, qaG, qee, qx, kq, qg, qo, zr, kT, zS, qd1, jv, jy, zl, zk, zM, Nat.max_self, kS, qF, eOp, qko, qkj]
end W

set_option linter.unusedSimpArgs false
set_option linter.unusedVariables false
namespace W
open Go (IntKind BinOp UnOp)
set_option maxRecDepth 20000
theorem qgO {α : Type} {e : α → D} {L : List α} : SlD e (slD e L) L := by
  cases L with
  | nil => exact .nil
  | cons a l => exact .sl (a :: l)
theorem qeJ {B : List Nat} {p : Nat × Nat} (h : jz B = some p) : p.2 ≤ B.length := by
  have key : ∀ (l : List Nat) (i acc : Nat) (p : Nat × Nat), rdB i acc l = some p → p.2 ≤ i + l.length := by
    intro l
    induction l with
    | nil => intro i acc p h; simp [rdB] at h
    | cons c l ih =>
      intro i acc p h
      rw [rdB] at h
      split at h
      · simp at h
      · split at h
        · simp only [Option.some.injEq] at h; rw [← h]; simp
        · have := ih _ _ _ h; simp; omega
  have := key _ 0 0 p h
  simp at this; omega
theorem qsl {B : List Nat} {p : Int × Int} {k : Nat} (h : qag B = some (p, k)) : 0 < k ∧ k ≤ B.length := by
  cases B with
  | nil => simp [qag] at h
  | cons c R =>
    rw [qag] at h
    split at h
    · simp at h
    · cases hh : j6 (c : Int) <;> rw [hh] at h
      · simp at h; simp; omega
      · simp only [cond_true] at h
        cases hq : jz R with
        | none => rw [hq] at h; simp at h
        | some q =>
          have := qeJ hq
          rw [hq] at h
          simp only at h
          cases hk : qkk (zag q.1) <;> rw [hk] at h
          · simp at h
          · simp at h; simp; omega
def qcX : Nat → List Nat → Option (List (Int × Int) × Nat)
  | 0, _ => some ([], 0)
  | n + 1, B => match qag B with
    | none => none
    | some (p, k) => match qcX n (B.drop k) with
      | none => none
      | some (l, m) => some (p :: l, k + m)
theorem qlE {H : List Obj} {x : D} {B : List Nat} (hs : SlD e8 x B) (hB : B.length ≤ 100000) (hb : ∀ c ∈ B, c < 256) {n : Nat} (hn0 : n ≤ 100000) : ∀ (f i at' : Nat) (acc : List (Int × Int)), n - i = f → i ≤ n → at' ≤ B.length → acc.length + f ≤ 100000 →
    (∀ l m, qcX f (B.drop at') = some (l, m) → at' + m ≤ B.length ∧ jl 0 [0, 5, 7] (je pg (.d x) (.d (.i .i64 (at' : Nat))) (slV eOp acc) (.d (.i .u64 (n : Nat))) (.d (.i .u64 (i : Nat))) H H.length) = some (.nrm, ⟨[(0, .d x), (5, .d (.i .i64 ((at' + m : Nat) : Int))), (7, slV eOp (acc ++ l))], H, H.length⟩)) ∧
    (qcX f (B.drop at') = none → ∃ e, jl 0 [0, 5, 7] (je pg (.d x) (.d (.i .i64 (at' : Nat))) (slV eOp acc) (.d (.i .u64 (n : Nat))) (.d (.i .u64 (i : Nat))) H H.length) = some (.ret, ⟨e, H, H.length⟩) ∧ get 2 e = .d .nil ∧ get 3 e = .d (.i .i64 20))
  | 0, i, at', acc, hn, hi, hat, ha => by
    refine ⟨fun l m h => ?_, fun h => by simp [qcX] at h⟩
    simp only [qcX, Option.some.injEq, Prod.mk.injEq] at h
    obtain ⟨rfl, rfl⟩ := h
    have hlt : ((i : Int) < (n : Int)) = False := by rw [eq_iff_iff]; simp; omega
    refine ⟨by omega, ?_⟩
    rw [qa1]
    simp only [yH, qX, qai, ql, qk, qf, qe, kf, qvR, kC, reduceCtorEq, qs, Nat.reduceEqDiff, qr, qm, kJ, hlt, decide_false, qh, qD, qT, qa, qb, qj, qw, qvA, ↓reduceIte, qa4, yn, jQ, qP, qO, Nat.add_zero, List.append_nil]
  | f + 1, i, at', acc, hn, hi, hat, ha => by
    have hlt : ((i : Int) < (n : Int)) = True := by rw [eq_iff_iff]; simp; omega
    obtain ⟨y, hy, hY⟩ := hs.cut (z := 1) qba (lo := some (at' : Int)) (hi := none) (l := at') (t := B.length) rfl rfl hat (qvC _)
    rw [List.take_length] at hY
    have h1 := qrv (H := H) hY (fun c hc => hb c (List.mem_of_mem_drop hc))
    have hw : wr .u64 ((i : Int) + 1) = ((i + 1 : Nat) : Int) := by rw [qcD (by omega) (by omega)]; omega
    rw [qcX]
    cases ho : qag (B.drop at') with
    | none =>
      rw [ho] at h1
      simp only [qko, qkj, eOp] at h1
      refine ⟨fun l m h => by simp at h, fun _ => ?_⟩
      rw [qa1]
      simp only [yH, qX, qai, ql, qk, qf, qe, kf, qvR, kC, reduceCtorEq, qs, Nat.reduceEqDiff, qr, qm, kJ, hlt, decide_true, qh, qD, qT, qa, qb, qj, qw, ↓reduceIte, qI, qq, qc, qn, zo, zU, qcd, zV, jS, hy, qR, qvM, qvT, qC, qK, qG, qvL, kF, h1, qS, qB, qH, Nat.min_self, ky, qU, q9, jH, jL, jI, zG, ye, kW, yl, qkb, qcZ, zn, zT, zQ, j8, zO, qvP, qvQ, qvF, Nat.reduceAdd, zN, qaC, y8, jr, jD, Nat.reduceLT, jA, List.set_cons_zero, List.set_cons_succ, z6, yh, kx, qvK, kH, qY, qA, qJ, qL, qZ]
      exact ⟨_, rfl, rfl, rfl⟩
    | some pk =>
      obtain ⟨⟨pk1, pk2⟩, k⟩ := pk
      obtain ⟨k1, k2⟩ := qsl ho
      rw [List.length_drop] at k2
      rw [ho] at h1
      simp only [qko, qkj, eOp] at h1
      have hk0 : ((k : Int) = 0) = False := by rw [eq_iff_iff]; simp; omega
      have hw2 : wr .i64 ((at' : Int) + (k : Int)) = ((at' + k : Nat) : Int) := by rw [jt (by omega) (by omega)]; omega
      have ha1 : yg 2 16 (slV eOp acc) (.d (.sl [.agg [.i .i64 pk1, .i .i32 pk2]])) = some (slV eOp (acc ++ [(pk1, pk2)])) := qjl (x := (pk1, pk2)) qc2 (qgL (by omega) (by omega))
      have ih := qlE hs hB hb hn0 (H := H) f (i + 1) (at' + k) (acc ++ [(pk1, pk2)]) (by omega) (by omega) (by omega) (by simp; omega)
      simp only [List.drop_drop]
      have key : jl 0 [0, 5, 7] (je pg (.d x) (.d (.i .i64 (at' : Nat))) (slV eOp acc) (.d (.i .u64 (n : Nat))) (.d (.i .u64 (i : Nat))) H H.length) = jl 0 [0, 5, 7] (je pg (.d x) (.d (.i .i64 ((at' + k : Nat) : Int))) (slV eOp (acc ++ [(pk1, pk2)])) (.d (.i .u64 (n : Nat))) (.d (.i .u64 ((i + 1 : Nat) : Int))) H H.length) := by
        rw [qa1]
        simp only [yH, qX, qai, ql, qk, qf, qe, kf, qvR, kC, reduceCtorEq, qs, Nat.reduceEqDiff, qr, qm, kJ, hlt, decide_true, qh, qD, qT, qa, qb, qj, qw, ↓reduceIte, qI, qq, qc, qn, zo, zU, qcd, zV, jS, hy, qR, qvM, qvT, qC, qK, qG, qvL, kF, h1, qS, qB, qH, Nat.min_self, ky, qU, q9, jH, jL, jI, zG, ye, kW, yl, qkb, qcZ, zn, zT, zQ, j8, zO, qvP, qvQ, qvF, Nat.reduceAdd, zN, qaC, y8, jr, jD, Nat.reduceLT, jA, List.set_cons_zero, List.set_cons_succ, z6, yh, kx, qvK, kH, qY, hk0, decide_false, qvA, jo, qhE, kw, qlf, qW, yf, Nat.reduceLeDiff, qeF, List.drop_zero, List.take_succ_cons, List.take_zero, yz, qaE, qda, qax, jV, yE, kE, qgl, List.reduceReplicate, jX, yO, qaF, qnz, qf9, qhH, qbV, qab, qaL, qex, jc, ha1, qhB, jF, hw2, zK, qP, qO, hw, yA]
      rw [key]
      cases hd : qcX f (B.drop (at' + k)) with
      | none =>
        refine ⟨fun l m h => by simp at h, fun _ => ih.2 hd⟩
      | some lm =>
        obtain ⟨l', m'⟩ := lm
        refine ⟨fun l m h => ?_, fun h => by simp at h⟩
        simp only [Option.some.injEq, Prod.mk.injEq] at h
        obtain ⟨rfl, rfl⟩ := h
        obtain ⟨g1, g2⟩ := ih.1 l' m' hd
        refine ⟨by omega, ?_⟩
        rw [g2, List.append_assoc, Nat.add_assoc]
        rfl
theorem ql9 : (.d .nil : V) = slV eOp [] := rfl
def decode (B : List Nat) : Option (List (Int × Int)) := match jz B with
  | none => none
  | some (n, at') => if B.length < n then none else match qcX n (B.drop at') with
    | none => none
    | some (l, m) => if at' + m = B.length then some l else none
theorem qmI {H : List Obj} {x : D} {B : List Nat} (hs : SlD e8 x B) (hB : B.length ≤ 100000) (hb : ∀ c ∈ B, c < 256) :
    (∀ l, decode B = some l → kK pg 11 [.d x] H = some ⟨false, true, .tup [.d (slD eOp l), .d (.i .i64 0)], H, H.length⟩) ∧
    (decode B = none → kK pg 11 [.d x] H = some ⟨false, true, .tup [.d .nil, .d (.i .i64 20)], H, H.length⟩) := by
  rw [jE (fn := jP) rfl rfl]
  have hr := qkd (H := H) hs hb
  have hw : wr .u64 (B.length : Int) = (B.length : Int) := qcD (by omega) (by omega)
  unfold decode
  cases hq : jz B with
  | none =>
    rw [hq] at hr
    simp only [rdV, rdN, Option.isSome_none] at hr
    refine ⟨fun l h => by simp at h, fun _ => ?_⟩
    simp only [jP, qi, qvF, qp, ql, qk, qf, qc, kH, qA, qD, qT, qa, qb, kC, reduceCtorEq, qs, qr, qm, qn, qR, qvM, qvT, qC, qK, qG, qvL, kF, hr, qS, qB, qH, Nat.min_self, ky, qU, q9, jH, jL, qh, Nat.reduceEqDiff, jI, qan, kL, jm, Bool.not_false, qvH, qQ, kh, qvN, kg, qvA, ↓reduceIte, qz, qcN, qj, qw, qJ, qL, qM, qd, qx, kq, qg, qo, zr, kT, zS, qd1, jv, jy, zl, zk, zM, Nat.max_self, kS, qF]
  | some p =>
    obtain ⟨n, at'⟩ := p
    have hat := qeJ hq
    simp only [] at hat
    rw [hq] at hr
    simp only [rdV, rdN, Option.isSome_some] at hr
    by_cases hn : B.length < n
    · have hn' : ((B.length : Int) < (n : Int)) = True := eq_true (by omega)
      simp only [if_pos hn]
      refine ⟨fun l h => by simp at h, fun _ => ?_⟩
      simp only [jP, qi, qvF, qp, ql, qk, qf, qc, kH, qA, qD, qT, qa, qb, kC, reduceCtorEq, qs, qr, qm, qn, qR, qvM, qvT, qC, qK, qG, qvL, kF, hr, qS, qB, qH, Nat.min_self, ky, qU, q9, jH, jL, qh, Nat.reduceEqDiff, jI, qan, kL, jm, qvN, qvH, qQ, kh, Bool.not_false, kg, ↓reduceIte, qN, hs.len, qE, hw, qe, kf, qvR, zy, hn', decide_true, qz, kv, qvA, qj, qw, qJ, qL, qM, qd, qx, kq, qg, qo, zr, kT, zS, qd1, jv, jy, zl, zk, zM, Nat.max_self, kS, qF]
    · have hn' : ((B.length : Int) < (n : Int)) = False := eq_false (by omega)
      simp only [if_neg hn]
      have hl := qlE (n := n) hs hB hb (by omega) (H := H) n 0 at' [] (by omega) (by omega) hat (by simp; omega)
      rw [← ql9, show ((0 : Nat) : Int) = 0 from rfl] at hl
      cases hd : qcX n (B.drop at') with
      | none =>
        obtain ⟨e, g1, g2, g3⟩ := hl.2 hd
        refine ⟨fun l h => by simp at h, fun _ => ?_⟩
        simp only [jP, qi, qvF, qp, ql, qk, qf, qc, kH, qA, qD, qT, qa, qb, kC, reduceCtorEq, qs, qr, qm, qn, qR, qvM, qvT, qC, qK, qG, qvL, kF, hr, qS, qB, qH, Nat.min_self, ky, qU, q9, jH, jL, qh, Nat.reduceEqDiff, jI, qan, kL, jm, qvN, qvH, qQ, kh, Bool.not_false, kg, ↓reduceIte, qN, hs.len, qE, hw, qe, kf, qvR, zy, hn', decide_false, qz, kv, qvA, qj, qw, qI, qq, yA, qX, g1, qL, qM, qd, qx, g2, kq, g3, qg, qo, zr, kT, zS, qd1, jv, jy, zl, zk, zM, Nat.max_self, kS, qF]
      | some lm =>
        obtain ⟨l', m'⟩ := lm
        obtain ⟨g0, g1⟩ := hl.1 l' m' hd
        simp only [List.nil_append] at g1
        simp only []
        by_cases he : at' + m' = B.length
        · have he' : (((at' + m' : Nat) : Int) = (B.length : Int)) = True := eq_true (by omega)
          refine ⟨fun l h => ?_, fun h => by simp [he] at h⟩
          rw [if_pos he] at h
          simp only [Option.some.injEq] at h
          subst h
          simp only [jP, qce, qi, qvF, qp, ql, qk, qf, qc, kH, qA, qD, qT, qa, qb, kC, reduceCtorEq, qs, qr, qm, qn, qR, qvM, qvT, qC, qK, qG, qvL, kF, hr, qS, qB, qH, Nat.min_self, ky, qU, q9, jH, jL, qh, Nat.reduceEqDiff, jI, qan, kL, jm, qvN, qvH, qQ, kh, Bool.not_false, kg, ↓reduceIte, qN, hs.len, qE, hw, qe, kf, qvR, zy, hn', decide_false, qz, kv, qvA, qj, qw, qI, qq, yA, qX, g1, qdw, he', decide_true, qhD, qJ, qM, qd, qx, kq, qg, qo, zr, kT, zS, qd1, jv, jy, zl, zk, zM, Nat.max_self, kS, qF]
        · have he' : (((at' + m' : Nat) : Int) = (B.length : Int)) = False := eq_false (by omega)
          refine ⟨fun l h => by simp [he] at h, fun _ => ?_⟩
          simp only [jP, qce, qi, qvF, qp, ql, qk, qf, qc, kH, qA, qD, qT, qa, qb, kC, reduceCtorEq, qs, qr, qm, qn, qR, qvM, qvT, qC, qK, qG, qvL, kF, hr, qS, qB, qH, Nat.min_self, ky, qU, q9, jH, jL, qh, Nat.reduceEqDiff, jI, qan, kL, jm, qvN, qvH, qQ, kh, Bool.not_false, kg, ↓reduceIte, qN, hs.len, qE, hw, qe, kf, qvR, zy, hn', decide_false, qz, kv, qvA, qj, qw, qI, qq, yA, qX, g1, qdw, he', qJ, qL, qM, qd, qx, kq, qg, qo, zr, kT, zS, qd1, jv, jy, zl, zk, zM, Nat.max_self, kS, qF]
end W

set_option linter.unusedSimpArgs false
set_option linter.unusedVariables false
namespace W
open Go (IntKind BinOp UnOp)
set_option maxRecDepth 20000
theorem qi6 : ∀ (f v : Nat), v ≤ f → ∀ c ∈ putV v, c < 256
  | f, v, hf, c, hc => by
    by_cases h : v ≤ 127
    · rw [qew h] at hc; simp at hc; omega
    · match f with
      | 0 => omega
      | f + 1 =>
        rw [qgt h] at hc
        rcases List.mem_cons.1 hc with rfl | hc
        · omega
        · exact qi6 f (v / 128) (by omega) c hc
theorem qlo : ∀ {L : List (Int × Int)}, L.all qcc = true → ∀ c ∈ qfM L, c < 256
  | [], _, c, hc => by simp [qfM] at hc
  | p :: l, hr, c, hc => by
    simp only [List.all_cons, qvB] at hr
    have hk := qmJ hr.1
    simp only [qfM, qmc, List.mem_append, List.mem_cons] at hc
    rcases hc with (rfl | hc) | hc
    · omega
    · split at hc
      · exact qi6 _ _ (qvC _) c hc
      · simp at hc
    · exact qlo hr.2 c hc
theorem qnv {L : List (Int × Int)} (hr : L.all qcc = true) : ∀ c ∈ encode L, c < 256 := by
  intro c hc
  rcases List.mem_append.1 hc with hc | hc
  · exact qi6 _ _ (qvC _) c hc
  · exact qlo hr c hc
theorem qiP {H : List Obj} {x y : D} {L : List (Int × Int)} (hs : SlD eOp x L) (ht : SlD eOp y L) (hL : L.length ≤ 1000) : ∀ (n i : Nat), L.length - i = n → i ≤ L.length →
    jl 0 [] (yi pg (.d x) (.d y) (.d (.i .i64 (i : Nat))) H H.length) = some (.nrm, ⟨[], H, H.length⟩)
  | 0, i, hn, hi => by
    have hlt : ((i : Int) < (L.length : Int)) = False := by rw [eq_iff_iff]; simp; omega
    rw [qbw]
    simp only [yj, qX, ql, qk, qf, qc, kC, reduceCtorEq, qs, Nat.reduceEqDiff, qr, qm, qn, qD, qT, qN, hs.len, qh, qe, kf, qvR, kJ, hlt, decide_false, qa, qb, qj, qw, qvA, ↓reduceIte, qa4, yn, jQ, qO]
  | n + 1, i, hn, hi => by
    have hlt : ((i : Int) < (L.length : Int)) = True := by rw [eq_iff_iff]; simp; omega
    obtain ⟨⟨k, z⟩, hy⟩ : ∃ p, L[i]? = some p := ⟨L[i]'(by omega), by simp⟩
    have hx := hs.ix (k := .i64) (qc2 _) hy
    have hx2 := ht.ix (k := .i64) (qc2 _) hy
    simp only [eOp] at hx hx2
    have hw : wr .i64 ((i : Int) + 1) = ((i + 1 : Nat) : Int) := by rw [jt (by omega) (by omega)]; omega
    have ih := qiP hs ht hL (H := H) n (i + 1) (by omega) (by omega)
    have hne : qb2 .neq (.agg [1, 1]) false (.d (.agg [.i .i64 k, .i .i32 z])) (.d (.agg [.i .i64 k, .i .i32 z])) = some (.d (.b false)) := by
      simp [qb2, qjG, D.scalarSame, qlK, qoj]
    rw [qbw]
    simp only [yj, qX, ql, qk, qf, qc, kC, reduceCtorEq, qs, Nat.reduceEqDiff, qr, qm, qn, qD, qT, qN, hs.len, qh, qe, kf, qvR, kJ, hlt, decide_true, qa, qb, qj, qw, ↓reduceIte, qI, qq, qq4, qpl, qpO, qs9, qpN, qu, hx, qsI, qW, kI, qvP, qvQ, qvF, Nat.reduceAdd, qcU, hx2, hne, ql2, qmq, qvA, zK, qP, qO, kx, qvK, kH, jF, hw, qbx]
    exact ih
theorem qjh {H : List Obj} {x y : D} {L : List (Int × Int)} (hs : SlD eOp x L) (ht : SlD eOp y L) (hL : L.length ≤ 1000) : kK pg 12 [.d x, .d y] H = some ⟨false, true, .d (.b true), H, H.length⟩ := by
  rw [jE (fn := qar) rfl rfl]
  have hl := qiP hs ht hL (H := H) L.length 0 (by omega) (by omega)
  rw [show ((0 : Nat) : Int) = 0 from rfl] at hl
  simp only [qar, qcq, qi, qvF, Nat.reduceAdd, qp, ql, qk, qf, qc, kH, qA, qD, qT, qa, qb, kC, reduceCtorEq, qs, qr, qm, qn, qN, hs.len, qh, Nat.reduceEqDiff, ht.len, qe, kf, qvR, qdw, decide_true, qvN, qj, qw, qvA, ↓reduceIte, qI, qq, qbx, qX, hl, qJ, qM, qd, qx, kq, qg, qo, ko, qK, zk, kN, qF]
end W

set_option linter.unusedSimpArgs false
set_option linter.unusedVariables false
namespace W
open Go (IntKind BinOp UnOp)
set_option maxRecDepth 20000
def qb5 (B : List Nat) : Obj := .row ⟨1, false⟩ (B.map fun n : Nat => .d (.i .u8 n))
inductive RowS (H : List Obj) : V → List Nat → Prop
  | nil : RowS H (.d .nil) []
  | row (id : Nat) (B : List Nat) (h : H[id]? = some (qb5 B)) (hn : B ≠ []) : RowS H (.row id 1 B.length) B
theorem RowS.new {H : List Obj} {B : List Nat} (hn : B ≠ []) : RowS (H ++ [qb5 B]) (.row H.length 1 B.length) B := .row _ B (by simp) hn
theorem ap1 {H : List Obj} {v : V} {B : List Nat} (hs : RowS H v B) (n : Nat) (lo : Nat) : ∃ H' lo', H.length < H'.length ∧ RowS H' (.row H.length 1 (B.length + 1)) (B ++ [n]) ∧
    (B.length ≤ 10000000 → ∀ e, apR ⟨1, false⟩ 1 ⟨e, H, lo⟩ (some [.i .u8 (n : Nat)]) v = some ⟨false, false, .row H.length 1 (B.length + 1), ⟨e, H', lo'⟩⟩) := by
  have hf : qb3 [.i .u8 (n : Int)] = [.d (.i .u8 (n : Int))] := rfl
  cases hs with
  | nil =>
    refine ⟨H ++ [qb5 [n]], lo, by simp, .new (B := [n]) (by simp), fun _ e => ?_⟩
    rw [qsp rfl rfl, hf]; rfl
  | row id _ h hn =>
    refine ⟨k9 H id .dead ++ [qb5 (B ++ [n])], min lo id, by simp [k9], ?_, fun hB e => ?_⟩
    · have := RowS.new (H := k9 H id .dead) (B := B ++ [n]) (by simp)
      simpa [k9] using this
    · rw [qrL]
      simp only [h, qb5]
      rw [qse rfl (by simp) rfl (qgL (by simp; omega) (by simp; omega)), hf]
      simp [qb5]
theorem qib : ∀ (n v : Nat) (B : List Nat) (a : V) (H : List Obj) (lo : Nat), v ≤ n → RowS H a B →
    ∃ (w : Nat) (M : List Nat) (a' : V) (H' : List Obj) (lo' : Nat), w ≤ 127 ∧ putV v = M ++ [w] ∧ RowS H' a' (B ++ M) ∧ H.length ≤ H'.length ∧
      (B.length + M.length ≤ 10000000 → jl 0 [0, 1] (j0 pg a (.d (.i .u64 (v : Int))) H lo) = some (.nrm, ⟨[(0, a'), (1, .d (.i .u64 (w : Int)))], H', lo'⟩))
  | n, v, B, a, H, lo, hv, hs => by
    by_cases h : v ≤ 127
    · refine ⟨v, [], a, H, lo, h, by rw [qew h]; rfl, by simpa using hs, qvC _, fun _ => ?_⟩
      have hlt : ((128 : Int) ≤ (v : Int)) = False := by rw [eq_iff_iff]; simp; omega
      rw [qa3]
      cases hs with
      | nil => simp only [zA, qX, ql, qk, qf, qc, kC, reduceCtorEq, qs, qr, qm, qn, qD, qT, qe, kf, kx, qvK, kH, ym, hlt, decide_false, qh, qa, qb, qj, qw, qvA, ↓reduceIte, qa4, yn, jQ, qP, Nat.reduceEqDiff, qO]
      | row id _ hh hn => simp only [zA, yN, qX, ql, qk, qf, qc, kC, reduceCtorEq, qs, qr, qm, qn, qD, qT, qe, kf, kx, qvK, kH, ym, hlt, decide_false, qh, qa, qb, qj, qw, qvA, ↓reduceIte, qa4, yn, jQ, qP, Nat.reduceEqDiff, qO]
    · match n with
      | 0 => omega
      | n + 1 =>
        obtain ⟨H1, lo1, k0, k1, k2⟩ := ap1 hs (v % 128 + 128) lo
        obtain ⟨w, M, a', H', lo', h1, h2, h3, h5, h4⟩ := qib n (v / 128) (B ++ [v % 128 + 128]) _ H1 lo1 (by omega) (by simpa using k1)
        refine ⟨w, (v % 128 + 128) :: M, a', H', lo', h1, by rw [qgt h, h2]; rfl, by simpa using h3, by omega, fun hle => ?_⟩
        have hlt : ((128 : Int) ≤ (v : Int)) = True := by rw [eq_iff_iff]; simp; omega
        simp only [qvP] at hle
        replace h4 := h4 (by simp; omega)
        replace k2 := k2 (by omega)
        rw [qa3]
        cases hs with
        | nil =>
          simp only [zA, qX, ql, qk, qf, qc, kC, reduceCtorEq, qs, qr, qm, qn, qD, qT, qe, kf, kx, qvK, kH, ym, hlt, decide_true, qh, qa, qb, qj, qw, ↓reduceIte, qI, qq, jo, zz, kw, Nat.reduceEqDiff, qE, qop, qbJ, qln, kE, qcz, qvP, qvQ, qvF, List.reduceReplicate, qvM, qvT, Nat.reduceLT, jX, List.set_cons_zero, yO, qaF, y8, qfl, qbV, qvL, qab, qaL, jN, jc, qbs, k2, qbD, qaj, Int.reduceLE, qfC, qum, zK, qP, yN, qO, zh]
          exact h4
        | row id _ hh hn =>
          simp only [zA, yN, qX, ql, qk, qf, qc, kC, reduceCtorEq, qs, qr, qm, qn, qD, qT, qe, kf, kx, qvK, kH, ym, hlt, decide_true, qh, qa, qb, qj, qw, ↓reduceIte, qI, qq, jo, qaj, kw, qbD, Nat.reduceEqDiff, qE, qop, qbJ, qln, kE, qcz, qvP, qvQ, qvF, List.reduceReplicate, qvM, qvT, Nat.reduceLT, jX, List.set_cons_zero, yO, qaF, y8, qfl, qbV, qvL, qab, qaL, jN, jc, qbs, qb7, k2, Int.reduceLE, qfC, qum, zK, qP, qO, zh]
          exact h4
theorem qih {B : List Nat} {v : Nat} {a : V} {H : List Obj} (hs : RowS H a B) (hL : B.length ≤ 100000) (hv : v < 2 ^ 64) : ∃ id H' lo', RowS H' (.row id 1 (B ++ putV v).length) (B ++ putV v) ∧ H.length ≤ H'.length ∧
    kK pg 20 [a, .d (.i .u64 (v : Int))] H = some ⟨false, false, .row id 1 (B ++ putV v).length, H', lo'⟩ := by
  obtain ⟨w, M, a', H1, lo1, h1, h2, h3, h5, h4⟩ := qib v v B a H H.length (qvC _) hs
  have hlen := qfA hv
  rw [h2] at hlen
  simp only [List.length_append, qvP, qvQ] at hlen
  replace h4 := h4 (by omega)
  have hw : wr .u8 (w : Int) = (w : Int) := qqW (by omega) (by omega)
  obtain ⟨H2, lo2, k0, k1, k2⟩ := ap1 h3 w lo1
  replace k2 := k2 (by simp; omega)
  have e : (B ++ putV v) = (B ++ M) ++ [w] := by rw [h2, List.append_assoc]
  rw [e]
  have e2 : ((B ++ M) ++ [w]).length = (B ++ M).length + 1 := by simp only [List.length_append, qvP, qvQ]
  rw [e2]
  refine ⟨H1.length, H2, lo2, k1, by omega, ?_⟩
  have hl : ∀ e, leave H false (.row H1.length 1 ((B ++ M).length + 1)) ⟨e, H2, lo2⟩ = some ⟨false, false, .row H1.length 1 ((B ++ M).length + 1), H2, lo2⟩ := fun e => qkg rfl (.inl (by simp [V.ref]; omega))
  rw [jE (fn := zJ) rfl rfl]
  clear e e2 k1
  generalize hBM : B ++ M = BM at h3 k2 hl ⊢
  generalize BM.length + 1 = m at hl k2 ⊢
  clear hBM
  cases hs with
  | nil =>
    cases h3 with
    | nil => simp only [zJ, z9, qi, qvF, Nat.reduceAdd, qp, ql, qk, qf, qc, kH, qA, qD, qT, qa, qb, qq, zh, reduceCtorEq, qs, qr, qX, Nat.reduceEqDiff, h4, jo, zz, kw, kC, qm, qn, qE, hw, qh, kE, qcz, qvP, qvQ, List.reduceReplicate, qvM, qvT, Nat.reduceLT, jX, List.set_cons_zero, yO, qaF, y8, qfl, qbV, qvL, qab, qaL, jN, jc, qbs, k2, qbD, qaj, qJ, qM, qd, qx, qfb, qg, qo, ko, hl]
    | row id _ hh hn => simp only [zJ, z9, qi, qvF, Nat.reduceAdd, qp, ql, qk, qf, qc, kH, qA, qD, qT, qa, qb, qq, zh, reduceCtorEq, qs, qr, qX, Nat.reduceEqDiff, h4, jo, qaj, kw, qbD, kC, qm, qn, qE, hw, qh, kE, qcz, qvP, qvQ, List.reduceReplicate, qvM, qvT, Nat.reduceLT, jX, List.set_cons_zero, yO, qaF, y8, qfl, qbV, qvL, qab, qaL, jN, jc, qbs, qb7, k2, qJ, qM, qd, qx, qfb, qg, qo, ko, hl]
  | row id _ hh hn =>
    cases h3 with
    | nil => simp only [zJ, z9, qi, qvF, Nat.reduceAdd, qp, ql, qk, qf, qc, kH, qA, qD, qT, qa, qb, qq, zh, reduceCtorEq, qs, qr, yN, Nat.reduceEqDiff, qX, h4, jo, zz, kw, kC, qm, qn, qE, hw, qh, kE, qcz, qvP, qvQ, List.reduceReplicate, qvM, qvT, Nat.reduceLT, jX, List.set_cons_zero, yO, qaF, y8, qfl, qbV, qvL, qab, qaL, jN, jc, qbs, k2, qbD, qaj, qJ, qM, qd, qx, qfb, qg, qo, ko, hl]
    | row id _ hh hn => simp only [zJ, z9, qi, qvF, Nat.reduceAdd, qp, ql, qk, qf, qc, kH, qA, qD, qT, qa, qb, qq, zh, reduceCtorEq, qs, qr, yN, Nat.reduceEqDiff, qX, h4, jo, qaj, kw, qbD, kC, qm, qn, qE, hw, qh, kE, qcz, qvP, qvQ, List.reduceReplicate, qvM, qvT, Nat.reduceLT, jX, List.set_cons_zero, yO, qaF, y8, qfl, qbV, qvL, qab, qaL, jN, jc, qbs, qb7, k2, qJ, qM, qd, qx, qfb, qg, qo, ko, hl]
end W

set_option linter.unusedSimpArgs false
set_option linter.unusedVariables false
namespace W
open Go (IntKind BinOp UnOp)
set_option maxRecDepth 20000
theorem RowS.inv {H : List Obj} {a : V} {B : List Nat} (h : RowS H a B) (hn : B ≠ []) : ∃ id, a = .row id 1 B.length ∧ H[id]? = some (qb5 B) := by
  cases h with
  | nil => exact absurd rfl hn
  | row id _ h _ => exact ⟨id, rfl, h⟩
theorem qhv {x : D} {L : List (Int × Int)} (hs : SlD eOp x L) (hL : L.length ≤ 1000) (h32 : ∀ p ∈ L, w32 p) : ∀ (n i : Nat) (acc : List Nat) (a : V) (H : List Obj) (lo : Nat), L.length - i = n → i ≤ L.length → acc.length + 11 * n ≤ 50000 → RowS H a acc → acc ≠ [] →
    ((L.drop i).all qcc = true → ∃ a' H' lo', RowS H' a' (acc ++ qfM (L.drop i)) ∧ jl 0 [4] (zt pg (.d x) a (.d (.i .i64 (i : Nat))) H lo) = some (.nrm, ⟨[(4, a')], H', lo'⟩)) ∧
    ((L.drop i).all qcc = false → ∃ e H' lo', jl 0 [4] (zt pg (.d x) a (.d (.i .i64 (i : Nat))) H lo) = some (.ret, ⟨e, H', lo'⟩) ∧ get 2 e = .d .nil ∧ get 3 e = .d (.b false))
  | 0, i, acc, a, H, lo, hn, hi, ha, hr, hne => by
    have hd : L.drop i = [] := List.drop_eq_nil_of_le (by omega)
    rw [hd]
    obtain ⟨id, rfl, hid⟩ := hr.inv hne
    refine ⟨fun _ => ⟨_, H, lo, by simpa [qfM] using hr, ?_⟩, fun h => by simp at h⟩
    have hlt : ((i : Int) < (L.length : Int)) = False := by rw [eq_iff_iff]; simp; omega
    rw [zF]
    simp only [kX, qX, yN, ql, qk, qf, qc, kC, reduceCtorEq, qs, Nat.reduceEqDiff, qr, qm, qn, qD, qT, qN, hs.len, qh, qe, kf, qvR, kJ, hlt, decide_false, qa, qb, qj, qw, qvA, ↓reduceIte, qa4, yn, jQ, qP, qO]
  | n + 1, i, acc, a, H, lo, hn, hi, ha, hr, hne => by
    have hlt : ((i : Int) < (L.length : Int)) = True := by rw [eq_iff_iff]; simp; omega
    obtain ⟨⟨k, y⟩, hy⟩ : ∃ p, L[i]? = some p := ⟨L[i]'(by omega), by simp⟩
    have hd := qky hy
    have hx := hs.ix (k := .i64) (qc2 _) hy
    have hm : (k, y) ∈ L := List.mem_of_getElem? hy
    obtain ⟨y1, y2⟩ := h32 _ hm
    simp only [] at y1 y2
    have hw : wr .i64 ((i : Int) + 1) = ((i + 1 : Nat) : Int) := by rw [jt (by omega) (by omega)]; omega
    rw [hd]
    simp only [eOp] at hx
    obtain ⟨id, rfl, hid⟩ := hr.inv hne
    cases hq : qcc (k, y)
    · refine ⟨fun h => by simp [hq] at h, fun _ => ?_⟩
      rw [zF]
      simp only [kX, qX, yN, ql, qk, qf, qc, kC, reduceCtorEq, qs, Nat.reduceEqDiff, qr, qm, qn, qD, qT, qN, hs.len, qh, qe, kf, qvR, kJ, hlt, decide_true, qa, qb, qj, qw, ↓reduceIte, qI, qq, qu, hx, zY, qW, kI, qvP, qvQ, qvF, Nat.reduceAdd, qcU, qR, qvM, qvT, qC, qK, qG, qvL, kF, qgp, hq, qS, qB, qH, kL, jm, Bool.not_false, qvH, kH, qA, qJ, qL, qZ]
      exact ⟨_, _, _, rfl, rfl, rfl⟩
    · have hk := qmJ hq
      simp only [] at hk
      have hu : wr .u8 k = (k.toNat : Int) := by rw [qqW (by omega) (by omega)]; omega
      obtain ⟨H1, lo1, c0, c1, c2⟩ := ap1 hr k.toNat (min lo H.length)
      replace c2 := c2 (by omega)
      have hlen := qlA (p := (k, y)) ⟨y1, y2⟩
      cases hb : j6 k
      · have e : qfM ((k, y) :: L.drop (i + 1)) = [k.toNat] ++ qfM (L.drop (i + 1)) := by simp [qfM, qmc, hb]
        have ih := fun lo => qhv hs hL h32 n (i + 1) (acc ++ [k.toNat]) _ H1 lo (by omega) (by omega) (by simp; omega) (by simpa using c1) (by simp)
        rw [e, ← List.append_assoc]
        simp only [List.all_cons, hq, Bool.true_and]
        rw [zF]
        simp only [kX, qX, yN, ql, qk, qf, qc, kC, reduceCtorEq, qs, Nat.reduceEqDiff, qr, qm, qn, qD, qT, qN, hs.len, qh, qe, kf, qvR, kJ, hlt, decide_true, qa, qb, qj, qw, ↓reduceIte, qI, qq, qu, hx, zY, qW, kI, qvP, qvQ, qvF, Nat.reduceAdd, qcU, qR, qvM, qvT, qC, qK, qG, qvL, kF, qgp, hq, qS, qB, qH, kL, jm, qvN, qvH, qvA, jo, qaj, kw, qbD, kB, qol, qvS, qsN, ku, qE, hu, kE, qcz, List.reduceReplicate, Nat.reduceLT, jX, List.set_cons_zero, yO, qaF, y8, qfl, qbV, qab, qaL, jN, jc, qbs, qb7, c2, qaR, hb, zK, qP, qO, kx, qvK, kH, jF, hw, zH]
        exact ih _
      · have e : qfM ((k, y) :: L.drop (i + 1)) = ([k.toNat] ++ putV (zig y)) ++ qfM (L.drop (i + 1)) := by simp [qfM, qmc, hb]
        have e2 : qmc (k, y) = [k.toNat] ++ putV (zig y) := by simp [qmc, hb]
        rw [e2] at hlen
        simp only [List.length_append] at hlen
        have el : (acc ++ [k.toNat]).length = acc.length + 1 := by simp
        obtain ⟨id2, H2, lo2, d1, d0, d2⟩ := qih (B := acc ++ [k.toNat]) (v := zig y) (a := .row H.length 1 (acc.length + 1)) (H := H1) (by simpa using c1) (by simp; omega) (qrB y1 y2)
        generalize hacc2 : acc ++ [k.toNat] ++ putV (zig y) = acc2 at d1 d2
        have hl2 : acc2.length + 11 * n ≤ 50000 := by rw [← hacc2]; simp at hlen ⊢; omega
        have hn2 : acc2 ≠ [] := by rw [← hacc2]; simp
        have ih := fun lo => qhv hs hL h32 n (i + 1) acc2 _ H2 lo (by omega) (by omega) hl2 d1 hn2
        have hz := qqE (x := y) (H := H1) y1 y2
        have h64 : wr .i64 y = y := jt (by omega) (by omega)
        rw [e, ← List.append_assoc, ← List.append_assoc, hacc2]
        simp only [List.all_cons, hq, Bool.true_and]
        rw [zF]
        simp only [kX, qX, yN, ql, qk, qf, qc, kC, reduceCtorEq, qs, Nat.reduceEqDiff, qr, qm, qn, qD, qT, qN, hs.len, qh, qe, kf, qvR, kJ, hlt, decide_true, qa, qb, qj, qw, ↓reduceIte, qI, qq, qu, hx, zY, qW, kI, qvP, qvQ, qvF, Nat.reduceAdd, qcU, qR, qvM, qvT, qC, qK, qG, qvL, kF, qgp, hq, qS, qB, qH, kL, jm, qvN, qvH, qvA, jo, qaj, kw, qbD, kB, qol, qvS, qsN, ku, qE, hu, kE, qcz, List.reduceReplicate, Nat.reduceLT, jX, List.set_cons_zero, yO, qaF, y8, qfl, qbV, qab, qaL, jN, jc, qbs, qb7, c2, qaR, hb, List.getElem?_cons_succ, h64, hz, qnn, d2, zK, qP, qO, kx, qvK, kH, jF, hw, zH]
        exact ih _
theorem qkP {x : D} {L : List (Int × Int)} (hs : SlD eOp x L) (hL : L.length ≤ 1000) (h32 : ∀ p ∈ L, w32 p) :
    (L.all qcc = true → ∃ id H' lo', RowS H' (.row id 1 (encode L).length) (encode L) ∧ kK pg 10 [.d x] [] = some ⟨false, false, .tup [.row id 1 (encode L).length, .d (.b true)], H', lo'⟩) ∧
    (L.all qcc = false → ∃ lo', kK pg 10 [.d x] [] = some ⟨false, true, .tup [.d .nil, .d (.b false)], [], lo'⟩) := by
  rw [jE (fn := zZ) rfl rfl]
  obtain ⟨id, H1, lo1, c1, c0, c2⟩ := qih (B := []) (v := L.length) (a := .d .nil) (H := []) .nil (by simp) (by omega)
  rw [List.nil_append] at c1 c2
  have hw : wr .u64 (L.length : Int) = (L.length : Int) := qcD (by omega) (by omega)
  have hlen := qfA (v := L.length) (by omega)
  have hne : putV L.length ≠ [] := by rw [putV]; split <;> simp
  have hl := fun lo => qhv hs hL h32 L.length 0 (putV L.length) (.row id 1 (putV L.length).length) H1 lo (by omega) (by omega) (by omega) c1 hne
  simp only [List.drop_zero, show ((0 : Nat) : Int) = 0 from rfl] at hl
  refine ⟨fun h => ?_, fun h => ?_⟩
  · obtain ⟨a', H2, lo2, d1, d2⟩ := (hl (min 0 lo1)).1 h
    obtain ⟨id2, rfl, hid2⟩ := d1.inv (by simp [hne])
    refine ⟨id2, H2, lo2, d1, ?_⟩
    have hv : ∀ e, leave [] false (.tup [.row id2 1 (encode L).length, .d (.b true)]) ⟨e, H2, lo2⟩ = some ⟨false, false, .tup [.row id2 1 (encode L).length, .d (.b true)], H2, lo2⟩ := fun e => qkg rfl (.inl (by simp [V.ref, V.ref.refs]))
    simp only [encode, List.length_append] at hv ⊢
    simp only [zZ, qaX, qi, qvF, qp, qvQ, ql, qk, qf, qc, kH, qA, qD, qT, qa, qb, kC, reduceCtorEq, qs, qr, qm, qn, qN, hs.len, qh, qE, hw, qR, qvM, qvT, qC, qK, qG, qvL, kF, c2, qS, qB, qH, qbD, jo, qaj, kw, qq, zH, qX, Nat.reduceEqDiff, yN, d2, List.length_append, qb7, qJ, qM, qd, qx, qfb, kq, qg, qo, zr, hv]
  · obtain ⟨e, H2, lo2, d1, d2, d3⟩ := (hl (min 0 lo1)).2 h
    have hv : ∀ e, leave [] false (.tup [.d .nil, .d (.b false)]) ⟨e, H2, lo2⟩ = some ⟨false, true, .tup [.d .nil, .d (.b false)], [], lo2⟩ := fun e => qgz rfl (by simp [V.ref, V.ref.refs]) (Nat.zero_le _)
    refine ⟨lo2, ?_⟩
    simp only [zZ, qi, qvF, qp, qvQ, ql, qk, qf, qc, kH, qA, qD, qT, qa, qb, kC, reduceCtorEq, qs, qr, qm, qn, qN, hs.len, qh, qE, hw, qR, qvM, qvT, qC, qK, qG, qvL, kF, c2, qS, qB, qH, qbD, jo, qaj, kw, qq, zH, qX, Nat.reduceEqDiff, yN, d1, qL, qM, qd, qx, d2, kq, d3, qg, qo, zr, hv]
end W

set_option linter.unusedSimpArgs false
set_option linter.unusedVariables false
namespace W
open Go (IntKind BinOp UnOp)
set_option maxRecDepth 20000
theorem qgH {H : List Obj} {y : D} {Y : List Nat} (hs : SlD e8 y Y) (hb : ∀ c ∈ Y, c < 256) (hY : Y.length ≤ 1000000) : ∀ (n i acc : Nat), (Y.take 10).length - i = n → i ≤ (Y.take 10).length → acc < 2 ^ (7 * i) → acc < 2 ^ 64 →
    ∃ e, qc6 pg (jl 0 [] (jK pg (.d y) (.d (.i .u64 (acc : Int))) (.d (.i .i64 (i : Nat))) H H.length)) jG = some (.ret, ⟨e, H, H.length⟩) ∧
      get 2 e = .d (.i .u64 (rdV (rdB i acc ((Y.take 10).drop i)))) ∧ get 3 e = .d (.i .i64 (rdN (rdB i acc ((Y.take 10).drop i)))) ∧ get 4 e = .d (.b (rdB i acc ((Y.take 10).drop i)).isSome)
  | 0, i, acc, hn, hi, ha, _ => by
    have hd : (Y.take 10).drop i = [] := List.drop_eq_nil_of_le (by omega)
    rw [hd]
    rw [List.length_take] at hn hi
    by_cases hl : i < Y.length
    · have hlt : ((i : Int) < (Y.length : Int)) = True := eq_true (by omega)
      have hlt2 : ((i : Int) < 10) = False := eq_false (by omega)
      rw [kl]
      simp only [ki, qX, ql, qk, qf, qc, kC, reduceCtorEq, qs, Nat.reduceEqDiff, qr, qm, qn, qD, qT, qN, hs.len, qh, qe, kf, qvR, kJ, hlt, decide_true, qQ, zc, kg, ↓reduceIte, kx, qvK, kH, hlt2, decide_false, qz, kv, qa, qb, qj, qw, qvA, qa4, yn, jQ, qO, jG, qA, qJ, rdV, rdB, rdN]
      exact ⟨_, rfl, rfl, rfl, rfl⟩
    · have hlt : ((i : Int) < (Y.length : Int)) = False := eq_false (by omega)
      rw [kl]
      simp only [ki, qX, ql, qk, qf, qc, kC, reduceCtorEq, qs, Nat.reduceEqDiff, qr, qm, qn, qD, qT, qN, hs.len, qh, qe, kf, qvR, kJ, hlt, decide_false, qQ, zc, kg, qvA, ↓reduceIte, ky, qz, qU, kH, qap, qa, qb, qj, qw, qa4, yn, jQ, qO, jG, qA, qJ, rdV, rdB, rdN]
      exact ⟨_, rfl, rfl, rfl, rfl⟩
  | n + 1, i, acc, hn, hi, ha, ha2 => by
    have hi2 : i < Y.length ∧ i < 10 := by rw [List.length_take] at hn; omega
    have hlt : ((i : Int) < (Y.length : Int)) = True := eq_true (by omega)
    have hlt2 : ((i : Int) < 10) = True := eq_true (by omega)
    obtain ⟨c, hy⟩ : ∃ p, Y[i]? = some p := ⟨Y[i]'(by omega), by simp⟩
    have hy2 : (Y.take 10)[i]? = some c := by rw [List.getElem?_take, if_pos hi2.2]; exact hy
    have hd := qky hy2
    have hx := hs.ix (k := .i64) (qba _) hy
    have hc := hb c (List.mem_of_getElem? hy)
    simp only [e8] at hx
    have hw : wr .i64 ((i : Int) + 1) = ((i + 1 : Nat) : Int) := by rw [jt (by omega) (by omega)]; omega
    have h7 : wr .i64 (7 * (i : Int)) = ((7 * i : Nat) : Int) := by rw [jt (by omega) (by omega)]; omega
    have h9 : wr .u64 ((c % 128 : Nat) : Int) = ((c % 128 : Nat) : Int) := qcD (by omega) (by omega)
    have ha7 := qn5 hc
    have hge : ((0 : Int) ≤ ((7 * i : Nat) : Int)) = True := eq_true (by omega)
    rw [hd]
    by_cases q1 : (i : Int) = 9
    · have r1 := eq_true q1
      by_cases q2 : (1 : Int) < (c : Int)
      · have r2 := eq_true q2
        rw [show rdB i acc (c :: (Y.take 10).drop (i + 1)) = none by rw [rdB, if_pos (by omega)]]
        rw [kl]
        simp only [ki, qX, ql, qk, qf, qc, kC, reduceCtorEq, qs, Nat.reduceEqDiff, qr, qm, qn, qD, qT, qN, hs.len, qh, qe, kf, qvR, kJ, hlt, decide_true, qQ, zc, kg, ↓reduceIte, kx, qvK, kH, hlt2, qz, kv, qa, qb, qj, qw, qI, qq, qu, hx, zY, qW, kI, ku, yy, ha7, qE, h9, jo, zz, kw, qY, r1, zy, r2, qA, qJ, qL, qZ, rdV, rdN, Option.isSome_none]
        exact ⟨_, rfl, rfl, rfl, rfl⟩
      · have r2 := eq_false q2
        have q3 : (0 : Int) < (i : Int) := by omega
        have r3 := eq_true q3
        have q5 : (c : Int) < 128 := by omega
        have r5 := eq_true q5
        obtain ⟨o1, o2, o3⟩ := qhd (acc := acc) (d := c % 128) (i := i) ha (by omega) (by omega)
        by_cases q4 : (c : Int) = 0
        · have r4 := eq_true q4
          rw [show rdB i acc (c :: (Y.take 10).drop (i + 1)) = none by rw [rdB, if_pos (by omega)]]
          rw [kl]
          simp only [ki, qX, ql, qk, qf, qc, kC, reduceCtorEq, qs, Nat.reduceEqDiff, qr, qm, qn, qD, qT, qN, hs.len, qh, qe, kf, qvR, kJ, hlt, decide_true, qQ, zc, kg, ↓reduceIte, kx, qvK, kH, hlt2, qz, kv, qa, qb, qj, qw, qI, qq, qu, hx, zY, qW, kI, ku, yy, ha7, qE, h9, jo, zz, kw, qY, r1, zy, r2, decide_false, qvA, Bool.or_false, qbZ, h7, hge, qaM, qbJ, o1, r5, r3, r4, qA, qJ, qL, qZ, rdV, rdN, Option.isSome_none]
          exact ⟨_, rfl, rfl, rfl, rfl⟩
        · have r4 := eq_false q4
          rw [show rdB i acc (c :: (Y.take 10).drop (i + 1)) = some (acc + c % 128 * 2 ^ (7 * i), i + 1) by rw [rdB, if_neg (by omega), if_pos (by omega)]]
          rw [kl]
          simp only [ki, qX, ql, qk, qf, qc, kC, reduceCtorEq, qs, Nat.reduceEqDiff, qr, qm, qn, qD, qT, qN, hs.len, qh, qe, kf, qvR, kJ, hlt, decide_true, qQ, zc, kg, ↓reduceIte, kx, qvK, kH, hlt2, qz, kv, qa, qb, qj, qw, qI, qq, qu, hx, zY, qW, kI, ku, yy, ha7, qE, h9, jo, zz, kw, qY, r1, zy, r2, decide_false, qvA, Bool.or_false, qbZ, h7, hge, qaM, qbJ, o1, r5, r3, r4, jF, hw, qA, qJ, qZ, qL, rdV, rdN, Option.isSome_some]
          exact ⟨_, rfl, rfl, rfl, rfl⟩
    · have r1 := eq_false q1
      obtain ⟨o1, o2, o3⟩ := qhd (acc := acc) (d := c % 128) (i := i) ha (by omega) (by omega)
      by_cases q5 : (c : Int) < 128
      · have r5 := eq_true q5
        by_cases q3 : (0 : Int) < (i : Int)
        · have r3 := eq_true q3
          by_cases q4 : (c : Int) = 0
          · have r4 := eq_true q4
            rw [show rdB i acc (c :: (Y.take 10).drop (i + 1)) = none by rw [rdB, if_pos (by omega)]]
            rw [kl]
            simp only [ki, qX, ql, qk, qf, qc, kC, reduceCtorEq, qs, Nat.reduceEqDiff, qr, qm, qn, qD, qT, qN, hs.len, qh, qe, kf, qvR, kJ, hlt, decide_true, qQ, zc, kg, ↓reduceIte, kx, qvK, kH, hlt2, qz, kv, qa, qb, qj, qw, qI, qq, qu, hx, zY, qW, kI, ku, yy, ha7, qE, h9, jo, zz, kw, qY, r1, decide_false, qvA, ky, qU, qap, Bool.or_false, qbZ, h7, hge, qaM, qbJ, o1, r5, zy, r3, r4, qA, qJ, qL, qZ, rdV, rdN, Option.isSome_none]
            exact ⟨_, rfl, rfl, rfl, rfl⟩
          · have r4 := eq_false q4
            rw [show rdB i acc (c :: (Y.take 10).drop (i + 1)) = some (acc + c % 128 * 2 ^ (7 * i), i + 1) by rw [rdB, if_neg (by omega), if_pos (by omega)]]
            rw [kl]
            simp only [ki, qX, ql, qk, qf, qc, kC, reduceCtorEq, qs, Nat.reduceEqDiff, qr, qm, qn, qD, qT, qN, hs.len, qh, qe, kf, qvR, kJ, hlt, decide_true, qQ, zc, kg, ↓reduceIte, kx, qvK, kH, hlt2, qz, kv, qa, qb, qj, qw, qI, qq, qu, hx, zY, qW, kI, ku, yy, ha7, qE, h9, jo, zz, kw, qY, r1, decide_false, qvA, ky, qU, qap, Bool.or_false, qbZ, h7, hge, qaM, qbJ, o1, r5, zy, r3, r4, jF, hw, qA, qJ, qZ, qL, rdV, rdN, Option.isSome_some]
            exact ⟨_, rfl, rfl, rfl, rfl⟩
        · have r3 := eq_false q3
          rw [show rdB i acc (c :: (Y.take 10).drop (i + 1)) = some (acc + c % 128 * 2 ^ (7 * i), i + 1) by rw [rdB, if_neg (by omega), if_pos (by omega)]]
          rw [kl]
          simp only [ki, qX, ql, qk, qf, qc, kC, reduceCtorEq, qs, Nat.reduceEqDiff, qr, qm, qn, qD, qT, qN, hs.len, qh, qe, kf, qvR, kJ, hlt, decide_true, qQ, zc, kg, ↓reduceIte, kx, qvK, kH, hlt2, qz, kv, qa, qb, qj, qw, qI, qq, qu, hx, zY, qW, kI, ku, yy, ha7, qE, h9, jo, zz, kw, qY, r1, decide_false, qvA, ky, qU, qap, Bool.or_false, qbZ, h7, hge, qaM, qbJ, o1, r5, zy, r3, jF, hw, qA, qJ, qZ, qL, rdV, rdN, Option.isSome_some]
          exact ⟨_, rfl, rfl, rfl, rfl⟩
      · have r5 := eq_false q5
        rw [show rdB i acc (c :: (Y.take 10).drop (i + 1)) = rdB (i + 1) (acc + c % 128 * 2 ^ (7 * i)) ((Y.take 10).drop (i + 1)) by rw [rdB, if_neg (by omega), if_neg (by omega)]]
        have ih := qgH hs hb hY (H := H) n (i + 1) (acc + c % 128 * 2 ^ (7 * i)) (by omega) (by omega) (o3 (by omega)) o2
        rw [kl]
        simp only [ki, qX, ql, qk, qf, qc, kC, reduceCtorEq, qs, Nat.reduceEqDiff, qr, qm, qn, qD, qT, qN, hs.len, qh, qe, kf, qvR, kJ, hlt, decide_true, qQ, zc, kg, ↓reduceIte, kx, qvK, kH, hlt2, qz, kv, qa, qb, qj, qw, qI, qq, qu, hx, zY, qW, kI, ku, yy, ha7, qE, h9, jo, zz, kw, qY, r1, decide_false, qvA, ky, qU, qap, Bool.or_false, qbZ, h7, hge, qaM, qbJ, o1, r5, zK, qP, qO, jF, hw, qaY]
        exact ih
theorem qgP {H : List Obj} {x : D} {B : List Nat} (hs : SlD e8 x B) (hb : ∀ c ∈ B, c < 256) (hB : B.length ≤ 1000000) : kK pg 25 [.d x] H = some ⟨false, true, .tup [.d (.i .u64 (rdV (jz B))), .d (.i .i64 (rdN (jz B))), .d (.b (jz B).isSome)], H, H.length⟩ := by
  rw [jE (fn := yD) rfl rfl]
  obtain ⟨e, h1, h2, h3, h4⟩ := qgH (H := H) hs hb hB _ 0 0 rfl (by omega) (by omega) (by omega)
  rw [show ((0 : Nat) : Int) = 0 from rfl] at h1
  rw [List.drop_zero] at h2 h3 h4
  simp only [yD, qi, qvF, qp, ql, qk, qf, qc, kH, qA, qD, qT, qa, qb, qq, qaY, reduceCtorEq, qs, qr, qX, Nat.reduceEqDiff, h1, qM, qd, qx, h2, kq, h3, h4, qg, qo, zr, kT, zS, qd1, jv, qvL, jy, zl, zk, zM, Nat.max_self, kS, qF, jz]
theorem qlm {H : List Obj} {u : Nat} (hu2 : u < 2 ^ 64) : kK pg 26 [.d (.i .u64 (u : Int))] H = some ⟨false, true, .d (.i .i64 (zag u)), H, H.length⟩ := by
  rw [jE (fn := qaa) rfl rfl]
  have e1 : Int.fdiv (u : Int) (2 ^ (min (1 : Int).toNat (IntKind.bits .u64))) = ((u / 2 : Nat) : Int) := by
    show Int.fdiv (u : Int) (2 ^ 1) = _
    rw [Int.fdiv_eq_ediv_of_nonneg _ (by omega)]; omega
  have e2 : wr .i64 ((u / 2 : Nat) : Int) = ((u / 2 : Nat) : Int) := jt (by omega) (by omega)
  have e3 := qs2 hu2
  by_cases h : u % 2 = 0
  · have e4 : (((u % 2 : Nat) : Int) = 0) = True := eq_true (by omega)
    have ez : zag u = ((u / 2 : Nat) : Int) := by rw [zag, if_pos h]
    simp only [qaa, qi, qvF, qp, ql, qk, qf, qc, kH, qA, qD, qT, qa, qb, kC, reduceCtorEq, qs, qr, qm, qn, qe, kf, kx, qvK, yy, e3, qh, qY, e4, decide_true, qj, qw, ↓reduceIte, Int.reduceLE, qfC, e1, qE, e2, jo, zz, kw, qJ, qL, qM, qd, qx, kq, qg, qo, ko, qK, zk, kN, qF, ez]
  · have e4 : (((u % 2 : Nat) : Int) = 0) = False := eq_false (by omega)
    have ez : zag u = -((u / 2 : Nat) : Int) - 1 := by rw [zag, if_neg h]
    have e5 : wr .i64 (0 - ((u / 2 : Nat) : Int)) = -((u / 2 : Nat) : Int) := by rw [jt (by omega) (by omega)]; omega
    have e6 : wr .i64 (-((u / 2 : Nat) : Int) - 1) = -((u / 2 : Nat) : Int) - 1 := jt (by omega) (by omega)
    simp only [qaa, qi, qvF, qp, ql, qk, qf, qc, kH, qA, qD, qT, qa, qb, kC, reduceCtorEq, qs, qr, qm, qn, qe, kf, kx, qvK, yy, e3, qh, qY, e4, decide_false, qj, qw, qvA, ↓reduceIte, qI, Int.reduceLE, qfC, e1, qE, e2, kL, qkq, e5, qvH, qrT, e6, qJ, qM, qd, qx, kq, qg, qo, ko, qK, zk, kN, qF, ez]
end W

