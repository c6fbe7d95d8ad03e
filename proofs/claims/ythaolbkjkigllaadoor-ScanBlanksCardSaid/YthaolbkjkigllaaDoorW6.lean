/-
  ScanBlanks: part 6 of what the proof rests on (a value semantics for a part of the language, sound against the model; the walks).
-/
import Derived.Test.YthaolbkjkigllaaDoorW5
set_option linter.unusedSimpArgs false
set_option linter.unusedVariables false
open Bool renaming false_eq_true → qz0, and_self → qz1, or_true → qz7, or_self → qAd, and_eq_true → qAf, cond_eq_ite → qAh, or_false → qAl, not_true → qAm, not_false → qAr
open List renaming getElem?_cons_zero → qz2, map_cons → qz3, length_cons → qz4, getElem?_cons_succ → qz5, length_nil → qz8, map_nil → qz9, set_cons_zero → qAa, set_cons_succ → qAc, take_succ_cons → qAi, drop_zero → qAn, take_zero → qAp, getElem?_eq_getElem → qAt
open Nat renaming zero_add → qz6, le_refl → qAe, beq → qAk, eq_of_beq_eq_true → qAo, min_self → qAs, add_zero → qAu
open Option renaming map_some → qAb, bind_eq_some_iff → qAg, bind_eq_bind → qAj, pure_def → qAq
open Int renaming cast_ofNat_Int → qAv
namespace W
open Go (IntKind BinOp UnOp)
set_option maxRecDepth 20000
theorem qil {c : Nat} {H : List Obj} : zC pg 35 [.d (.i .u8 c)] H = some ⟨false, true, .d (.b (cLt c)), H, H.length⟩ := by
  rw [qY (fn := qca) rfl rfl]
  have e1 : ((97 : Int) ≤ (c : Int)) = (97 ≤ c) := by rw [eq_iff_iff]; omega
  have e2 : ((c : Int) ≤ 122) = (c ≤ 122) := by rw [eq_iff_iff]; omega
  have e3 : ((65 : Int) ≤ (c : Int)) = (65 ≤ c) := by rw [eq_iff_iff]; omega
  have e4 : ((c : Int) ≤ 90) = (c ≤ 90) := by rw [eq_iff_iff]; omega
  by_cases h1 : 97 ≤ c <;> by_cases h2 : c ≤ 122 <;> by_cases h3 : 65 ≤ c <;> by_cases h4 : c ≤ 90
  all_goals simp only [qca, qj, qz6, qo, qx, qy, qm, qe, kK, qK, qL, qW, qa, qf, kI, reduceCtorEq, qF, qD, qA, qz, qk, ke, kr, qz7, z7, e1, h1, decide_true, qp, kT, zn, zh, ↓reduceIte, Nat.reduceEqDiff, zr, e2, h2, kw, zt, zO, qAm, qz0, zl, qgb, kX, qbT, qO, qJ, qb, qH, kv, qh, qt, qV, qI, jM, yp, kM, cLt, qz1, h3, h4, qAd, decide_false, Bool.and_false, qAl, Bool.and_true, qAr, e3, e4, j8]
  all_goals rfl
theorem qgt {c : Nat} {H : List Obj} : zC pg 36 [.d (.i .u8 c)] H = some ⟨false, true, .d (.b (cDg c)), H, H.length⟩ := by
  rw [qY (fn := qcw) rfl rfl]
  have e1 : ((48 : Int) ≤ (c : Int)) = (48 ≤ c) := by rw [eq_iff_iff]; omega
  have e2 : ((c : Int) ≤ 57) = (c ≤ 57) := by rw [eq_iff_iff]; omega
  by_cases h1 : 48 ≤ c <;> by_cases h2 : c ≤ 57
  all_goals simp only [qcw, qj, qz6, qo, qx, qy, qm, qe, kK, qK, qL, qW, qa, qf, kI, reduceCtorEq, qF, qD, qA, qz, qk, ke, kr, qz7, z7, e1, h1, decide_true, qp, kT, zn, zh, ↓reduceIte, Nat.reduceEqDiff, zr, e2, h2, kw, zt, qO, qJ, qb, qH, kv, qh, qt, qV, qI, jM, yp, kM, cDg, qz1, decide_false, Bool.and_false, qz0, zl, kX, j8, Bool.and_true]
  all_goals rfl
theorem qoL {c : Nat} {H : List Obj} : zC pg 34 [.d (.i .u8 c)] H = some ⟨false, true, .d (.b (blk c)), H, H.length⟩ := by
  rw [qY (fn := qcv) rfl rfl]
  have e1 : ((c : Int) = 9) = (c = 9) := by rw [eq_iff_iff]; omega
  have e2 : ((c : Int) = 10) = (c = 10) := by rw [eq_iff_iff]; omega
  have e3 : ((c : Int) = 13) = (c = 13) := by rw [eq_iff_iff]; omega
  have e4 : ((c : Int) = 32) = (c = 32) := by rw [eq_iff_iff]; omega
  by_cases h1 : c = 9 <;> by_cases h2 : c = 10 <;> by_cases h3 : c = 13 <;> by_cases h4 : c = 32
  all_goals simp only [qcv, h1, qAv, qj, qz6, qo, qx, qy, qm, qe, kK, qK, qL, qW, qa, qf, kI, reduceCtorEq, qF, qD, qA, qz, qk, ke, kr, qz7, kj, decide_true, qp, kT, zO, qAm, zh, qz0, ↓reduceIte, zl, Nat.reduceEqDiff, kw, kX, qbT, qO, qJ, qb, qH, kv, qh, qt, qV, qI, jM, yp, kM, blk, decide_false, qAl, h2, Int.reduceEq, qAr, zt, h3, qAd, h4, e1, e2, e3, e4]
  all_goals rfl
theorem qp3 {c : Nat} {H : List Obj} : zC pg 57 [.d (.i .u8 c)] H = some ⟨false, true, .d (.i .i64 (if cHx c = true then (dg c : Int) else -1)), H, H.length⟩ := by
  rw [qY (fn := qaB) rfl rfl]
  have e1 : ((65 : Int) ≤ (c : Int)) = (65 ≤ c) := by rw [eq_iff_iff]; omega
  have e2 : ((c : Int) ≤ 70) = (c ≤ 70) := by rw [eq_iff_iff]; omega
  have hd := qgt (c := c) (H := H)
  cases hq : cDg c with
  | true =>
    rw [hq] at hd
    have hh : cHx c = true := by simp [cHx, hq]
    have hr : 48 ≤ c ∧ c ≤ 57 := by simpa [cDg] using hq
    have e3 : wr .u8 ((c : Int) - 48) = (dg c : Int) := by rw [qj7 (by omega) (by omega)]; simp only [dg, hr.2, if_true]; omega
    have e4 : wr .i64 (dg c : Int) = (dg c : Int) := by rw [jl (by omega) (by unfold dg; split <;> omega)]
    rw [hh]
    simp only [qaB, Int.reduceNeg, qj, qz6, qo, qx, qy, qm, qe, kK, qK, qL, qW, qa, qf, qq, kI, reduceCtorEq, qF, qD, qA, qz, qs, qz3, qz9, qc, qI, qi, qz1, qT, hd, qr, qd, qg, qAs, zc, kV, qZ, qw, qC, ↓reduceIte, qk, ke, kr, qz7, zk, e3, qp, jI, e4, qO, kG, ko, qJ, qb, qH, kv, qh, qt, qV, jM, yp, kM]
    all_goals rfl
  | false =>
    rw [hq] at hd
    by_cases h1 : 65 ≤ c ∧ c ≤ 70
    · have hh : cHx c = true := by simp [cHx, h1]
      have e3 : wr .u8 ((c : Int) - 65) = ((c - 65 : Nat) : Int) := by rw [qj7 (by omega) (by omega)]; omega
      have e4 : wr .i64 ((c - 65 : Nat) : Int) = ((c - 65 : Nat) : Int) := by rw [jl (by omega) (by omega)]
      have e5 : wr .i64 (((c - 65 : Nat) : Int) + 10) = (dg c : Int) := by
        have : ¬ c ≤ 57 := by omega
        rw [jl (by omega) (by omega)]; simp only [dg, this, if_false]; omega
      rw [hh]
      simp only [qaB, Int.reduceNeg, qj, qz6, qo, qx, qy, qm, qe, kK, qK, qL, qW, qa, qf, qq, kI, reduceCtorEq, qF, qD, qA, qz, qs, qz3, qz9, qc, qI, qi, qz1, qT, hd, qr, qd, qg, qAs, zc, kV, qZ, qw, qC, qz0, ↓reduceIte, qk, ke, kr, qz7, z7, e1, h1.1, decide_true, qp, kT, zn, zh, Nat.reduceEqDiff, zr, e2, h1.2, kw, zt, zk, e3, jI, e4, kB, e5, qO, kG, ko, qJ, qb, qH, kv, qh, qt, qV, jM, yp, kM]
      all_goals rfl
    · have hh : cHx c = false := by simp only [cHx, hq, Bool.false_or]; simpa using h1
      rw [hh]
      by_cases h2 : 65 ≤ c
      · have h3 : (c ≤ 70) = False := eq_false (fun h => h1 ⟨h2, h⟩)
        simp only [qaB, Int.reduceNeg, qj, qz6, qo, qx, qy, qm, qe, kK, qK, qL, qW, qa, qf, qq, kI, reduceCtorEq, qF, qD, qA, qz, qs, qz3, qz9, qc, qI, qi, qz1, qT, hd, qr, qd, qg, qAs, zc, kV, qZ, qw, qC, qz0, ↓reduceIte, qk, ke, kr, qz7, z7, e1, h2, decide_true, qp, kT, zn, zh, Nat.reduceEqDiff, zr, e2, h3, decide_false, kw, zt, qS, qR, qn, qO, qJ, qb, qH, kv, qh, qt, qV, jM, yp, kM]
        all_goals rfl
      · simp only [qaB, Int.reduceNeg, qj, qz6, qo, qx, qy, qm, qe, kK, qK, qL, qW, qa, qf, qq, kI, reduceCtorEq, qF, qD, qA, qz, qs, qz3, qz9, qc, qI, qi, qz1, qT, hd, qr, qd, qg, qAs, zc, kV, qZ, qw, qC, qz0, ↓reduceIte, qk, ke, kr, qz7, z7, e1, h2, decide_false, qp, kT, zn, zh, zl, Nat.reduceEqDiff, kw, kX, j8, qS, qR, qn, qO, qJ, qb, qH, kv, qh, qt, qV, jM, yp, kM]
        all_goals rfl
theorem qp2 {s : List Nat} {c : Nat} (hz : s.length ≤ 1000000000000) {H : List Obj} :
    ∀ (k i : Nat), s.length - i = k → i ≤ s.length → ∃ x e, (x = .nrm ∨ x = .ret) ∧ get 4 e = .d (.b (decide (c ∈ s.drop i))) ∧
      yO pg (j5 0 [] (qb7 pg (.d (.s s)) (.d (.i .u8 (c : Nat))) (.d (.i .i64 (i : Nat))) H H.length)) qb9 = some (x, ⟨e, H, H.length⟩) := by
  intro k
  induction k with
  | zero =>
    intro i hk hi
    obtain rfl : i = s.length := by omega
    have h1 : ((s.length : Int) < (s.length : Int)) = False := by simp
    rw [qdG]
    simp only [qa7, qU, qx, qy, qm, qe, kI, reduceCtorEq, qF, Nat.reduceEqDiff, qD, qA, qz, qL, qW, q9, ze, qp, qk, ke, qAd, zj, h1, decide_false, qa, qf, qw, qC, qz0, ↓reduceIte, yB, jH, jx, qn, qb9, kK, qK, qO]
    exact ⟨_, _, .inr rfl, by rw [List.drop_length]; simp [get], rfl⟩
  | succ k ih =>
    intro i hk hi
    have h1 : ((i : Int) < (s.length : Int)) = True := by rw [eq_iff_iff]; simp; omega
    have hlt : i < s.length := by omega
    have hdr := yN hlt
    have hix : ixV (.d (.s s)) (.d (.i .i64 (i : Int))) = some (.d (.i .u8 ((s[i] : Nat) : Int))) := qkJ (by omega) (by simp)
    have hw : wr .i64 ((i : Int) + 1) = ((i + 1 : Nat) : Int) := by rw [jl (by omega) (by omega)]; omega
    rw [qdG]
    by_cases hc : s[i] = c
    · have h2 : (((s[i] : Nat) : Int) = (c : Int)) = True := by rw [eq_iff_iff]; constructor <;> intro h <;> first | trivial | exact absurd (by exact_mod_cast h) hc | exact_mod_cast hc
      simp only [qa7, qU, qx, qy, qm, qe, kI, reduceCtorEq, qF, Nat.reduceEqDiff, qD, qA, qz, qL, qW, q9, ze, qp, qk, ke, qAd, zj, h1, decide_true, qa, qf, qw, qC, ↓reduceIte, qS, qq, kE, hix, kj, h2, kK, qK, qO, kG, ko, qb9]
      exact ⟨_, _, .inr rfl, by rw [hdr, hc]; simp [get], rfl⟩
    · have h2 : (((s[i] : Nat) : Int) = (c : Int)) = False := by rw [eq_iff_iff]; constructor <;> intro h <;> first | trivial | exact absurd (by exact_mod_cast h) hc | exact_mod_cast hc
      obtain ⟨x, e, q1, q2, q3⟩ := ih (i + 1) (by omega) (by omega)
      simp only [qa7, qU, qx, qy, qm, qe, kI, reduceCtorEq, qF, Nat.reduceEqDiff, qD, qA, qz, qL, qW, q9, ze, qp, qk, ke, qAd, zj, h1, decide_true, qa, qf, qw, qC, ↓reduceIte, qS, qq, kE, hix, kj, h2, decide_false, qz0, qR, ql, qn, kr, qz7, kK, kB, hw, qdJ]
      refine ⟨x, e, q1, ?_, q3⟩
      rw [q2, hdr]
      have : (c = s[i]) = False := eq_false (fun h => hc h.symm)
      simp only [List.mem_cons, this, false_or]
theorem qqe {s : List Nat} {c : Nat} (hz : s.length ≤ 1000000000000) {H : List Obj} : zC pg 39 [.d (.s s), .d (.i .u8 (c : Nat))] H = some ⟨false, true, .d (.b (decide (c ∈ s))), H, H.length⟩ := by
  obtain ⟨x, e, q1, q2, q3⟩ := qp2 (c := c) hz (H := H) s.length 0 rfl (by omega)
  have hz0 : ((0 : Nat) : Int) = 0 := rfl
  rw [hz0] at q3
  rw [qAn] at q2
  rw [qY (fn := qcU) rfl rfl]
  simp only [qcU, qj, qz6, Nat.reduceAdd, qo, qx, qy, qm, qe, kK, qK, qL, qW, qa, qf, qq, qdJ, reduceCtorEq, qF, qD, qU, Nat.reduceEqDiff]
  rw [q3]
  rcases q1 with rfl | rfl
  all_goals simp only [qh0, qb, qH, q2, kv, qh, qt, qV, qI, jM, yp, kM, qJ]
  all_goals rfl
theorem qpr {c : Nat} : ∀ l : List Nat, (ixN c l < 0) = (c ∉ l)
  | [] => by simp [ixN]
  | x :: l => by
    have ih := qpr (c := c) l
    unfold ixN
    cases hb : qAk x c with
    | true =>
      have := qAo hb
      subst this
      simp
    | false =>
      have hne : x ≠ c := fun h => by subst h; simp at hb
      simp only [cond_false]
      have hm : (c ∉ x :: l) = (c ∉ l) := by
        rw [eq_iff_iff]
        simp only [List.mem_cons, not_or]
        exact ⟨fun h => h.2, fun h => ⟨fun h' => hne h'.symm, h⟩⟩
      rw [hm, ← ih]
      cases ixN c l with
      | ofNat n => rw [eq_iff_iff]; simp only [Int.ofNat_eq_natCast]; omega
      | negSucc n => rw [eq_iff_iff]; simp only [Int.negSucc_eq]; omega
theorem qnK {H : List Obj} : zC pg 18 [] H = some ⟨false, true, slV D.s KW, H, H.length⟩ := by
  rw [qY (fn := qbB) rfl rfl]
  simp only [qbB, qo, qx, qy, qm, qe, kK, qK, qL, qW, qa, qf, kJ, jD, qz4, qz8, qz6, List.reduceReplicate, qz3, qz9, Nat.reduceAdd, Nat.reduceLT, zD, qAa, qAc, zR, jk, jg, yR, jK, qz1, jj, qp, yy, zc, qD, qiP, qZ, qO, qJ, qb, qH, qp4, qh, qt, qV, qov, qtf, qoC, kM]
  all_goals rfl
theorem qqE {L : List (List Nat)} {t : List Nat} (hz : L.length ≤ 1000000000000) {H : List Obj} :
    ∀ (k i : Nat), L.length - i = k → i ≤ L.length → ∃ x e, (x = .nrm ∨ x = .ret) ∧ get 2 e = .d (.b (decide (t ∈ L.drop i))) ∧
      yO pg (j5 0 [] (qaZ pg (.d (.s t)) (slV D.s L) (.d (.i .i64 (i : Nat))) H H.length)) qaY = some (x, ⟨e, H, H.length⟩) := by
  intro k
  induction k with
  | zero =>
    intro i hk hi
    obtain rfl : i = L.length := by omega
    have h1 : ((L.length : Int) < (L.length : Int)) = False := by simp
    rw [qcR]
    simp only [yX, qU, yM, qx, qy, qm, qe, kI, reduceCtorEq, qF, Nat.reduceEqDiff, qD, qA, qz, qL, qW, qbG, jt, qeW, qp, qk, ke, qAd, zj, h1, decide_false, qa, qf, qw, qC, qz0, ↓reduceIte, yB, jH, jx, qn, qaY, kK, qK, qO]
    exact ⟨_, _, .inr rfl, by rw [List.drop_length]; simp [get], rfl⟩
  | succ k ih =>
    intro i hk hi
    have h1 : ((i : Int) < (L.length : Int)) = True := by rw [eq_iff_iff]; simp; omega
    have hlt : i < L.length := by omega
    have hdr : L.drop i = L[i] :: L.drop (i + 1) := by simp
    have hia : iaV (.d (slD D.s L)) (.d (.i .i64 (i : Int))) 1 none = some (.cp (.s L[i])) := qhc (fun _ => rfl) (by omega) (by simp)
    have hw : wr .i64 ((i : Int) + 1) = ((i + 1 : Nat) : Int) := by rw [jl (by omega) (by omega)]; omega
    rw [qcR]
    by_cases hc : L[i] = t
    · have h2 : (L[i] = t) = True := eq_true hc
      simp only [yX, qU, yM, qx, qy, qm, qe, kI, reduceCtorEq, qF, Nat.reduceEqDiff, qD, qA, qz, qL, qW, qbG, jt, qeW, qp, qk, ke, qAd, zj, h1, decide_true, qa, qf, qw, qC, ↓reduceIte, qS, qq, kH, hia, yQ, qQ, zX, zN, qbN, h2, kK, qK, qO, kG, ko, qaY]
      exact ⟨_, _, .inr rfl, by rw [hdr, hc]; simp [get], rfl⟩
    · have h2 : (L[i] = t) = False := eq_false hc
      obtain ⟨x, e, q1, q2, q3⟩ := ih (i + 1) (by omega) (by omega)
      simp only [yX, qU, yM, qx, qy, qm, qe, kI, reduceCtorEq, qF, Nat.reduceEqDiff, qD, qA, qz, qL, qW, qbG, jt, qeW, qp, qk, ke, qAd, zj, h1, decide_true, qa, qf, qw, qC, ↓reduceIte, qS, qq, kH, hia, yQ, qQ, zX, zN, qbN, h2, decide_false, qz0, qR, ql, qn, kr, qz7, kK, kB, hw, qcK]
      refine ⟨x, e, q1, ?_, q3⟩
      rw [q2, hdr]
      have : (t = L[i]) = False := eq_false (fun h => hc h.symm)
      simp only [List.mem_cons, this, false_or]
theorem ql9 {t : List Nat} {H : List Obj} : zC pg 19 [.d (.s t)] H = some ⟨false, true, .d (.b (decide (t ∈ KW))), H, H.length⟩ := by
  obtain ⟨x, e, q1, q2, q3⟩ := qqE (L := KW) (t := t) (by decide) (H := H) KW.length 0 rfl (by omega)
  have hz0 : ((0 : Nat) : Int) = 0 := rfl
  rw [hz0] at q3
  rw [qAn] at q2
  rw [qY (fn := qbU) rfl rfl]
  simp only [qbU, qj, qz6, qo, qx, qy, qm, qe, kK, qK, qL, qW, qa, qf, qs, qz9, qi, qT, qnK, qr, qg, qAs, qfp, zc, qD, qfJ, qZ, qq, qcK, reduceCtorEq, qF, qU, Nat.reduceEqDiff, yM]
  rw [q3]
  rcases q1 with rfl | rfl
  all_goals simp only [qh0, qb, qH, q2, kv, qh, qt, qV, qI, jM, yp, kM, qJ]
  all_goals rfl
end W

set_option linter.unusedSimpArgs false
set_option linter.unusedVariables false
namespace W
open Go (IntKind BinOp UnOp)
set_option maxRecDepth 20000
def SyR (H : List Obj) (a : Nat) (r : Sy) (X : Option Cr) : Prop :=
  match r with
  | .ok k t n a' => X = some ⟨false, true, .tup [.d (tok k a a' t n), .d (.i .i64 0)], H, H.length⟩
  | .bad e => X = some ⟨false, true, .tup [.d (tok 0 0 0 [] 0), .d (.i .i64 e)], H, H.length⟩
theorem ixA {s : List Nat} {j c : Nat} (h : s[j]? = some c) : ixV (.d (.s s)) (.d (.i .i64 (j : Int))) = some (.d (.i .u8 ((c : Nat) : Int))) := qkJ (by omega) (by rw [Int.toNat_natCast]; exact h)
theorem qmX {s : List Nat} (hz : s.length ≤ 1000000000000) {v1 : Int} {v4 : List V} {H : List Obj} :
    ∀ (k j : Nat), s.length - j = k → j ≤ s.length → j5 0 [0, 1, 4, 6] (qbg pg (.d (.s s)) (.d (.i .i64 v1)) (.box v4) (.d (.i .i64 (j : Nat))) H H.length) = some (.nrm, ⟨[(0, .d (.s s)), (1, .d (.i .i64 v1)), (4, .box v4), (6, .d (.i .i64 ((j + run cTx (s.drop j) : Nat) : Int)))], H, H.length⟩) := by
  intro k
  induction k with
  | zero =>
    intro j hk hj
    obtain rfl : j = s.length := by omega
    have h1 : ((s.length : Int) < (s.length : Int)) = False := by simp
    rw [qcZ]
    have hr : run cTx (s.drop s.length) = 0 := by simp [run]
    rw [hr]
    simp only [yG, qU, za, qx, qy, qm, qe, kI, reduceCtorEq, qF, Nat.reduceEqDiff, qD, qA, qz, qL, qW, q9, ze, qp, qk, ke, qAd, zj, h1, decide_false, kT, zn, zh, qz0, ↓reduceIte, zl, kw, kX, kK, j8, qa, qf, qw, qC, yB, jH, jx, ql, qn, qAu]
    all_goals rfl
  | succ k ih =>
    intro j hk hj
    have h1 : ((j : Int) < (s.length : Int)) = True := by rw [eq_iff_iff]; simp; omega
    have hlt : j < s.length := by omega
    have hdr := yN hlt
    have hix : ixV (.d (.s s)) (.d (.i .i64 (j : Int))) = some (.d (.i .u8 ((s[j] : Nat) : Int))) := qkJ (by omega) (by simp)
    have hw : wr .i64 ((j : Int) + 1) = ((j + 1 : Nat) : Int) := by rw [jl (by omega) (by omega)]; omega
    rw [qcZ, hdr]
    generalize s[j] = c at hix
    have e1 : ((c : Int) = 34) = (c = 34) := by rw [eq_iff_iff]; omega
    have e2 : ((32 : Int) ≤ (c : Int)) = (32 ≤ c) := by rw [eq_iff_iff]; omega
    have ih' := ih (j + 1) (by omega) (by omega)
    by_cases q1 : c = 34
    · have hr : run cTx (c :: s.drop (j + 1)) = 0 := by simp [run, cTx, q1]
      rw [hr]
      simp only [yG, qU, za, qx, qy, qm, qe, kI, reduceCtorEq, qF, Nat.reduceEqDiff, qD, qA, qz, qL, qW, q9, ze, qp, qk, ke, qAd, zj, h1, decide_true, kT, zn, zh, ↓reduceIte, kE, hix, q1, qAv, kr, qz7, kK, qbC, qAm, kw, zt, qz0, zl, kX, j8, qa, qf, qw, qC, yB, jH, jx, ql, qn, qAu]
      all_goals rfl
    · by_cases q2 : 32 ≤ c
      · have hr : j + run cTx (c :: s.drop (j + 1)) = j + 1 + run cTx (s.drop (j + 1)) := by simp [run, cTx, q1, q2]; omega
        rw [hr]
        simp only [yG, qU, za, qx, qy, qm, qe, kI, reduceCtorEq, qF, Nat.reduceEqDiff, qD, qA, qz, qL, qW, q9, ze, qp, qk, ke, qAd, zj, h1, decide_true, kT, zn, zh, ↓reduceIte, kE, hix, kr, qz7, kK, qbC, e1, q1, decide_false, qAr, kw, zt, z7, e2, q2, qa, qf, qw, qC, qS, qq, kB, hw, qR, ql, qn, yJ]
        exact ih'
      · have hr : run cTx (c :: s.drop (j + 1)) = 0 := by simp [run, cTx, q1, q2]
        rw [hr]
        simp only [yG, qU, za, qx, qy, qm, qe, kI, reduceCtorEq, qF, Nat.reduceEqDiff, qD, qA, qz, qL, qW, q9, ze, qp, qk, ke, qAd, zj, h1, decide_true, kT, zn, zh, ↓reduceIte, kE, hix, kr, qz7, kK, qbC, e1, q1, decide_false, qAr, kw, zt, z7, e2, q2, qa, qf, qw, qC, qz0, yB, jH, jx, ql, qn, qAu]
        all_goals rfl
theorem qg8 {x j : Nat} {s : List Nat} : pre [x] (s.drop j) = true ↔ s[j]? = some x := by
  constructor
  · intro h
    have hlt := qek h
    rw [yN hlt, quB] at h
    rw [qAt hlt]
    rw [of_decide_eq_true h]
  · intro h
    have hlt := (List.getElem?_eq_some_iff.1 h).1
    rw [yN hlt, quB]
    rw [qAt hlt] at h
    exact decide_eq_true (Option.some.inj h)
theorem qnl {s : List Nat} (hz : s.length ≤ 1000000000000) {a : Nat} {H : List Obj} (ha : a < s.length) : SyR H a (qgB s a) (zC pg 38 [.d (.s s), .d (.i .i64 (a : Nat))] H) := by
  have hl := fun v4 => qmX hz (v1 := (a : Int)) (v4 := v4) (H := H) (s.length - (a + 1)) (a + 1) rfl (by omega)
  have hle := qdD cTx (s.drop (a + 1))
  simp only [List.length_drop] at hle
  have hmm : (s.take (a + 1 + run cTx (s.drop (a + 1)))).drop (a + 1) = (s.drop (a + 1)).take (run cTx (s.drop (a + 1))) := by
    rw [List.drop_take]; congr 1; omega
  have hw0 : wr .i64 ((a : Int) + 1) = ((a + 1 : Nat) : Int) := by rw [jl (by omega) (by omega)]; omega
  rw [qY (fn := yL) rfl rfl]
  unfold qgB
  have hmid := qhB (l := s) (a := a + 1) (b := a + 1 + run cTx (s.drop (a + 1))) (by omega) (by omega)
  rw [hmm] at hmid
  generalize run cTx (s.drop (a + 1)) = k at *
  generalize (s.drop (a + 1)).take k = t at *
  by_cases hp : pre [34] (s.drop (a + 1 + k)) = true
  · have hlt := qek hp
    have h1 : ((s.length : Int) ≤ ((a + 1 + k : Nat) : Int)) = False := by rw [eq_iff_iff]; simp; omega
    have hix : ixV (.d (.s s)) (.d (.i .i64 ((a + 1 + k : Nat) : Int))) = some (.d (.i .u8 ((34 : Nat) : Int))) := ixA (qg8.1 hp)
    have e34 : (((34 : Nat) : Int) = 34) = True := by simp
    have hw1 : wr .i64 (((a + 1 + k : Nat) : Int) - (a : Int)) = ((k + 1 : Nat) : Int) := by rw [jl (by omega) (by omega)]; omega
    have hw2 : wr .i64 (((k + 1 : Nat) : Int) - 1) = (k : Int) := by rw [jl (by omega) (by omega)]; omega
    have hw3 : wr .i64 (((a + 1 + k : Nat) : Int) + 1) = ((a + 1 + k + 1 : Nat) : Int) := by rw [jl (by omega) (by omega)]; omega
    rw [if_pos hp]
    by_cases q : 120 < k
    · have e1 : ((120 : Int) < ((k : Nat) : Int)) = True := by rw [eq_iff_iff]; simp; omega
      rw [if_pos q]
      simp only [SyR, yL, qaq, qj, qz6, Nat.reduceAdd, qo, qx, qy, qm, kx, qz3, qz9, qL, zB, kF, jr, kN, qe, kK, qK, qW, qa, qf, kI, Nat.reduceEqDiff, qF, reduceCtorEq, qD, qA, qz, qk, ke, kr, qz7, kB, hw0, qp, qq, yJ, qU, za, hl, q9, ze, qAd, z7, h1, decide_false, kT, zO, qAr, zh, ↓reduceIte, kE, hix, qAv, qbC, decide_true, qAm, kw, zt, qz0, qw, qC, qS, zk, hw1, hw2, je, e1, zf, zF, zG, zz, jm, zy, kY, zg, qN, zp, zo, zm, qz4, qz8, qX, kS, zq, jg, kl, qz1, kZ, kO, kU, kp, qO, ko, qJ, qb, kQ, zQ, Nat.reduceLeDiff, jA, qAn, qAi, qAp, kq, qH, kv, qh, qt, z8, zE, jf, qcy, zY, jN, zU, jM, jo, Nat.max_self, zJ, kM, tok]
      all_goals rfl
    · have e1 : ((120 : Int) < ((k : Nat) : Int)) = False := by rw [eq_iff_iff]; simp; omega
      rw [if_neg q]
      simp only [SyR, yL, qaq, qj, qz6, Nat.reduceAdd, qo, qx, qy, qm, kx, qz3, qz9, qL, zB, kF, jr, kN, qe, kK, qK, qW, qa, qf, kI, Nat.reduceEqDiff, qF, reduceCtorEq, qD, qA, qz, qk, ke, kr, qz7, kB, hw0, qp, qq, yJ, qU, za, hl, q9, ze, qAd, z7, h1, decide_false, kT, zO, qAr, zh, ↓reduceIte, kE, hix, qAv, qbC, decide_true, qAm, kw, zt, qz0, qw, qC, qS, zk, hw1, hw2, je, e1, hw3, jY, yn, qc4, qas, hmid, zf, zq, ky, kS, qz4, qz8, Nat.reduceLT, jO, qAa, qAc, jg, zF, zG, zz, jm, zy, kY, zg, qN, zp, zo, zm, qX, kl, qz1, kZ, kO, kU, kp, qO, qJ, qb, kQ, zQ, Nat.reduceLeDiff, jA, qAn, qAi, qAp, kq, qH, kv, qh, qt, z8, zE, jf, qcy, zY, jN, zU, jM, jo, Nat.max_self, zJ, kM, tok]
      all_goals rfl
  · rw [if_neg hp]
    by_cases hlt : a + 1 + k < s.length
    · have h1 : ((s.length : Int) ≤ ((a + 1 + k : Nat) : Int)) = False := by rw [eq_iff_iff]; simp; omega
      have hix : ixV (.d (.s s)) (.d (.i .i64 ((a + 1 + k : Nat) : Int))) = some (.d (.i .u8 ((s[a + 1 + k] : Nat) : Int))) := ixA (qAt hlt)
      have hne : s[a + 1 + k] ≠ 34 := fun h => hp (qg8.2 (by rw [qAt hlt, h]))
      have e34 : (((s[a + 1 + k] : Nat) : Int) = 34) = False := eq_false (fun h => hne (by exact_mod_cast h))
      simp only [SyR, yL, qaq, qj, qz6, Nat.reduceAdd, qo, qx, qy, qm, kx, qz3, qz9, qL, zB, kF, jr, kN, qe, kK, qK, qW, qa, qf, kI, Nat.reduceEqDiff, qF, reduceCtorEq, qD, qA, qz, qk, ke, kr, qz7, kB, hw0, qp, qq, yJ, qU, za, hl, q9, ze, qAd, z7, h1, decide_false, kT, zO, qAr, zh, ↓reduceIte, kE, hix, qbC, e34, kw, zt, qz0, qw, qC, zf, zF, zG, zz, jm, zy, kY, zg, qN, zp, zo, zm, qz4, qz8, qX, kS, zq, jg, kl, qz1, kZ, kO, kU, kp, qO, ko, qJ, qb, kQ, zQ, Nat.reduceLeDiff, jA, qAn, qAi, qAp, kq, qH, kv, qh, qt, z8, zE, jf, qcy, zY, jN, zU, jM, jo, Nat.max_self, zJ, kM, tok]
      all_goals rfl
    · have h1 : ((s.length : Int) ≤ ((a + 1 + k : Nat) : Int)) = True := by rw [eq_iff_iff]; simp; omega
      simp only [SyR, yL, qaq, qj, qz6, Nat.reduceAdd, qo, qx, qy, qm, kx, qz3, qz9, qL, zB, kF, jr, kN, qe, kK, qK, qW, qa, qf, kI, Nat.reduceEqDiff, qF, reduceCtorEq, qD, qA, qz, qk, ke, kr, qz7, kB, hw0, qp, qq, yJ, qU, za, hl, q9, ze, qAd, z7, h1, decide_true, kT, zO, qAm, zh, qz0, ↓reduceIte, zl, kw, kX, qbT, qw, qC, zf, zF, zG, zz, jm, zy, kY, zg, qN, zp, zo, zm, qz4, qz8, qX, kS, zq, jg, kl, qz1, kZ, kO, kU, kp, qO, ko, qJ, qb, kQ, zQ, Nat.reduceLeDiff, jA, qAn, qAi, qAp, kq, qH, kv, qh, qt, z8, zE, jf, qcy, zY, jN, zU, jM, jo, Nat.max_self, zJ, kM, tok]
      all_goals rfl
def KK : Nat := 1099511627776
def qjr (h : Nat) : List Nat → Nat
  | [] => h
  | c :: l => qjr (min (16 * h + dg c) KK) l
def qkX (h : Nat) : List Nat → Nat
  | [] => h
  | c :: l => qkX (min (10 * h + dg c) KK) l
def qkD (p : Bool) : List Nat → Bool
  | [] => p
  | c :: l => qkD (p && decide (dg c < 10)) l
theorem qpy : ∀ (l : List Nat) (h m : Nat), m < h → m < KK → m < qjr h l
  | [], h, m, h1, _ => h1
  | c :: l, h, m, h1, h2 => qpy l _ m (by omega) h2
theorem qph : ∀ (l : List Nat) (h m : Nat), m < h → m < KK → m < qkX h l
  | [], h, m, h1, _ => h1
  | c :: l, h, m, h1, h2 => qph l _ m (by omega) h2
theorem qsn : ∀ l, qkD false l = false
  | [] => rfl
  | c :: l => by rw [qkD, Bool.false_and]; exact qsn l
theorem qpk : ∀ (l : List Nat) (h : Nat), h ≤ KK → qjr h l ≤ KK
  | [], h, h1 => h1
  | c :: l, h, h1 => qpk l _ (Nat.min_le_right _ _)
theorem qxl {mx : Nat} (hmx : mx < KK) : ∀ (l : List Nat) (n : Nat), (∀ c ∈ l, dg c < 16) → n ≤ mx → pu 16 mx n l = if qjr n l ≤ mx then some (qjr n l) else none
  | [], n, _, hn => by rw [pu, qjr, if_pos hn]
  | c :: l, n, hl, hn => by
    have hc := hl c (by simp)
    rw [pu, qjr, if_neg (by omega)]
    have e : n * 16 + dg c = 16 * n + dg c := by omega
    rw [e]
    by_cases h : mx < 16 * n + dg c
    · rw [if_pos h, if_neg]
      have := qpy l (min (16 * n + dg c) KK) mx (by omega) hmx
      omega
    · rw [if_neg h, qxl hmx l _ (fun c h => hl c (by simp [h])) (by omega)]
      have : min (16 * n + dg c) KK = 16 * n + dg c := by omega
      rw [this]
theorem qw1 {mx : Nat} (hmx : mx < KK) : ∀ (l : List Nat) (n : Nat), n ≤ mx → pu 10 mx n l = if qkD true l = true ∧ qkX n l ≤ mx then some (qkX n l) else none
  | [], n, hn => by rw [pu, qkX, qkD, if_pos ⟨rfl, hn⟩]
  | c :: l, n, hn => by
    rw [pu, qkX, qkD, Bool.true_and]
    by_cases hc : 10 ≤ dg c
    · rw [if_pos hc, if_neg]
      have : decide (dg c < 10) = false := by simp; omega
      rw [this, qsn]; simp
    · rw [if_neg hc]
      have : decide (dg c < 10) = true := by simp; omega
      rw [this]
      have e : n * 10 + dg c = 10 * n + dg c := by omega
      rw [e]
      by_cases h : mx < 10 * n + dg c
      · rw [if_pos h, if_neg]
        have := qph l (min (10 * n + dg c) KK) mx (by omega) hmx
        omega
      · rw [if_neg h, qw1 hmx l _ (by omega)]
        have : min (10 * n + dg c) KK = 10 * n + dg c := by omega
        rw [this]
theorem qrQ {h x m : Nat} : (if (1099511627776 : Int) < ((m * h + x : Nat) : Int) then (1099511627776 : Int) else ((m * h + x : Nat) : Int)) = ((min (m * h + x) KK : Nat) : Int) := by
  unfold KK
  split <;> omega
theorem qun {c : Nat} (h : cHx c = true) : dg c < 16 := by
  simp only [cHx, cDg, Bool.or_eq_true, qAf, decide_eq_true_eq] at h
  unfold dg; split <;> omega
theorem qrV {s : List Nat} (hz : s.length ≤ 1000000000000) {v1 : Int} {v4 : List V} {H : List Obj} :
    ∀ (k j : Nat) (p : Bool) (h d : Nat), s.length - j = k → j ≤ s.length → h ≤ KK → d ≤ KK →
      j5 0 [0, 1, 4, 6, 7, 8, 9] (qbi pg (.d (.s s)) (.d (.i .i64 v1)) (.box v4) (.d (.i .i64 (j : Nat))) (.d (.b p)) (.d (.i .u64 (h : Nat))) (.d (.i .u64 (d : Nat))) H H.length) =
        some (.nrm, ⟨[(0, .d (.s s)), (1, .d (.i .i64 v1)), (4, .box v4), (6, .d (.i .i64 ((j + run cHx (s.drop j) : Nat) : Int))), (7, .d (.b (qkD p ((s.drop j).take (run cHx (s.drop j)))))), (8, .d (.i .u64 ((qjr h ((s.drop j).take (run cHx (s.drop j))) : Nat) : Int))), (9, .d (.i .u64 ((qkX d ((s.drop j).take (run cHx (s.drop j))) : Nat) : Int)))], H, H.length⟩) := by
  intro k
  induction k with
  | zero =>
    intro j p h d hk hj hh hd
    obtain rfl : j = s.length := by omega
    have h1 : ((s.length : Int) < (s.length : Int)) = False := by simp
    rw [qc0]
    have hr : run cHx (s.drop s.length) = 0 := by simp [run]
    rw [hr]
    simp only [yF, qU, za, qx, qy, qm, qe, kI, reduceCtorEq, qF, Nat.reduceEqDiff, qD, qA, qz, qL, qW, q9, ze, qp, qk, ke, qAd, zj, h1, decide_false, kT, zn, zh, qz0, ↓reduceIte, zl, kw, kX, kK, j8, qa, qf, qw, qC, yB, jH, jx, ql, qn, qAu, qAp, qkD, qjr, qkX]
    all_goals rfl
  | succ k ih =>
    intro j p h d hk hj hh hd
    have h1 : ((j : Int) < (s.length : Int)) = True := by rw [eq_iff_iff]; simp; omega
    have hlt : j < s.length := by omega
    have hdr := yN hlt
    have hix : ixV (.d (.s s)) (.d (.i .i64 (j : Int))) = some (.d (.i .u8 ((s[j] : Nat) : Int))) := ixA (qAt hlt)
    have hw : wr .i64 ((j : Int) + 1) = ((j + 1 : Nat) : Int) := by rw [jl (by omega) (by omega)]; omega
    rw [qc0, hdr]
    generalize s[j] = c at hix
    have hc := qp3 (c := c) (H := H)
    cases hq : cHx c with
    | false =>
      rw [hq] at hc
      have hr : run cHx (c :: s.drop (j + 1)) = 0 := by simp [run, hq]
      rw [hr]
      have e1 : ((0 : Int) ≤ -1) = False := by simp
      simp only [yF, qU, za, qx, qy, qm, qe, kI, reduceCtorEq, qF, Nat.reduceEqDiff, qD, qA, qz, qL, qW, q9, ze, qp, qk, ke, qAd, zj, h1, decide_true, kT, zn, zh, ↓reduceIte, kE, hix, qs, qz3, qz9, qc, qI, qi, qz1, qT, hc, qz0, Int.reduceNeg, qr, qd, qg, qAs, kr, qz7, kK, z7, e1, decide_false, kw, zt, qa, qf, qw, qC, yB, jH, jx, ql, qn, qAu, qAp, qkD, qjr, qkX]
      all_goals rfl
    | true =>
      rw [hq, if_pos rfl] at hc
      have hdl := qun hq
      have hr : run cHx (c :: s.drop (j + 1)) = run cHx (s.drop (j + 1)) + 1 := by simp [run, hq]
      have hj2 : j + (run cHx (s.drop (j + 1)) + 1) = j + 1 + run cHx (s.drop (j + 1)) := by omega
      rw [hr, qAi, qkD, qjr, qkX, hj2]
      have e1 : ((0 : Int) ≤ (dg c : Int)) = True := by rw [eq_iff_iff]; simp
      have e2 : wr .u64 (dg c : Int) = (dg c : Int) := qfV (by omega) (by omega)
      have hk16 : 16 * h ≤ 16 * KK := by omega
      have hk10 : 10 * d ≤ 10 * KK := by omega
      have hKK : KK = 1099511627776 := rfl
      have e3 : wr .u64 (16 * (h : Int)) = ((16 * h : Nat) : Int) := by rw [qfV (by omega) (by omega)]; omega
      have e4 : wr .u64 (((16 * h : Nat) : Int) + (dg c : Int)) = ((16 * h + dg c : Nat) : Int) := by rw [qfV (by omega) (by omega)]; omega
      have e5 : wr .u64 (10 * (d : Int)) = ((10 * d : Nat) : Int) := by rw [qfV (by omega) (by omega)]; omega
      have e6 : wr .u64 (((10 * d : Nat) : Int) + (dg c : Int)) = ((10 * d + dg c : Nat) : Int) := by rw [qfV (by omega) (by omega)]; omega
      have e7 := qrQ (h := h) (x := dg c) (m := 16)
      have e8 := qrQ (h := d) (x := dg c) (m := 10)
      have e9 : ((dg c : Int) < 10) = (dg c < 10) := by rw [eq_iff_iff]; omega
      cases p with
      | false =>
        have ih' := ih (j + 1) false (min (16 * h + dg c) KK) (min (10 * d + dg c) KK) (by omega) (by omega) (Nat.min_le_right _ _) (Nat.min_le_right _ _)
        rw [Bool.false_and]
        simp only [yF, qU, za, qx, qy, qm, qe, kI, reduceCtorEq, qF, Nat.reduceEqDiff, qD, qA, qz, qL, qW, q9, ze, qp, qk, ke, qAd, zj, h1, decide_true, kT, zn, zh, ↓reduceIte, kE, hix, qs, qz3, qz9, qc, qI, qi, qz1, qT, hc, qr, qd, qg, qAs, kr, qz7, kK, z7, e1, kw, zt, qa, qf, qw, qC, qS, qq, jI, e2, zc, kV, qZ, qz0, zl, kX, j8, qAl, qg2, e3, kB, e4, qlq, qrM, e7, e5, e6, e8, hw, qR, ql, qn, zI]
        exact ih'
      | true =>
        have ih' := ih (j + 1) (decide (dg c < 10)) (min (16 * h + dg c) KK) (min (10 * d + dg c) KK) (by omega) (by omega) (Nat.min_le_right _ _) (Nat.min_le_right _ _)
        rw [Bool.true_and]
        simp only [yF, qU, za, qx, qy, qm, qe, kI, reduceCtorEq, qF, Nat.reduceEqDiff, qD, qA, qz, qL, qW, q9, ze, qp, qk, ke, qAd, zj, h1, decide_true, kT, zn, zh, ↓reduceIte, kE, hix, qs, qz3, qz9, qc, qI, qi, qz1, qT, hc, qr, qd, qg, qAs, kr, qz7, kK, z7, e1, kw, zt, qa, qf, qw, qC, qS, qq, jI, e2, zc, kV, qZ, e9, qAl, qg2, e3, kB, e4, qlq, qrM, e7, e5, e6, e8, hw, qR, ql, qn, zI]
        exact ih'
theorem qmy {s : List Nat} (hz : s.length ≤ 1000000000000) {a : Nat} {H : List Obj} (ha : a ≤ s.length) : SyR H a (qkh s a) (zC pg 37 [.d (.s s), .d (.i .i64 (a : Nat))] H) := by
  have hl := fun v4 => qrV hz (v1 := (a : Int)) (v4 := v4) (H := H) (s.length - a) a true 0 0 rfl ha (by omega) (by omega)
  have hall := qmk cHx (s.drop a)
  have hle := qdD cHx (s.drop a)
  simp only [List.length_drop] at hle
  have hz0 : ((0 : Nat) : Int) = 0 := rfl
  rw [qY (fn := f_waferref11_number) rfl rfl]
  unfold qkh
  generalize run cHx (s.drop a) = k at *
  generalize (s.drop a).take k = t at *
  have hd16 : ∀ c ∈ t, dg c < 16 := fun c hc => qun (hall c hc)
  have r16 := fun (mx : Nat) (h : mx < KK) => qxl h t 0 hd16 (Nat.zero_le _)
  have r10 := fun (mx : Nat) (h : mx < KK) => qw1 h t 0 (Nat.zero_le _)
  have hHK := qpk t 0 (by unfold KK; omega)
  have hw1 : wr .i64 (((a + k : Nat) : Int) + 1) = ((a + k + 1 : Nat) : Int) := by rw [jl (by omega) (by omega)]; omega
  rw [hz0] at hl
  unfold qf5
  rw [r16 4294967295 (by decide), r16 255 (by decide), r10 2147483647 (by decide)]
  generalize qjr 0 t = h at *
  generalize qkX 0 t = d at *
  generalize qkD true t = p at *
  by_cases hp : pre [72] (s.drop (a + k)) = true
  · have hlt := qek hp
    have h1 : (((a + k : Nat) : Int) < (s.length : Int)) = True := by rw [eq_iff_iff]; simp; omega
    have hix := ixA (qg8.1 hp)
    have e72 : (((72 : Nat) : Int) = 72) = True := by simp
    have e88 : (((72 : Nat) : Int) = 88) = False := by simp
    rw [if_pos hp]
    by_cases q : h ≤ 4294967295
    · have e1 : ((4294967295 : Int) < (h : Int)) = False := by rw [eq_iff_iff]; simp; omega
      rw [if_pos q]
      simp only [SyR, f_waferref11_number, jd, qj, qz6, Nat.reduceAdd, qo, qx, qy, qm, kx, qz3, qz9, qL, zB, kF, jr, kN, qe, kK, qK, qW, qa, qf, kI, Nat.reduceEqDiff, qF, reduceCtorEq, qD, qA, qz, qq, zI, qU, za, hl, zf, zq, ky, kS, qz4, qz8, Nat.reduceLT, jO, qAa, qAc, zF, zG, zz, jm, zy, kY, zg, qp, ym, qN, zp, zo, zm, qX, jg, kl, qz1, kZ, kO, kU, kp, q9, ze, qk, ke, qAd, zj, h1, decide_true, kT, zn, zh, ↓reduceIte, kE, hix, qAv, kr, qz7, kj, zO, qAm, qz0, zl, kw, kX, qbT, zt, qw, qC, kB, hw1, qu, qcM, qe0, qaS, kn, jI, zc, kV, qZ, Int.reduceEq, decide_false, qS, je, e1, qQ, qbs, Nat.reduceLeDiff, jA, qAn, qAi, qAp, kq, qO, ko, qJ, qb, kQ, zQ, qH, kv, qh, qt, z8, zE, jf, qcy, zY, jN, zU, jM, jo, Nat.max_self, zJ, kM, tok]
      all_goals rfl
    · have e1 : ((4294967295 : Int) < (h : Int)) = True := by rw [eq_iff_iff]; simp; omega
      rw [if_neg q]
      simp only [SyR, f_waferref11_number, jd, qj, qz6, Nat.reduceAdd, qo, qx, qy, qm, kx, qz3, qz9, qL, zB, kF, jr, kN, qe, kK, qK, qW, qa, qf, kI, Nat.reduceEqDiff, qF, reduceCtorEq, qD, qA, qz, qq, zI, qU, za, hl, zf, zq, ky, kS, qz4, qz8, Nat.reduceLT, jO, qAa, qAc, zF, zG, zz, jm, zy, kY, zg, qp, ym, qN, zp, zo, zm, qX, jg, kl, qz1, kZ, kO, kU, kp, q9, ze, qk, ke, qAd, zj, h1, decide_true, kT, zn, zh, ↓reduceIte, kE, hix, qAv, kr, qz7, kj, zO, qAm, qz0, zl, kw, kX, qbT, zt, qw, qC, kB, hw1, qu, qcM, qe0, qaS, kn, jI, zc, kV, qZ, Int.reduceEq, decide_false, qS, je, e1, qO, ko, qJ, qb, kQ, zQ, Nat.reduceLeDiff, jA, qAn, qAi, qAp, kq, qH, kv, qh, qt, z8, zE, jf, qcy, zY, jN, zU, jM, jo, Nat.max_self, zJ, kM, tok]
      all_goals rfl
  · rw [if_neg hp]
    by_cases hp2 : pre [88] (s.drop (a + k)) = true
    · have hlt := qek hp2
      have h1 : (((a + k : Nat) : Int) < (s.length : Int)) = True := by rw [eq_iff_iff]; simp; omega
      have hix := ixA (qg8.1 hp2)
      have e72 : (((88 : Nat) : Int) = 72) = False := by simp
      have e88 : (((88 : Nat) : Int) = 88) = True := by simp
      rw [if_pos hp2]
      by_cases q : h ≤ 255
      · have e1 : ((4294967295 : Int) < (h : Int)) = False := by rw [eq_iff_iff]; simp; omega
        have e2 : ((255 : Int) < (h : Int)) = False := by rw [eq_iff_iff]; simp; omega
        rw [if_pos q]
        simp only [SyR, f_waferref11_number, jd, qj, qz6, Nat.reduceAdd, qo, qx, qy, qm, kx, qz3, qz9, qL, zB, kF, jr, kN, qe, kK, qK, qW, qa, qf, kI, Nat.reduceEqDiff, qF, reduceCtorEq, qD, qA, qz, qq, zI, qU, za, hl, zf, zq, ky, kS, qz4, qz8, Nat.reduceLT, jO, qAa, qAc, zF, zG, zz, jm, zy, kY, zg, qp, ym, qN, zp, zo, zm, qX, jg, kl, qz1, kZ, kO, kU, kp, q9, ze, qk, ke, qAd, zj, h1, decide_true, kT, zn, zh, ↓reduceIte, kE, hix, qAv, kr, qz7, kj, Int.reduceEq, decide_false, zO, qAr, kw, zt, qz0, qw, qC, kB, hw1, qu, qcM, qe0, qaS, kn, jI, zc, kV, qZ, qAu, je, e2, qS, e1, qQ, qbs, Nat.reduceLeDiff, jA, qAn, qAi, qAp, kq, qO, ko, qJ, qb, kQ, zQ, qH, kv, qh, qt, z8, zE, jf, qcy, zY, jN, zU, jM, jo, Nat.max_self, zJ, kM, tok]
        all_goals rfl
      · have e2 : ((255 : Int) < (h : Int)) = True := by rw [eq_iff_iff]; simp; omega
        rw [if_neg q]
        simp only [SyR, f_waferref11_number, jd, qj, qz6, Nat.reduceAdd, qo, qx, qy, qm, kx, qz3, qz9, qL, zB, kF, jr, kN, qe, kK, qK, qW, qa, qf, kI, Nat.reduceEqDiff, qF, reduceCtorEq, qD, qA, qz, qq, zI, qU, za, hl, zf, zq, ky, kS, qz4, qz8, Nat.reduceLT, jO, qAa, qAc, zF, zG, zz, jm, zy, kY, zg, qp, ym, qN, zp, zo, zm, qX, jg, kl, qz1, kZ, kO, kU, kp, q9, ze, qk, ke, qAd, zj, h1, decide_true, kT, zn, zh, ↓reduceIte, kE, hix, qAv, kr, qz7, kj, Int.reduceEq, decide_false, zO, qAr, kw, zt, qz0, qw, qC, kB, hw1, qu, qcM, qe0, qaS, kn, jI, zc, kV, qZ, qAu, je, e2, qO, ko, qJ, qb, kQ, zQ, Nat.reduceLeDiff, jA, qAn, qAi, qAp, kq, qH, kv, qh, qt, z8, zE, jf, qcy, zY, jN, zU, jM, jo, Nat.max_self, zJ, kM, tok]
        all_goals rfl
    · rw [if_neg hp2]
      have hdu : d ≤ 2147483647 → wr .u32 (d : Int) = (d : Int) := fun h => qvl (by omega) (by omega)
      have tail : ∀ X, X = qhi H false [.cell 4 ⟨5, true⟩, .t 5] (exL pg f_waferref11_number.body ⟨ya 0 [.d (.s s), .d (.i .i64 (a : Nat))], H, H.length⟩) → SyR H a (match (if p = true ∧ d ≤ 2147483647 then some d else none) with | none => Sy.bad 30 | some u => .ok 2 [] (wr .i32 (wr .u32 (u : Nat))) (a + k)) X := by
        intro X hX
        rw [hX]
        have cases72 : (∃ c, (((a + k : Nat) : Int) < (s.length : Int)) = True ∧ ixV (.d (.s s)) (.d (.i .i64 ((a + k : Nat) : Int))) = some (.d (.i .u8 ((c : Nat) : Int))) ∧ (((c : Nat) : Int) = 72) = False ∧ (((c : Nat) : Int) = 88) = False) ∨ (((a + k : Nat) : Int) < (s.length : Int)) = False := by
          by_cases hlt : a + k < s.length
          · left
            have hg := qAt hlt
            refine ⟨s[a + k], by rw [eq_iff_iff]; simp; omega, ixA hg, eq_false (fun h => hp (qg8.2 (by rw [hg]; exact congrArg some (by exact_mod_cast h)))), eq_false (fun h => hp2 (qg8.2 (by rw [hg]; exact congrArg some (by exact_mod_cast h))))⟩
          · right; rw [eq_iff_iff]; simp; omega
        by_cases q : p = true ∧ d ≤ 2147483647
        · have e1 : ((2147483647 : Int) < (d : Int)) = False := by rw [eq_iff_iff]; simp; omega
          rw [if_pos q]
          simp only [q.1] at hl
          have hd2 := hdu q.2
          rcases cases72 with ⟨c, h1, hix, e72, e88⟩ | h1
          · simp only [SyR, f_waferref11_number, jd, qj, qz6, Nat.reduceAdd, qo, qx, qy, qm, kx, qz3, qz9, qL, zB, kF, jr, kN, qe, kK, qK, qW, qa, qf, kI, Nat.reduceEqDiff, qF, reduceCtorEq, qD, qA, qz, qq, zI, qU, za, hl, zf, zq, ky, kS, qz4, qz8, Nat.reduceLT, jO, qAa, qAc, zF, zG, zz, jm, zy, kY, zg, qp, ym, qN, zp, zo, zm, qX, jg, kl, qz1, kZ, kO, kU, kp, q9, ze, qk, ke, qAd, zj, h1, decide_true, kT, zn, zh, ↓reduceIte, kE, hix, kr, qz7, kj, e72, decide_false, zO, qAr, e88, kw, zt, qz0, qw, qC, qS, yP, qb2, qAm, qAb, je, e1, jI, qu, qcM, qe0, zc, kV, qaS, qZ, kn, qQ, qbs, Nat.reduceLeDiff, jA, qAn, qAi, qAp, kq, qO, qJ, qb, kQ, zQ, qH, kv, qh, qt, z8, zE, jf, qcy, zY, jN, zU, jM, jo, Nat.max_self, zJ, kM, tok, hd2]
            all_goals rfl
          · simp only [SyR, f_waferref11_number, jd, qj, qz6, Nat.reduceAdd, qo, qx, qy, qm, kx, qz3, qz9, qL, zB, kF, jr, kN, qe, kK, qK, qW, qa, qf, kI, Nat.reduceEqDiff, qF, reduceCtorEq, qD, qA, qz, qq, zI, qU, za, hl, zf, zq, ky, kS, qz4, qz8, Nat.reduceLT, jO, qAa, qAc, zF, zG, zz, jm, zy, kY, zg, qp, ym, qN, zp, zo, zm, qX, jg, kl, qz1, kZ, kO, kU, kp, q9, ze, qk, ke, qAd, zj, h1, decide_false, kT, zn, zh, qz0, ↓reduceIte, zl, qgb, kw, kX, j8, qw, qC, qS, yP, qb2, qAm, qAb, zO, qAr, kr, qz7, je, e1, zt, jI, qu, qcM, qe0, zc, kV, qaS, qZ, kn, qQ, qbs, Nat.reduceLeDiff, jA, qAn, qAi, qAp, kq, qO, qJ, qb, kQ, zQ, qH, kv, qh, qt, z8, zE, jf, qcy, zY, jN, zU, jM, jo, Nat.max_self, zJ, kM, tok, hd2]
            all_goals rfl
        · rw [if_neg q]
          cases hpp : p with
          | false =>
            simp only [hpp] at hl
            rcases cases72 with ⟨c, h1, hix, e72, e88⟩ | h1
            · simp only [SyR, f_waferref11_number, jd, qj, qz6, Nat.reduceAdd, qo, qx, qy, qm, kx, qz3, qz9, qL, zB, kF, jr, kN, qe, kK, qK, qW, qa, qf, kI, Nat.reduceEqDiff, qF, reduceCtorEq, qD, qA, qz, qq, zI, qU, za, hl, zf, zq, ky, kS, qz4, qz8, Nat.reduceLT, jO, qAa, qAc, zF, zG, zz, jm, zy, kY, zg, qp, ym, qN, zp, zo, zm, qX, jg, kl, qz1, kZ, kO, kU, kp, q9, ze, qk, ke, qAd, zj, h1, decide_true, kT, zn, zh, ↓reduceIte, kE, hix, kr, qz7, kj, e72, decide_false, zO, qAr, e88, kw, zt, qz0, qw, qC, qS, yP, qb2, qAb, qAm, zl, kX, qbT, qO, ko, qJ, qb, kQ, zQ, Nat.reduceLeDiff, jA, qAn, qAi, qAp, kq, qH, kv, qh, qt, z8, zE, jf, qcy, zY, jN, zU, jM, jo, Nat.max_self, zJ, kM, tok]
              all_goals rfl
            · simp only [SyR, f_waferref11_number, jd, qj, qz6, Nat.reduceAdd, qo, qx, qy, qm, kx, qz3, qz9, qL, zB, kF, jr, kN, qe, kK, qK, qW, qa, qf, kI, Nat.reduceEqDiff, qF, reduceCtorEq, qD, qA, qz, qq, zI, qU, za, hl, zf, zq, ky, kS, qz4, qz8, Nat.reduceLT, jO, qAa, qAc, zF, zG, zz, jm, zy, kY, zg, qp, ym, qN, zp, zo, zm, qX, jg, kl, qz1, kZ, kO, kU, kp, q9, ze, qk, ke, qAd, zj, h1, decide_false, kT, zn, zh, qz0, ↓reduceIte, zl, qgb, kw, kX, j8, qw, qC, qS, yP, qb2, qAr, qAb, zO, qAm, qbT, qO, ko, qJ, qb, kQ, zQ, Nat.reduceLeDiff, jA, qAn, qAi, qAp, kq, qH, kv, qh, qt, z8, zE, jf, qcy, zY, jN, zU, jM, jo, Nat.max_self, zJ, kM, tok]
              all_goals rfl
          | true =>
            simp only [hpp] at hl
            have e1 : ((2147483647 : Int) < (d : Int)) = True := by rw [eq_iff_iff]; simp; by_cases hh : d ≤ 2147483647; exact absurd ⟨hpp, hh⟩ q; omega
            rcases cases72 with ⟨c, h1, hix, e72, e88⟩ | h1
            · simp only [SyR, f_waferref11_number, jd, qj, qz6, Nat.reduceAdd, qo, qx, qy, qm, kx, qz3, qz9, qL, zB, kF, jr, kN, qe, kK, qK, qW, qa, qf, kI, Nat.reduceEqDiff, qF, reduceCtorEq, qD, qA, qz, qq, zI, qU, za, hl, zf, zq, ky, kS, qz4, qz8, Nat.reduceLT, jO, qAa, qAc, zF, zG, zz, jm, zy, kY, zg, qp, ym, qN, zp, zo, zm, qX, jg, kl, qz1, kZ, kO, kU, kp, q9, ze, qk, ke, qAd, zj, h1, decide_true, kT, zn, zh, ↓reduceIte, kE, hix, kr, qz7, kj, e72, decide_false, zO, qAr, e88, kw, zt, qz0, qw, qC, qS, yP, qb2, qAm, qAb, je, e1, qO, ko, qJ, qb, kQ, zQ, Nat.reduceLeDiff, jA, qAn, qAi, qAp, kq, qH, kv, qh, qt, z8, zE, jf, qcy, zY, jN, zU, jM, jo, Nat.max_self, zJ, kM, tok]
              all_goals rfl
            · simp only [SyR, f_waferref11_number, jd, qj, qz6, Nat.reduceAdd, qo, qx, qy, qm, kx, qz3, qz9, qL, zB, kF, jr, kN, qe, kK, qK, qW, qa, qf, kI, Nat.reduceEqDiff, qF, reduceCtorEq, qD, qA, qz, qq, zI, qU, za, hl, zf, zq, ky, kS, qz4, qz8, Nat.reduceLT, jO, qAa, qAc, zF, zG, zz, jm, zy, kY, zg, qp, ym, qN, zp, zo, zm, qX, jg, kl, qz1, kZ, kO, kU, kp, q9, ze, qk, ke, qAd, zj, h1, decide_false, kT, zn, zh, qz0, ↓reduceIte, zl, qgb, kw, kX, j8, qw, qC, qS, yP, qb2, qAm, qAb, zO, qAr, kr, qz7, je, e1, decide_true, zt, qO, ko, qJ, qb, kQ, zQ, Nat.reduceLeDiff, jA, qAn, qAi, qAp, kq, qH, kv, qh, qt, z8, zE, jf, qcy, zY, jN, zU, jM, jo, Nat.max_self, zJ, kM, tok]
              all_goals rfl
      exact tail _ rfl
end W

set_option linter.unusedSimpArgs false
set_option linter.unusedVariables false
namespace W
open Go (IntKind BinOp UnOp)
set_option maxRecDepth 20000
theorem qoS {s : List Nat} (hz : s.length ≤ 1000000000000) {v1 : Int} {v4 : List V} {H : List Obj} :
    ∀ (k j : Nat), s.length - j = k → j ≤ s.length → j5 1 [0, 1, 4, 7] (qbe pg (.d (.s s)) (.d (.i .i64 v1)) (.box v4) (.d (.i .i64 (j : Nat))) H H.length) = some (.nrm, ⟨[(0, .d (.s s)), (1, .d (.i .i64 v1)), (4, .box v4), (7, .d (.i .i64 ((j + run cNm (s.drop j) : Nat) : Int)))], H, H.length⟩) := by
  intro k
  induction k with
  | zero =>
    intro j hk hj
    obtain rfl : j = s.length := by omega
    have h1 : ((s.length : Int) < (s.length : Int)) = False := by simp
    rw [qcY]
    have hr : run cNm (s.drop s.length) = 0 := by simp [run]
    rw [hr]
    simp only [yH, qU, za, qx, qy, qm, qe, kI, reduceCtorEq, qF, Nat.reduceEqDiff, qD, qA, qz, qL, qW, q9, ze, qp, qk, ke, qAd, zj, h1, decide_false, kT, zn, zh, qz0, ↓reduceIte, zl, qgb, kw, kX, kK, j8, qa, qf, qw, qC, yB, jH, jx, ql, qn, qAu]
    all_goals rfl
  | succ k ih =>
    intro j hk hj
    have h1 : ((j : Int) < (s.length : Int)) = True := by rw [eq_iff_iff]; simp; omega
    have hlt : j < s.length := by omega
    have hdr := yN hlt
    have hix : ixV (.d (.s s)) (.d (.i .i64 (j : Int))) = some (.d (.i .u8 ((s[j] : Nat) : Int))) := ixA (qAt hlt)
    have hw : wr .i64 ((j : Int) + 1) = ((j + 1 : Nat) : Int) := by rw [jl (by omega) (by omega)]; omega
    rw [qcY, hdr]
    generalize s[j] = c at hix
    have hc1 := qil (c := c) (H := H)
    have hc2 := qgt (c := c) (H := H)
    have ih' := ih (j + 1) (by omega) (by omega)
    cases q1 : cLt c with
    | true =>
      rw [q1] at hc1
      have hr : j + run cNm (c :: s.drop (j + 1)) = j + 1 + run cNm (s.drop (j + 1)) := by simp [run, cNm, q1]; omega
      rw [hr]
      simp only [yH, qU, za, qx, qy, qm, qe, kI, reduceCtorEq, qF, Nat.reduceEqDiff, qD, qA, qz, qL, qW, q9, ze, qp, qk, ke, qAd, zj, h1, decide_true, kT, zn, zh, ↓reduceIte, kE, hix, qs, qz3, qz9, qc, qI, qi, qz1, qT, hc1, qr, qd, qg, qAs, zc, kV, qZ, zO, qAm, qz0, zl, kw, kK, kX, qbT, zt, qa, qf, qw, qC, qS, qq, kr, qz7, kB, hw, qR, ql, qn, yI]
      exact ih'
    | false =>
      rw [q1] at hc1
      cases q2 : cDg c with
      | true =>
        rw [q2] at hc2
        have hr : j + run cNm (c :: s.drop (j + 1)) = j + 1 + run cNm (s.drop (j + 1)) := by simp [run, cNm, q1, q2]; omega
        rw [hr]
        simp only [yH, qU, za, qx, qy, qm, qe, kI, reduceCtorEq, qF, Nat.reduceEqDiff, qD, qA, qz, qL, qW, q9, ze, qp, qk, ke, qAd, zj, h1, decide_true, kT, zn, zh, ↓reduceIte, kE, hix, qs, qz3, qz9, qc, qI, qi, qz1, qT, hc1, qr, qd, qg, qAs, zc, kV, qZ, zO, qAr, hc2, kw, kK, zt, qz0, qa, qf, qw, qC, qS, qq, kr, qz7, kB, hw, qR, ql, qn, yI]
        exact ih'
      | false =>
        rw [q2] at hc2
        have hr : run cNm (c :: s.drop (j + 1)) = 0 := by simp [run, cNm, q1, q2]
        rw [hr]
        simp only [yH, qU, za, qx, qy, qm, qe, kI, reduceCtorEq, qF, Nat.reduceEqDiff, qD, qA, qz, qL, qW, q9, ze, qp, qk, ke, qAd, zj, h1, decide_true, kT, zn, zh, ↓reduceIte, kE, hix, qs, qz3, qz9, qc, qI, qi, qz1, qT, hc1, qr, qd, qg, qAs, zc, kV, qZ, zO, qAr, hc2, kw, kK, zt, qz0, qa, qf, qw, qC, yB, jH, jx, ql, qn, qAu]
        all_goals rfl
theorem qnm {s : List Nat} (hz : s.length ≤ 1000000000000) {a : Nat} {H : List Obj} (ha : a < s.length) : SyR H a (qfk s a) (zC pg 26 [.d (.s s), .d (.i .i64 (a : Nat))] H) := by
  have hL := yN ha
  have hix : ixV (.d (.s s)) (.d (.i .i64 (a : Int))) = some (.d (.i .u8 ((s[a] : Nat) : Int))) := ixA (qAt ha)
  have hsym : qfk s a = if cLt s[a] = true then qiq s a else if cDg s[a] = true then qkh s a else if s[a] = 34 then qgB s a else qfU s a s[a] := by
    unfold qfk; rw [hL]
  rw [hsym]
  generalize s[a] = c at hix hL
  have hc1 := qil (c := c) (H := H)
  have hc2 := qgt (c := c) (H := H)
  rw [qY (fn := f_waferref11_symbol) rfl rfl]
  cases q1 : cLt c with
  | true =>
    rw [q1] at hc1
    rw [if_pos rfl]
    have hl := fun v4 => qoS hz (v1 := (a : Int)) (v4 := v4) (H := H) (s.length - a) a rfl (by omega)
    have hle := qdD cNm (s.drop a)
    have hlen : ((s.drop a).take (run cNm (s.drop a))).length = run cNm (s.drop a) := by simp only [List.length_take]; omega
    simp only [List.length_drop] at hle
    unfold qiq
    have hmid := qhB (l := s) (a := a) (b := a + run cNm (s.drop a)) (by omega) (by omega)
    have hmm : (s.take (a + run cNm (s.drop a))).drop a = (s.drop a).take (run cNm (s.drop a)) := by
      rw [List.drop_take]; congr 1; omega
    rw [hmm] at hmid
    generalize run cNm (s.drop a) = k at *
    generalize (s.drop a).take k = t at *
    have hw1 : wr .i64 (((a + k : Nat) : Int) - (a : Int)) = (k : Int) := by rw [jl (by omega) (by omega)]; omega
    have hkw := ql9 (t := t) (H := H)
    by_cases h32 : 32 < k
    · have e1 : ((32 : Int) < (k : Int)) = True := by rw [eq_iff_iff]; simp; omega
      rw [if_pos h32]
      simp only [SyR, f_waferref11_symbol, qbd, qj, qz6, Nat.reduceAdd, qo, qx, qy, qm, kx, qz3, qz9, qL, zB, kF, jr, kN, qe, kK, qK, qW, qa, qf, kI, reduceCtorEq, qF, qD, qA, qz, Nat.reduceEqDiff, kE, hix, qp, qq, qs, qc, qI, qi, qz1, qT, hc1, qr, qd, qg, qAs, zc, kV, qZ, qw, qC, ↓reduceIte, yI, qU, za, hl, qk, ke, qAd, zk, hw1, kr, qz7, je, e1, decide_true, zf, zF, zG, zz, jm, zy, kY, zg, qN, zp, zo, zm, qz4, qz8, qX, kS, zq, jg, kl, kZ, kO, kU, kp, qO, ko, kG, qJ, qb, kQ, zQ, Nat.reduceLeDiff, jA, qAn, qAi, qAp, kq, qH, kv, qh, qt, z8, zE, jf, qcy, zY, jN, zU, jM, jo, Nat.max_self, zJ, kM, tok]
      all_goals rfl
    · have e1 : ((32 : Int) < (k : Int)) = False := by rw [eq_iff_iff]; simp; omega
      rw [if_neg h32]
      by_cases hk : t ∈ KW
      · rw [if_pos hk]
        rw [decide_eq_true hk] at hkw
        simp only [SyR, f_waferref11_symbol, qbd, qj, qz6, Nat.reduceAdd, qo, qx, qy, qm, kx, qz3, qz9, qL, zB, kF, jr, kN, qe, kK, qK, qW, qa, qf, kI, reduceCtorEq, qF, qD, qA, qz, Nat.reduceEqDiff, kE, hix, qp, qq, qs, qc, qI, qi, qz1, qT, hc1, qr, qd, qg, qAs, zc, kV, qZ, qw, qC, ↓reduceIte, yI, qU, za, hl, qk, ke, qAd, zk, hw1, kr, qz7, je, e1, decide_false, qz0, qS, jY, yn, qc4, qas, hmid, zf, zq, ky, kS, qz4, qz8, Nat.reduceLT, jO, qAa, qAc, jg, zF, zG, zz, jm, zy, kY, zg, ym, qN, zp, zo, zm, qX, kl, kZ, kO, kU, kp, qu, qcM, qe0, qQ, qaS, qbs, qjO, qz5, qz2, qAb, kq, hkw, qAu, kn, Nat.reduceLeDiff, jA, qAn, qAi, qAp, qO, kG, ko, qJ, qb, kQ, zQ, qH, kv, qh, qt, z8, zE, jf, qcy, zY, jN, zU, jM, jo, Nat.max_self, zJ, kM, tok]
        all_goals rfl
      · rw [if_neg hk]
        rw [decide_eq_false hk] at hkw
        simp only [SyR, f_waferref11_symbol, qbd, qj, qz6, Nat.reduceAdd, qo, qx, qy, qm, kx, qz3, qz9, qL, zB, kF, jr, kN, qe, kK, qK, qW, qa, qf, kI, reduceCtorEq, qF, qD, qA, qz, Nat.reduceEqDiff, kE, hix, qp, qq, qs, qc, qI, qi, qz1, qT, hc1, qr, qd, qg, qAs, zc, kV, qZ, qw, qC, ↓reduceIte, yI, qU, za, hl, qk, ke, qAd, zk, hw1, kr, qz7, je, e1, decide_false, qz0, qS, jY, yn, qc4, qas, hmid, zf, zq, ky, kS, qz4, qz8, Nat.reduceLT, jO, qAa, qAc, jg, zF, zG, zz, jm, zy, kY, zg, ym, qN, zp, zo, zm, qX, kl, kZ, kO, kU, kp, qu, qcM, qe0, qQ, qaS, qbs, qjO, qz5, qz2, qAb, kq, hkw, Nat.reduceLeDiff, jA, qAn, qAi, qAp, qO, kG, ko, qJ, qb, kQ, zQ, qH, kv, qh, qt, z8, zE, jf, qcy, zY, jN, zU, jM, jo, Nat.max_self, zJ, kM, tok]
        all_goals rfl
  | false =>
    rw [q1] at hc1
    rw [if_neg (by simp)]
    cases q2 : cDg c with
    | true =>
      rw [q2] at hc2
      rw [if_pos rfl]
      have hn := qmy hz (a := a) (H := H) (by omega)
      generalize qkh s a = r at hn
      cases r with
      | ok k t n a' =>
        simp only [SyR, tok] at hn
        simp only [SyR, f_waferref11_symbol, qj, qz6, Nat.reduceAdd, qo, qx, qy, qm, kx, qz3, qz9, qL, zB, kF, jr, kN, qe, kK, qK, qW, qa, qf, kI, reduceCtorEq, qF, qD, qA, qz, Nat.reduceEqDiff, kE, hix, qp, qq, qs, qc, qI, qi, qz1, qT, hc1, qr, qd, qg, qAs, zc, kV, qZ, qw, qC, qz0, ↓reduceIte, hc2, hn, zl, jc, qb3, qbZ, qb1, qN, zp, zo, zm, qz4, qz8, qX, kS, zq, jg, kl, kZ, kO, kU, kp, qO, kG, ko, qJ, qb, kQ, zQ, Nat.reduceLeDiff, jA, qAn, qAi, qAp, kq, zz, jm, zy, kY, zg, qH, kv, qh, qt, z8, zE, jf, qcy, zY, jN, zU, jM, jo, Nat.max_self, zJ, kM, tok]
        all_goals rfl
      | bad e =>
        simp only [SyR, tok] at hn
        simp only [SyR, f_waferref11_symbol, qj, qz6, Nat.reduceAdd, qo, qx, qy, qm, kx, qz3, qz9, qL, zB, kF, jr, kN, qe, kK, qK, qW, qa, qf, kI, reduceCtorEq, qF, qD, qA, qz, Nat.reduceEqDiff, kE, hix, qp, qq, qs, qc, qI, qi, qz1, qT, hc1, qr, qd, qg, qAs, zc, kV, qZ, qw, qC, qz0, ↓reduceIte, hc2, hn, zl, jc, qb3, qbZ, qb1, qN, zp, zo, zm, qz4, qz8, qX, kS, zq, jg, kl, kZ, kO, kU, kp, qO, kG, ko, qJ, qb, kQ, zQ, Nat.reduceLeDiff, jA, qAn, qAi, qAp, kq, zz, jm, zy, kY, zg, qH, kv, qh, qt, z8, zE, jf, qcy, zY, jN, zU, jM, jo, Nat.max_self, zJ, kM, tok]
        all_goals rfl
    | false =>
      rw [q2] at hc2
      rw [if_neg (by simp)]
      by_cases h34 : c = 34
      · have e34 : ((c : Int) = 34) = True := by rw [eq_iff_iff]; simp; omega
        rw [if_pos h34]
        have hn := qnl hz (a := a) (H := H) ha
        generalize qgB s a = r at hn
        cases r with
        | ok k t n a' =>
          simp only [SyR, tok] at hn
          simp only [SyR, f_waferref11_symbol, qj, qz6, Nat.reduceAdd, qo, qx, qy, qm, kx, qz3, qz9, qL, zB, kF, jr, kN, qe, kK, qK, qW, qa, qf, kI, reduceCtorEq, qF, qD, qA, qz, Nat.reduceEqDiff, kE, hix, qp, qq, qs, qc, qI, qi, qz1, qT, hc1, qr, qd, qg, qAs, zc, kV, qZ, qw, qC, qz0, ↓reduceIte, hc2, qk, ke, kr, qz7, kj, e34, decide_true, hn, zl, jc, qb3, qbZ, qb1, qN, zp, zo, zm, qz4, qz8, qX, kS, zq, jg, kl, kZ, kO, kU, kp, qO, kG, ko, qJ, qb, kQ, zQ, Nat.reduceLeDiff, jA, qAn, qAi, qAp, kq, zz, jm, zy, kY, zg, qH, kv, qh, qt, z8, zE, jf, qcy, zY, jN, zU, jM, jo, Nat.max_self, zJ, kM, tok]
          all_goals rfl
        | bad e =>
          simp only [SyR, tok] at hn
          simp only [SyR, f_waferref11_symbol, qj, qz6, Nat.reduceAdd, qo, qx, qy, qm, kx, qz3, qz9, qL, zB, kF, jr, kN, qe, kK, qK, qW, qa, qf, kI, reduceCtorEq, qF, qD, qA, qz, Nat.reduceEqDiff, kE, hix, qp, qq, qs, qc, qI, qi, qz1, qT, hc1, qr, qd, qg, qAs, zc, kV, qZ, qw, qC, qz0, ↓reduceIte, hc2, qk, ke, kr, qz7, kj, e34, decide_true, hn, zl, jc, qb3, qbZ, qb1, qN, zp, zo, zm, qz4, qz8, qX, kS, zq, jg, kl, kZ, kO, kU, kp, qO, kG, ko, qJ, qb, kQ, zQ, Nat.reduceLeDiff, jA, qAn, qAi, qAp, kq, zz, jm, zy, kY, zg, qH, kv, qh, qt, z8, zE, jf, qcy, zY, jN, zU, jM, jo, Nat.max_self, zJ, kM, tok]
          all_goals rfl
      · have e34 : ((c : Int) = 34) = False := by rw [eq_iff_iff]; simp; omega
        rw [if_neg h34]
        have hw1 : wr .i64 ((a : Int) + 1) = ((a + 1 : Nat) : Int) := by rw [jl (by omega) (by omega)]; omega
        have hw2 : wr .i64 ((a : Int) + 2) = ((a + 2 : Nat) : Int) := by rw [jl (by omega) (by omega)]; omega
        have hmid1 := qhB (l := s) (a := a) (b := a + 1) (by omega) (by omega)
        have hmm1 : (s.take (a + 1)).drop a = [c] := by
          rw [List.drop_take, hL]; simp
        rw [hmm1] at hmid1
        have hsg := qqe (s := SG) (c := c) (by decide) (H := H)
        have hmem : (ixN c SG < 0) = (c ∉ SG) := qpr SG
        have fin : ∀ (w : List Nat), (((((a + 1 : Nat) : Int) < (s.length : Int)) = True ∧ (w = [60, 61]) = False ∧ (w = [62, 61]) = False ∧ (w = [58, 61]) = False ∧ (w = [46, 46]) = False ∧ qev (.d (.s s)) (some (a : Int)) (some ((a + 2 : Nat) : Int)) = some (.d (.s w))) ∨ (((a + 1 : Nat) : Int) < (s.length : Int)) = False) →
            SyR H a (if ixN c SG < 0 then .bad 30 else .ok 5 [c] 0 (a + 1)) (qhi H false [.cell 4 ⟨5, true⟩, .t 5] (exL pg f_waferref11_symbol.body ⟨ya 0 [.d (.s s), .d (.i .i64 (a : Nat))], H, H.length⟩)) := by
          intro w hw
          by_cases hm : c ∈ SG
          · rw [decide_eq_true hm] at hsg
            simp only [SG] at hsg
            rw [if_neg (by rw [hmem]; simpa using hm)]
            rcases hw with ⟨h1, w1, w2, w3, w4, hs2⟩ | h1
            · simp only [SyR, f_waferref11_symbol, jB, qj, qz6, Nat.reduceAdd, qo, qx, qy, qm, kx, qz3, qz9, qL, zB, kF, jr, kN, qe, kK, qK, qW, qa, qf, kI, reduceCtorEq, qF, qD, qA, qz, Nat.reduceEqDiff, kE, hix, qp, qq, qs, qc, qI, qi, qz1, qT, hc1, qr, qd, qg, qAs, zc, kV, qZ, qw, qC, qz0, ↓reduceIte, hc2, qk, ke, kr, qz7, kj, e34, decide_false, qS, qR, ql, qU, za, qn, kB, hw1, q9, ze, qAd, zj, h1, decide_true, hw2, jY, yn, qc4, qas, hs2, qbN, w1, w2, w3, w4, hsg, hmid1, zf, zq, ky, kS, qz4, qz8, Nat.reduceLT, jO, qAa, qAc, jg, zF, zG, zz, jm, zy, kY, zg, qN, zp, zo, zm, qX, kl, kZ, kO, kU, kp, qO, ko, qJ, qb, kQ, zQ, Nat.reduceLeDiff, jA, qAn, qAi, qAp, kq, qH, kv, qh, qt, z8, zE, jf, qcy, zY, jN, zU, jM, jo, Nat.max_self, zJ, kM, tok]
              all_goals rfl
            · simp only [SyR, f_waferref11_symbol, jB, qj, qz6, Nat.reduceAdd, qo, qx, qy, qm, kx, qz3, qz9, qL, zB, kF, jr, kN, qe, kK, qK, qW, qa, qf, kI, reduceCtorEq, qF, qD, qA, qz, Nat.reduceEqDiff, kE, hix, qp, qq, qs, qc, qI, qi, qz1, qT, hc1, qr, qd, qg, qAs, zc, kV, qZ, qw, qC, qz0, ↓reduceIte, hc2, qk, ke, kr, qz7, kj, e34, decide_false, qS, qR, ql, qU, za, qn, kB, hw1, q9, ze, qAd, zj, h1, hsg, jY, yn, qc4, qas, hmid1, zf, zq, ky, kS, qz4, qz8, Nat.reduceLT, jO, qAa, qAc, jg, zF, zG, zz, jm, zy, kY, zg, qN, zp, zo, zm, qX, kl, kZ, kO, kU, kp, qO, ko, qJ, qb, kQ, zQ, Nat.reduceLeDiff, jA, qAn, qAi, qAp, kq, qH, kv, qh, qt, z8, zE, jf, qcy, zY, jN, zU, jM, jo, Nat.max_self, zJ, kM, tok]
              all_goals rfl
          · rw [decide_eq_false hm] at hsg
            simp only [SG] at hsg
            rw [if_pos (by rw [hmem]; exact hm)]
            rcases hw with ⟨h1, w1, w2, w3, w4, hs2⟩ | h1
            · simp only [SyR, f_waferref11_symbol, jB, qj, qz6, Nat.reduceAdd, qo, qx, qy, qm, kx, qz3, qz9, qL, zB, kF, jr, kN, qe, kK, qK, qW, qa, qf, kI, reduceCtorEq, qF, qD, qA, qz, Nat.reduceEqDiff, kE, hix, qp, qq, qs, qc, qI, qi, qz1, qT, hc1, qr, qd, qg, qAs, zc, kV, qZ, qw, qC, qz0, ↓reduceIte, hc2, qk, ke, kr, qz7, kj, e34, decide_false, qS, qR, ql, qU, za, qn, kB, hw1, q9, ze, qAd, zj, h1, decide_true, hw2, jY, yn, qc4, qas, hs2, qbN, w1, w2, w3, w4, hsg, zf, zF, zG, zz, jm, zy, kY, zg, qN, zp, zo, zm, qz4, qz8, qX, kS, zq, jg, kl, kZ, kO, kU, kp, qO, qJ, qb, kQ, zQ, Nat.reduceLeDiff, jA, qAn, qAi, qAp, kq, qH, kv, qh, qt, z8, zE, jf, qcy, zY, jN, zU, jM, jo, Nat.max_self, zJ, kM, tok]
              all_goals rfl
            · simp only [SyR, f_waferref11_symbol, jB, qj, qz6, Nat.reduceAdd, qo, qx, qy, qm, kx, qz3, qz9, qL, zB, kF, jr, kN, qe, kK, qK, qW, qa, qf, kI, reduceCtorEq, qF, qD, qA, qz, Nat.reduceEqDiff, kE, hix, qp, qq, qs, qc, qI, qi, qz1, qT, hc1, qr, qd, qg, qAs, zc, kV, qZ, qw, qC, qz0, ↓reduceIte, hc2, qk, ke, kr, qz7, kj, e34, decide_false, qS, qR, ql, qU, za, qn, kB, hw1, q9, ze, qAd, zj, h1, hsg, zf, zF, zG, zz, jm, zy, kY, zg, qN, zp, zo, zm, qz4, qz8, qX, kS, zq, jg, kl, kZ, kO, kU, kp, qO, qJ, qb, kQ, zQ, Nat.reduceLeDiff, jA, qAn, qAi, qAp, kq, qH, kv, qh, qt, z8, zE, jf, qcy, zY, jN, zU, jM, jo, Nat.max_self, zJ, kM, tok]
              all_goals rfl
        unfold qfU
        by_cases hlt : a + 1 < s.length
        · have h1 : (((a + 1 : Nat) : Int) < (s.length : Int)) = True := by rw [eq_iff_iff]; simp; omega
          have hmid2 := qhB (l := s) (a := a) (b := a + 2) (by omega) (by omega)
          have hmm2 : (s.take (a + 2)).drop a = (s.drop a).take 2 := by
            rw [List.drop_take]; congr 1; omega
          rw [hmm2] at hmid2
          have hp : ∀ x y, (pre [x, y] (s.drop a) = true) = ((s.drop a).take 2 = [x, y]) := fun x y => by simp [pre]
          simp only [hp]
          generalize (s.drop a).take 2 = w at *
          by_cases w1 : w = [60, 61]
          · rw [if_pos w1]
            have e1 : (w = [60, 61]) = True := eq_true w1
            simp only [SyR, f_waferref11_symbol, jB, qj, qz6, Nat.reduceAdd, qo, qx, qy, qm, kx, qz3, qz9, qL, zB, kF, jr, kN, qe, kK, qK, qW, qa, qf, kI, reduceCtorEq, qF, qD, qA, qz, Nat.reduceEqDiff, kE, hix, qp, qq, qs, qc, qI, qi, qz1, qT, hc1, qr, qd, qg, qAs, zc, kV, qZ, qw, qC, qz0, ↓reduceIte, hc2, qk, ke, kr, qz7, kj, e34, decide_false, qS, qR, ql, qU, za, qn, kB, hw1, q9, ze, qAd, zj, h1, decide_true, hw2, jY, yn, qc4, qas, hmid2, qbN, e1, zf, zq, ky, kS, qz4, qz8, Nat.reduceLT, jO, qAa, qAc, jg, zF, zG, zz, jm, zy, kY, zg, qN, zp, zo, zm, qX, kl, kZ, kO, kU, kp, qO, kG, ko, qJ, qb, kQ, zQ, Nat.reduceLeDiff, jA, qAn, qAi, qAp, kq, qH, kv, qh, qt, z8, zE, jf, qcy, zY, jN, zU, jM, jo, Nat.max_self, zJ, kM, tok]
            all_goals rw [w1]
          · rw [if_neg w1]
            have e1 : (w = [60, 61]) = False := eq_false w1
            by_cases w2 : w = [62, 61]
            · rw [if_pos w2]
              have e2 : (w = [62, 61]) = True := eq_true w2
              simp only [SyR, f_waferref11_symbol, jB, qj, qz6, Nat.reduceAdd, qo, qx, qy, qm, kx, qz3, qz9, qL, zB, kF, jr, kN, qe, kK, qK, qW, qa, qf, kI, reduceCtorEq, qF, qD, qA, qz, Nat.reduceEqDiff, kE, hix, qp, qq, qs, qc, qI, qi, qz1, qT, hc1, qr, qd, qg, qAs, zc, kV, qZ, qw, qC, qz0, ↓reduceIte, hc2, qk, ke, kr, qz7, kj, e34, decide_false, qS, qR, ql, qU, za, qn, kB, hw1, q9, ze, qAd, zj, h1, decide_true, hw2, jY, yn, qc4, qas, hmid2, qbN, e1, e2, zf, zq, ky, kS, qz4, qz8, Nat.reduceLT, jO, qAa, qAc, jg, zF, zG, zz, jm, zy, kY, zg, qN, zp, zo, zm, qX, kl, kZ, kO, kU, kp, qO, kG, ko, qJ, qb, kQ, zQ, Nat.reduceLeDiff, jA, qAn, qAi, qAp, kq, qH, kv, qh, qt, z8, zE, jf, qcy, zY, jN, zU, jM, jo, Nat.max_self, zJ, kM, tok]
              all_goals rw [w2]
            · rw [if_neg w2]
              have e2 : (w = [62, 61]) = False := eq_false w2
              by_cases w3 : w = [58, 61]
              · rw [if_pos w3]
                have e3 : (w = [58, 61]) = True := eq_true w3
                simp only [SyR, f_waferref11_symbol, jB, qj, qz6, Nat.reduceAdd, qo, qx, qy, qm, kx, qz3, qz9, qL, zB, kF, jr, kN, qe, kK, qK, qW, qa, qf, kI, reduceCtorEq, qF, qD, qA, qz, Nat.reduceEqDiff, kE, hix, qp, qq, qs, qc, qI, qi, qz1, qT, hc1, qr, qd, qg, qAs, zc, kV, qZ, qw, qC, qz0, ↓reduceIte, hc2, qk, ke, kr, qz7, kj, e34, decide_false, qS, qR, ql, qU, za, qn, kB, hw1, q9, ze, qAd, zj, h1, decide_true, hw2, jY, yn, qc4, qas, hmid2, qbN, e1, e2, e3, zf, zq, ky, kS, qz4, qz8, Nat.reduceLT, jO, qAa, qAc, jg, zF, zG, zz, jm, zy, kY, zg, qN, zp, zo, zm, qX, kl, kZ, kO, kU, kp, qO, kG, ko, qJ, qb, kQ, zQ, Nat.reduceLeDiff, jA, qAn, qAi, qAp, kq, qH, kv, qh, qt, z8, zE, jf, qcy, zY, jN, zU, jM, jo, Nat.max_self, zJ, kM, tok]
                all_goals rw [w3]
              · rw [if_neg w3]
                have e3 : (w = [58, 61]) = False := eq_false w3
                by_cases w4 : w = [46, 46]
                · rw [if_pos w4]
                  have e4 : (w = [46, 46]) = True := eq_true w4
                  simp only [SyR, f_waferref11_symbol, jB, qj, qz6, Nat.reduceAdd, qo, qx, qy, qm, kx, qz3, qz9, qL, zB, kF, jr, kN, qe, kK, qK, qW, qa, qf, kI, reduceCtorEq, qF, qD, qA, qz, Nat.reduceEqDiff, kE, hix, qp, qq, qs, qc, qI, qi, qz1, qT, hc1, qr, qd, qg, qAs, zc, kV, qZ, qw, qC, qz0, ↓reduceIte, hc2, qk, ke, kr, qz7, kj, e34, decide_false, qS, qR, ql, qU, za, qn, kB, hw1, q9, ze, qAd, zj, h1, decide_true, hw2, jY, yn, qc4, qas, hmid2, qbN, e1, e2, e3, e4, zf, zq, ky, kS, qz4, qz8, Nat.reduceLT, jO, qAa, qAc, jg, zF, zG, zz, jm, zy, kY, zg, qN, zp, zo, zm, qX, kl, kZ, kO, kU, kp, qO, kG, ko, qJ, qb, kQ, zQ, Nat.reduceLeDiff, jA, qAn, qAi, qAp, kq, qH, kv, qh, qt, z8, zE, jf, qcy, zY, jN, zU, jM, jo, Nat.max_self, zJ, kM, tok]
                  all_goals rw [w4]
                · rw [if_neg w4]
                  exact fin w (.inl ⟨h1, e1, e2, e3, eq_false w4, hmid2⟩)
        · have h1 : (((a + 1 : Nat) : Int) < (s.length : Int)) = False := by rw [eq_iff_iff]; simp; omega
          have hnil : s.drop (a + 1) = [] := List.drop_eq_nil_of_le (by omega)
          rw [hL, hnil]
          simp only [qrI, qz0, if_false]
          exact fin [] (.inr h1)
end W

set_option linter.unusedSimpArgs false
set_option linter.unusedVariables false
namespace W
open Go (IntKind BinOp UnOp)
set_option maxRecDepth 20000
theorem qi8 {s : List Nat} (hz : s.length ≤ 1000000000000) {H : List Obj} :
    ∀ (k j : Nat), s.length - j = k → j ≤ s.length → j5 2 [0, 1] (qbQ pg (.d (.s s)) (.d (.i .i64 (j : Nat))) H H.length) = some (.nrm, ⟨[(0, .d (.s s)), (1, .d (.i .i64 ((j + run blk (s.drop j) : Nat) : Int)))], H, H.length⟩) := by
  intro k
  induction k with
  | zero =>
    intro j hk hj
    obtain rfl : j = s.length := by omega
    have h1 : ((s.length : Int) < (s.length : Int)) = False := by simp
    rw [qdw]
    have hr : run blk (s.drop s.length) = 0 := by simp [run]
    rw [hr]
    simp only [qaK, qU, qx, qy, qm, qe, kI, reduceCtorEq, qF, qD, qA, qz, qL, qW, q9, ze, qp, qk, ke, qAd, Nat.reduceEqDiff, zj, h1, decide_false, kT, zn, zh, qz0, ↓reduceIte, zl, kw, kX, kK, j8, qa, qf, qw, qC, yB, jH, jx, ql, qn, qAu]
    all_goals rfl
  | succ k ih =>
    intro j hk hj
    have h1 : ((j : Int) < (s.length : Int)) = True := by rw [eq_iff_iff]; simp; omega
    have hlt : j < s.length := by omega
    have hdr := yN hlt
    have hix : ixV (.d (.s s)) (.d (.i .i64 (j : Int))) = some (.d (.i .u8 ((s[j] : Nat) : Int))) := ixA (qAt hlt)
    have hw : wr .i64 ((j : Int) + 1) = ((j + 1 : Nat) : Int) := by rw [jl (by omega) (by omega)]; omega
    rw [qdw, hdr]
    generalize s[j] = c at hix
    have hc := qoL (c := c) (H := H)
    have ih' := ih (j + 1) (by omega) (by omega)
    cases q1 : blk c with
    | true =>
      rw [q1] at hc
      have hr : j + run blk (c :: s.drop (j + 1)) = j + 1 + run blk (s.drop (j + 1)) := by simp [run, q1]; omega
      rw [hr]
      simp only [qaK, qU, qx, qy, qm, qe, kI, reduceCtorEq, qF, qD, qA, qz, qL, qW, q9, ze, qp, qk, ke, qAd, Nat.reduceEqDiff, zj, h1, decide_true, kT, zn, zh, ↓reduceIte, kE, hix, qs, qz3, qz9, qc, qI, qi, qz1, qT, hc, qr, qd, qg, qAs, kw, kK, zt, qa, qf, qw, qC, qS, qq, kr, qz7, kB, hw, qR, ql, qn, j0]
      exact ih'
    | false =>
      rw [q1] at hc
      have hr : run blk (c :: s.drop (j + 1)) = 0 := by simp [run, q1]
      rw [hr]
      simp only [qaK, qU, qx, qy, qm, qe, kI, reduceCtorEq, qF, qD, qA, qz, qL, qW, q9, ze, qp, qk, ke, qAd, Nat.reduceEqDiff, zj, h1, decide_true, kT, zn, zh, ↓reduceIte, kE, hix, qs, qz3, qz9, qc, qI, qi, qz1, qT, hc, qr, qd, qg, qAs, kw, kK, zt, qa, qf, qw, qC, qz0, yB, jH, jx, ql, qn, qAu]
      all_goals rfl
theorem qo2 : ∀ (n : Nat) (l : List Nat) (f f' a : Nat), l.length ≤ n → sk 0 f a l = sk 0 f' a l := by
  intro n
  induction n with
  | zero =>
    intro l f f' a h
    obtain rfl : l = [] := List.length_eq_zero_iff.1 (by omega)
    simp [sk]
  | succ n ih =>
    intro l f f' a h
    match l, h with
    | [], _ => simp [sk]
    | [c], _ => simp [sk]
    | c :: d :: l, h =>
      simp only [qz4] at h
      rw [sk, sk]
      simp only [if_true, Nat.lt_irrefl, false_and, if_false, false_or]
      rw [ih (d :: l) f f' (a + 1) (by simp only [qz4]; omega)]
theorem qtr {c a f : Nat} {l : List Nat} (h : blk c = true) : sk 0 f a (c :: l) = sk 0 f (a + 1) l := by
  match l with
  | [] => simp [sk, h]
  | d :: l =>
    have h40 : c ≠ 40 := by intro e; subst e; exact absurd h (by decide)
    rw [sk]
    simp [h40, h]
theorem qrO (f : Nat) : ∀ (l : List Nat) (a : Nat), sk 0 f a l = sk 0 f (a + run blk l) (l.drop (run blk l))
  | [], a => by simp [run]
  | c :: l, a => by
    cases h : blk c with
    | true =>
      rw [qtr h, qrO f l (a + 1)]
      simp only [run, h, cond_true, List.drop_succ_cons]
      congr 1; omega
    | false => simp [run, h]
theorem qnO (P : Nat → Bool) : ∀ (l : List Nat) (c : Nat) (r : List Nat), l.drop (run P l) = c :: r → P c = false
  | [], c, r, h => by simp [run] at h
  | x :: l, c, r, h => by
    cases hp : P x with
    | true =>
      simp only [run, hp, cond_true, List.drop_succ_cons] at h
      exact qnO P l c r h
    | false =>
      simp only [run, hp, cond_false, qAn] at h
      injection h with h1 _
      rw [← h1]; exact hp
theorem qsx {f a c : Nat} {l : List Nat} (hb : blk c = false) (hn : ∀ d r, l = d :: r → ¬ (c = 40 ∧ d = 42)) : sk 0 f a (c :: l) = (true, a) := by
  match l, hn with
  | [], _ => simp [sk, hb]
  | d :: r, hn =>
    rw [sk, if_neg (hn d r rfl)]
    simp [hb]
theorem qqT {s : List Nat} (hz : s.length ≤ 1000000000000) {frm : Nat} {H : List Obj} :
    ∀ (k i deep : Nat), s.length - i ≤ k → i ≤ s.length → 0 < deep → deep ≤ i →
      (sk deep frm i (s.drop i) = (false, frm) ∧ ∃ e, get 4 e = .d (.i .i64 (frm : Nat)) ∧ get 5 e = .d (.b false) ∧ j5 4 [0, 1] (zZ pg (.d (.s s)) (.d (.i .i64 (i : Nat))) (.d (.i .i64 (frm : Nat))) (.d (.i .i64 (deep : Nat))) H H.length) = some (.ret, ⟨e, H, H.length⟩)) ∨
      (∃ i', i < i' ∧ i' ≤ s.length ∧ sk deep frm i (s.drop i) = sk 0 frm i' (s.drop i') ∧ j5 4 [0, 1] (zZ pg (.d (.s s)) (.d (.i .i64 (i : Nat))) (.d (.i .i64 (frm : Nat))) (.d (.i .i64 (deep : Nat))) H H.length) = some (.nrm, ⟨[(0, .d (.s s)), (1, .d (.i .i64 (i' : Nat)))], H, H.length⟩)) := by
  intro k
  induction k with
  | zero =>
    intro i deep hk hi hd hdi
    obtain rfl : i = s.length := by omega
    have hw1 : wr .i64 ((s.length : Int) + 1) = ((s.length + 1 : Nat) : Int) := by rw [jl (by omega) (by omega)]; omega
    have h1 : ((s.length : Int) ≤ ((s.length + 1 : Nat) : Int)) = True := by rw [eq_iff_iff]; simp; omega
    left
    refine ⟨by rw [List.drop_length]; simp only [sk]; rw [if_neg (by omega)], ?_⟩
    rw [jZ]
    simp only [ju, qU, qq, qx, qy, qm, qe, kI, reduceCtorEq, qF, qD, qA, qz, qL, qW, qk, ke, kr, qz7, kK, kB, hw1, qp, q9, ze, qAd, Nat.reduceEqDiff, z7, h1, decide_true, qa, qf, qw, qC, ↓reduceIte, qK, qO, kG, ko]
    exact ⟨_, rfl, rfl, rfl⟩
  | succ k ih =>
    intro i deep hk hi hd hdi
    have hw1 : wr .i64 ((i : Int) + 1) = ((i + 1 : Nat) : Int) := by rw [jl (by omega) (by omega)]; omega
    have hw2 : wr .i64 ((i : Int) + 2) = ((i + 2 : Nat) : Int) := by rw [jl (by omega) (by omega)]; omega
    by_cases hend : s.length ≤ i + 1
    · have h1 : ((s.length : Int) ≤ ((i + 1 : Nat) : Int)) = True := by rw [eq_iff_iff]; simp; omega
      left
      refine ⟨?_, ?_⟩
      · match hL : s.drop i with
        | [] => simp only [sk]; rw [if_neg (by omega)]
        | [c] => simp only [sk]; rw [if_neg (by omega)]
        | c :: d :: l =>
          have := congrArg List.length hL
          simp only [List.length_drop, qz4] at this
          omega
      · rw [jZ]
        simp only [ju, qU, qq, qx, qy, qm, qe, kI, reduceCtorEq, qF, qD, qA, qz, qL, qW, qk, ke, kr, qz7, kK, kB, hw1, qp, q9, ze, qAd, Nat.reduceEqDiff, z7, h1, decide_true, qa, qf, qw, qC, ↓reduceIte, qK, qO, kG, ko]
        exact ⟨_, rfl, rfl, rfl⟩
    · have h1 : ((s.length : Int) ≤ ((i + 1 : Nat) : Int)) = False := by rw [eq_iff_iff]; simp; omega
      have hlt : i < s.length := by omega
      have hlt1 : i + 1 < s.length := by omega
      have hL : s.drop i = s[i] :: s[i + 1] :: s.drop (i + 2) := by rw [yN hlt, yN hlt1]
      have hL1 : s.drop (i + 1) = s[i + 1] :: s.drop (i + 2) := yN hlt1
      have hix : ixV (.d (.s s)) (.d (.i .i64 (i : Int))) = some (.d (.i .u8 ((s[i] : Nat) : Int))) := ixA (qAt hlt)
      have hix1 : ixV (.d (.s s)) (.d (.i .i64 ((i + 1 : Nat) : Int))) = some (.d (.i .u8 ((s[i + 1] : Nat) : Int))) := ixA (qAt hlt1)
      rw [hL]
      generalize s[i] = c at hix hL
      generalize s[i + 1] = d at hix1 hL hL1
      have e1 : ((c : Int) = 40) = (c = 40) := by rw [eq_iff_iff]; omega
      have e2 : ((d : Int) = 42) = (d = 42) := by rw [eq_iff_iff]; omega
      have e3 : ((c : Int) = 42) = (c = 42) := by rw [eq_iff_iff]; omega
      have e4 : ((d : Int) = 41) = (d = 41) := by rw [eq_iff_iff]; omega
      have hdn : ((deep : Int) = 0) = False := by rw [eq_iff_iff]; simp; omega
      have go1 : (¬ (c = 40 ∧ d = 42)) → (¬ (c = 42 ∧ d = 41)) → j5 4 [0, 1] (zZ pg (.d (.s s)) (.d (.i .i64 (i : Nat))) (.d (.i .i64 (frm : Nat))) (.d (.i .i64 (deep : Nat))) H H.length) = j5 4 [0, 1] (zZ pg (.d (.s s)) (.d (.i .i64 ((i + 1 : Nat) : Int))) (.d (.i .i64 (frm : Nat))) (.d (.i .i64 (deep : Nat))) H H.length) := by
        intro n1 n2
        rw [jZ]
        by_cases q1 : c = 40
        · have q2 : (d = 42) = False := eq_false (fun h => n1 ⟨q1, h⟩)
          have q3 : (c = 42) = False := eq_false (by omega)
          have q1 : (c = 40) = True := eq_true q1
          simp only [ju, qU, qq, qx, qy, qm, qe, kI, reduceCtorEq, qF, qD, qA, qz, qL, qW, qk, ke, kr, qz7, kK, kB, hw1, qp, q9, ze, qAd, Nat.reduceEqDiff, z7, h1, decide_false, qa, qf, qw, qC, qz0, ↓reduceIte, kE, hix, kj, e1, q1, decide_true, kT, zn, zh, hix1, e2, q2, kw, zt, e3, q3, zl, kX, j8, qR, ql, qn, hdn, qS, jL]
          all_goals rfl
        · by_cases q3 : c = 42
          · have q4 : (d = 41) = False := eq_false (fun h => n2 ⟨q3, h⟩)
            have q3 : (c = 42) = True := eq_true q3
            simp only [ju, qU, qq, qx, qy, qm, qe, kI, reduceCtorEq, qF, qD, qA, qz, qL, qW, qk, ke, kr, qz7, kK, kB, hw1, qp, q9, ze, qAd, Nat.reduceEqDiff, z7, h1, decide_false, qa, qf, qw, qC, qz0, ↓reduceIte, kE, hix, kj, e1, q1, kT, zn, zh, zl, kw, kX, j8, e3, q3, decide_true, hix1, e4, q4, zt, qR, ql, qn, hdn, qS, jL]
            all_goals rfl
          · simp only [ju, qU, qq, qx, qy, qm, qe, kI, reduceCtorEq, qF, qD, qA, qz, qL, qW, qk, ke, kr, qz7, kK, kB, hw1, qp, q9, ze, qAd, Nat.reduceEqDiff, z7, h1, decide_false, qa, qf, qw, qC, qz0, ↓reduceIte, kE, hix, kj, e1, q1, kT, zn, zh, zl, kw, kX, j8, e3, q3, qR, ql, qn, hdn, qS, jL]
            all_goals rfl
      by_cases c1 : c = 40 ∧ d = 42
      · have hd1 : wr .i64 ((deep : Int) + 1) = ((deep + 1 : Nat) : Int) := by rw [jl (by omega) (by omega)]; omega
        have hdn1 : (((deep + 1 : Nat) : Int) = 0) = False := by rw [eq_iff_iff]; simp; omega
        rw [sk, if_pos c1, if_neg (by omega)]
        have go2 : j5 4 [0, 1] (zZ pg (.d (.s s)) (.d (.i .i64 (i : Nat))) (.d (.i .i64 (frm : Nat))) (.d (.i .i64 (deep : Nat))) H H.length) = j5 4 [0, 1] (zZ pg (.d (.s s)) (.d (.i .i64 ((i + 2 : Nat) : Int))) (.d (.i .i64 (frm : Nat))) (.d (.i .i64 ((deep + 1 : Nat) : Int))) H H.length) := by
          rw [jZ]
          simp only [ju, qU, qq, qx, qy, qm, qe, kI, reduceCtorEq, qF, qD, qA, qz, qL, qW, qk, ke, kr, qz7, kK, kB, hw1, qp, q9, ze, qAd, Nat.reduceEqDiff, z7, h1, decide_false, qa, qf, qw, qC, qz0, ↓reduceIte, kE, hix, c1.1, qAv, kj, decide_true, kT, zn, zh, hix1, c1.2, kw, zt, hd1, hw2, qR, ql, qn, hdn1, qS, jL]
          all_goals rfl
        rw [go2]
        rcases ih (i + 2) (deep + 1) (by omega) (by omega) (by omega) (by omega) with h | ⟨i', h2, h3, h4, h5⟩
        · exact .inl h
        · exact .inr ⟨i', by omega, h3, h4, h5⟩
      · by_cases c2 : c = 42 ∧ d = 41
        · have hd1 : wr .i64 ((deep : Int) - 1) = ((deep - 1 : Nat) : Int) := by rw [jl (by omega) (by omega)]; omega
          have c40 : (c = 40) = False := eq_false (by omega)
          rw [sk, if_neg c1, if_pos ⟨hd, c2⟩]
          by_cases hd0 : deep = 1
          · have hdn1 : (((deep - 1 : Nat) : Int) = 0) = True := by rw [eq_iff_iff]; simp; omega
            right
            refine ⟨i + 2, by omega, by omega, by rw [hd0], ?_⟩
            rw [jZ]
            simp only [ju, qU, qq, qx, qy, qm, qe, kI, reduceCtorEq, qF, qD, qA, qz, qL, qW, qk, ke, kr, qz7, kK, kB, hw1, qp, q9, ze, qAd, Nat.reduceEqDiff, z7, h1, decide_false, qa, qf, qw, qC, qz0, ↓reduceIte, kE, hix, c2.1, qAv, kj, Int.reduceEq, kT, zn, zh, zl, kw, kX, j8, decide_true, hix1, c2.2, zt, zk, hd1, hw2, qR, ql, qn, hdn1, yB, jx, jH]
            all_goals rfl
          · have hdn1 : (((deep - 1 : Nat) : Int) = 0) = False := by rw [eq_iff_iff]; simp; omega
            have go2 : j5 4 [0, 1] (zZ pg (.d (.s s)) (.d (.i .i64 (i : Nat))) (.d (.i .i64 (frm : Nat))) (.d (.i .i64 (deep : Nat))) H H.length) = j5 4 [0, 1] (zZ pg (.d (.s s)) (.d (.i .i64 ((i + 2 : Nat) : Int))) (.d (.i .i64 (frm : Nat))) (.d (.i .i64 ((deep - 1 : Nat) : Int))) H H.length) := by
              rw [jZ]
              simp only [ju, qU, qq, qx, qy, qm, qe, kI, reduceCtorEq, qF, qD, qA, qz, qL, qW, qk, ke, kr, qz7, kK, kB, hw1, qp, q9, ze, qAd, Nat.reduceEqDiff, z7, h1, decide_false, qa, qf, qw, qC, qz0, ↓reduceIte, kE, hix, c2.1, qAv, kj, Int.reduceEq, kT, zn, zh, zl, kw, kX, j8, decide_true, hix1, c2.2, zt, zk, hd1, hw2, qR, ql, qn, hdn1, qS, jL]
              all_goals rfl
            rw [go2]
            rcases ih (i + 2) (deep - 1) (by omega) (by omega) (by omega) (by omega) with h | ⟨i', h2, h3, h4, h5⟩
            · exact .inl h
            · exact .inr ⟨i', by omega, h3, h4, h5⟩
        · rw [sk, if_neg c1, if_neg (fun h => c2 h.2), if_pos (.inl hd), go1 c1 c2, ← hL1]
          rcases ih (i + 1) deep (by omega) (by omega) hd (by omega) with h | ⟨i', h2, h3, h4, h5⟩
          · exact .inl h
          · exact .inr ⟨i', by omega, h3, h4, h5⟩
def RkR (H : List Obj) (r : Bool × Nat) (X : Option (Ex × St)) : Prop := ∃ e, get 4 e = .d (.i .i64 (r.2 : Nat)) ∧ get 5 e = .d (.b r.1) ∧ X = some (.ret, ⟨e, H, H.length⟩)
theorem qoQ {s : List Nat} (hz : s.length ≤ 1000000000000) {H : List Obj} :
    ∀ (k i : Nat), s.length - i ≤ k → i ≤ s.length → RkR H (sk 0 0 i (s.drop i)) (j5 0 [4, 5] (qbM pg (.d (.s s)) (.d (.i .i64 (i : Nat))) H H.length)) := by
  intro k
  induction k with
  | zero =>
    intro i hk hi
    obtain rfl : i = s.length := by omega
    have hl := qi8 hz (H := H) (s.length - s.length) s.length rfl (by omega)
    have hr : run blk (s.drop s.length) = 0 := by simp [run]
    rw [hr] at hl
    have hw1 : wr .i64 ((s.length : Int) + 1) = ((s.length + 1 : Nat) : Int) := by rw [jl (by omega) (by omega)]; omega
    have h1 : ((s.length : Int) ≤ ((s.length + 1 : Nat) : Int)) = True := by rw [eq_iff_iff]; simp; omega
    rw [qdx, List.drop_length]
    simp only [sk, ↓reduceIte, yb, yC, qU, qq, qx, j0, qD, reduceCtorEq, qF, hl, qAu, qf, qy, qm, qe, kI, qA, qz, qL, qW, qk, ke, kr, qz7, kK, kB, hw1, qp, q9, ze, qAd, Nat.reduceEqDiff, z7, h1, decide_true, kT, zO, qAm, zh, qz0, zl, kw, kX, qbT, qa, qw, qC, qK, qO, ko, kG]
    exact ⟨_, rfl, rfl, rfl⟩
  | succ k ih =>
    intro i hk hi
    have hl := qi8 hz (H := H) (s.length - i) i rfl (by omega)
    have hle := qdD blk (s.drop i)
    simp only [List.length_drop] at hle
    have hst := qnO blk (s.drop i)
    rw [qdx, qrO]
    rw [List.drop_drop] at *
    generalize run blk (s.drop i) = n at *
    have hw1 : wr .i64 (((i + n : Nat) : Int) + 1) = ((i + n + 1 : Nat) : Int) := by rw [jl (by omega) (by omega)]; omega
    have hw2 : wr .i64 (((i + n : Nat) : Int) + 2) = ((i + n + 2 : Nat) : Int) := by rw [jl (by omega) (by omega)]; omega
    generalize hj : i + n = j at *
    by_cases hend : s.length ≤ j + 1
    · have h1 : ((s.length : Int) ≤ ((j + 1 : Nat) : Int)) = True := by rw [eq_iff_iff]; simp; omega
      have hs : sk 0 0 j (s.drop j) = (true, j) := by
        match hL : s.drop j with
        | [] => simp [sk]
        | [c] => exact qsx (hst c [] hL) (fun d r h => by cases h)
        | c :: d :: l =>
          have := congrArg List.length hL
          simp only [List.length_drop, qz4] at this
          omega
      rw [hs]
      simp only [yb, yC, qU, qq, qx, j0, qD, reduceCtorEq, qF, hl, qf, qy, qm, qe, kI, qA, qz, qL, qW, qk, ke, kr, qz7, kK, kB, hw1, qp, q9, ze, qAd, Nat.reduceEqDiff, z7, h1, decide_true, kT, zO, qAm, zh, qz0, ↓reduceIte, zl, kw, kX, qbT, qa, qw, qC, qK, qO, ko, kG]
      exact ⟨_, rfl, rfl, rfl⟩
    · have h1 : ((s.length : Int) ≤ ((j + 1 : Nat) : Int)) = False := by rw [eq_iff_iff]; simp; omega
      have hlt : j < s.length := by omega
      have hlt1 : j + 1 < s.length := by omega
      have hL : s.drop j = s[j] :: s[j + 1] :: s.drop (j + 2) := by rw [yN hlt, yN hlt1]
      have hix : ixV (.d (.s s)) (.d (.i .i64 (j : Int))) = some (.d (.i .u8 ((s[j] : Nat) : Int))) := ixA (qAt hlt)
      have hix1 : ixV (.d (.s s)) (.d (.i .i64 ((j + 1 : Nat) : Int))) = some (.d (.i .u8 ((s[j + 1] : Nat) : Int))) := ixA (qAt hlt1)
      rw [hL]
      generalize s[j] = c at hix hL
      generalize s[j + 1] = d at hix1 hL
      have hbc := hst c _ hL
      have e1 : ((c : Int) = 40) = (c = 40) := by rw [eq_iff_iff]; omega
      have e2 : ((d : Int) = 42) = (d = 42) := by rw [eq_iff_iff]; omega
      by_cases q1 : c = 40
      · by_cases q2 : d = 42
        · have hc := qqT hz (frm := j) (H := H) (s.length - (j + 2)) (j + 2) 1 (qAe _) (by omega) (by omega) (by omega)
          have hsk : sk 0 0 j (c :: d :: s.drop (j + 2)) = sk 1 j (j + 2) (s.drop (j + 2)) := by
            rw [sk, if_pos ⟨q1, q2⟩, if_pos rfl]
          rw [hsk]
          have w01 : wr .i64 (0 + 1) = ((1 : Nat) : Int) := rfl
          have w01' : wr .i64 1 = ((1 : Nat) : Int) := rfl
          have q3 : (((1 : Nat) : Int) = 0) = False := by simp
          have step : j5 4 [0, 1] (zZ pg (.d (.s s)) (.d (.i .i64 (j : Nat))) (.d (.i .i64 (j : Nat))) (.d (.i .i64 0)) H H.length) = j5 4 [0, 1] (zZ pg (.d (.s s)) (.d (.i .i64 ((j + 2 : Nat) : Int))) (.d (.i .i64 (j : Nat))) (.d (.i .i64 ((1 : Nat) : Int))) H H.length) := by
            rw [jZ]
            simp only [ju, qU, qq, qx, qy, qm, qe, kI, reduceCtorEq, qF, qD, qA, qz, qL, qW, qk, ke, kr, qz7, kK, kB, hw1, qp, q9, ze, qAd, Nat.reduceEqDiff, z7, h1, decide_false, qa, qf, qw, qC, qz0, ↓reduceIte, kE, hix, q1, qAv, kj, decide_true, kT, zn, zh, hix1, q2, kw, zt, Int.reduceAdd, w01', hw2, qR, ql, qn, Int.reduceEq, qS, jL]
            all_goals rfl
          rcases hc with ⟨g1, e, g2, g3, g4⟩ | ⟨i', g1, g2, g3, g4⟩
          · rw [g1]
            rw [g4] at step
            simp only [yb, yC, qU, qq, qx, j0, qD, reduceCtorEq, qF, hl, qf, qy, qm, qe, kI, qA, qz, qL, qW, qk, ke, kr, qz7, kK, kB, hw1, qp, q9, ze, qAd, Nat.reduceEqDiff, z7, h1, decide_false, kT, zO, qAr, zh, ↓reduceIte, kE, hix, q1, qAv, qbC, decide_true, qAm, kw, zt, qz0, hix1, q2, qa, qw, qC, qS, qK, jL, step, kG, ko]
            exact ⟨e, g2, g3, rfl⟩
          · rw [g3, qo2 (s.drop i').length _ j 0 i' (qAe _)]
            rw [g4] at step
            have ih' := ih i' (by omega) g2
            simp only [yb, yC, qU, qq, qx, j0, qD, reduceCtorEq, qF, hl, qf, qy, qm, qe, kI, qA, qz, qL, qW, qk, ke, kr, qz7, kK, kB, hw1, qp, q9, ze, qAd, Nat.reduceEqDiff, z7, h1, decide_false, kT, zO, qAr, zh, ↓reduceIte, kE, hix, q1, qAv, qbC, decide_true, qAm, kw, zt, qz0, hix1, q2, qa, qw, qC, qS, qK, jL, step, qR, ql, qn, qdu]
            exact ih'
        · rw [qsx hbc (fun d' r h => by injection h with h' _; subst h'; exact fun h => q2 h.2)]
          simp only [yb, yC, qU, qq, qx, j0, qD, reduceCtorEq, qF, hl, qf, qy, qm, qe, kI, qA, qz, qL, qW, qk, ke, kr, qz7, kK, kB, hw1, qp, q9, ze, qAd, Nat.reduceEqDiff, z7, h1, decide_false, kT, zO, qAr, zh, ↓reduceIte, kE, hix, q1, qAv, qbC, decide_true, qAm, kw, zt, qz0, hix1, e2, q2, qa, qw, qC, qK, qO, ko, kG]
          exact ⟨_, rfl, rfl, rfl⟩
      · rw [qsx hbc (fun d' r h => fun h => q1 h.1)]
        simp only [yb, yC, qU, qq, qx, j0, qD, reduceCtorEq, qF, hl, qf, qy, qm, qe, kI, qA, qz, qL, qW, qk, ke, kr, qz7, kK, kB, hw1, qp, q9, ze, qAd, Nat.reduceEqDiff, z7, h1, decide_false, kT, zO, qAr, zh, ↓reduceIte, kE, hix, qbC, e1, q1, kw, zt, qz0, qAm, zl, kX, qbT, qa, qw, qC, qK, qO, ko, kG]
        exact ⟨_, rfl, rfl, rfl⟩
theorem qoi {s : List Nat} (hz : s.length ≤ 1000000000000) {i : Nat} {H : List Obj} (hi : i ≤ s.length) : zC pg 25 [.d (.s s), .d (.i .i64 (i : Nat))] H = some ⟨false, true, .tup [.d (.i .i64 ((sk 0 i i (s.drop i)).2 : Nat)), .d (.b (sk 0 i i (s.drop i)).1)], H, H.length⟩ := by
  obtain ⟨e, g1, g2, g3⟩ := qoQ hz (H := H) (s.length - i) i (qAe _) hi
  rw [qo2 (s.drop i).length _ i 0 i (qAe _)]
  rw [qY (fn := qcG) rfl rfl]
  simp only [qcG, qj, qz6, Nat.reduceAdd, qo, qx, qy, qm, qe, kK, qK, qL, qW, qa, qf, qq, qdu, reduceCtorEq, qF, qD, qU, Nat.reduceEqDiff]
  rw [g3]
  simp only [qJ, qb, qH, g1, kv, g2, qh, qt, z8, zE, jf, qcy, zY, qz1, jN, zU, jM, jo, Nat.max_self, zJ, kM]
  all_goals rfl
end W

set_option linter.unusedSimpArgs false
set_option linter.unusedVariables false
namespace W
open Go (IntKind BinOp UnOp)
set_option maxRecDepth 20000
theorem qs3 {s : List Nat} {j : Nat} (hj : j < s.length) {e : Int} (h : qfk s j = .bad e) : e = 30 ∨ e = 34 := by
  unfold qfk at h
  rw [yN hj] at h
  simp only at h
  split at h
  · unfold qiq at h
    split at h
    · cases h; exact .inr rfl
    · split at h <;> cases h
  · split at h
    · unfold qkh at h
      split at h
      · unfold qf5 at h; split at h <;> cases h; exact .inl rfl
      · split at h
        · unfold qf5 at h; split at h <;> cases h; exact .inl rfl
        · unfold qf5 at h; split at h <;> cases h; exact .inl rfl
    · split at h
      · unfold qgB at h
        split at h
        · split at h <;> cases h; exact .inr rfl
        · cases h; exact .inl rfl
      · unfold qfU at h
        split at h
        · cases h
        · split at h
          · cases h
          · split at h
            · cases h
            · split at h
              · cases h
              · split at h <;> cases h; exact .inl rfl
def RcR (H : List Obj) (r : Sum (Nat × Int) (List Tk)) (X : Option (Ex × St)) : Prop :=
  match r with
  | .inr L' => ∃ e, get 2 e = slV eTk L' ∧ get 3 e = .d (.i .i64 0) ∧ get 4 e = .d (.i .i64 0) ∧ X = some (.ret, ⟨e, H, H.length⟩)
  | .inl (p, x) => x ≠ 0 ∧ ∃ e, get 2 e = .d .nil ∧ get 3 e = .d (.i .i64 (p : Nat)) ∧ get 4 e = .d (.i .i64 x) ∧ X = some (.ret, ⟨e, H, H.length⟩)
theorem qoE {s : List Nat} (hz : s.length ≤ 1000000000000) {H : List Obj} :
    ∀ (f a : Nat) (L : List Tk), s.length - a < f → a ≤ s.length → L.length ≤ a →
      RcR H (qda s f a L) (j5 0 [2, 3, 4] (qbW pg (.d (.s s)) (slV eTk L) (.d (.i .i64 (a : Nat))) H H.length)) := by
  intro f
  induction f with
  | zero => intro a L h; omega
  | succ f ih =>
    intro a L hf ha hLa
    have hk := qoi hz (i := a) (H := H) ha
    have hjl := fun j => qrG (s.drop a).length 0 a a (s.drop a) j (qAe _)
    rw [qfO, qda]
    have hnx : qhq s a = match sk 0 a a (s.drop a) with
      | (false, p) => .bad p 30
      | (true, j) => if j = s.length then .ok 0 j j [] 0 else qmr j (qfk s j) := rfl
    have hpr := fun k p e t n => qgV ha (k := k) (p := p) (e := e) (t := t) (n := n)
    generalize sk 0 a a (s.drop a) = r at hk hjl hnx
    obtain ⟨b, j⟩ := r
    cases b with
    | false =>
      simp only at hnx
      rw [hnx]
      simp only [RcR, ne_eq, Int.reduceEq, not_false_eq_true, yT, qU, yM, qq, qx, qy, qm, qe, kI, qD, qA, qz, qL, qW, zc, Nat.reduceEqDiff, qF, reduceCtorEq, kV, qZ, qs, qz3, qz9, qc, qI, qi, qz1, qT, hk, qr, qd, qg, qAs, zl, kX, jc, qb3, qbZ, qp, qb1, qa, qf, yP, qb2, qAr, qAb, qw, qC, ↓reduceIte, kK, qK, qO, ko, kG]
      exact ⟨by decide, _, rfl, rfl, rfl, rfl⟩
    | true =>
      have hjr := hjl j rfl
      simp only [List.length_drop] at hjr
      simp only at hnx
      by_cases hj : j = s.length
      · have e1 : ((s.length : Int) ≤ (j : Int)) = True := by rw [eq_iff_iff]; simp; omega
        rw [if_pos hj] at hnx
        rw [hnx]
        have happ : qaV 5 48 (slV eTk L) (.d (.sl [.agg [.i .i64 0, .i .i64 (s.length : Nat), .i .i64 (s.length : Nat), .s [], .i .i32 0]])) = some (slV eTk (L ++ [⟨0, j, j, [], 0⟩])) := by
          rw [hj]
          exact qj9 (x := (⟨0, s.length, s.length, [], 0⟩ : Tk)) (fun _ => rfl) (qke (by omega) (by omega))
        simp only [RcR, ↓reduceIte, yT, qU, yM, qq, qx, qy, qm, qe, kI, qD, qA, qz, qL, qW, zc, Nat.reduceEqDiff, qF, reduceCtorEq, kV, qZ, qs, qz3, qz9, qc, qI, qi, qz1, qT, hk, qr, qd, qg, qAs, zl, kX, jc, qb3, qbZ, qp, qb1, qa, qf, yP, qb2, qAm, qAb, qw, qC, qz0, qS, q9, ze, qk, ke, qAd, z7, e1, decide_true, qfJ, qfp, zf, zq, ky, kS, qz4, qz8, qz6, Nat.reduceAdd, Nat.reduceLT, jO, qAc, qAa, zF, zG, zz, jm, zy, kY, zg, kJ, qd1, List.reduceReplicate, zD, zR, jk, qiE, qdl, jg, qdW, jK, jj, yy, qeK, jb, happ, qhe, kK, qK, qO, ko, kG]
        exact ⟨_, rfl, rfl, rfl, rfl⟩
      · have e1 : ((s.length : Int) ≤ (j : Int)) = False := by rw [eq_iff_iff]; simp; omega
        rw [if_neg hj] at hnx
        have hjlt : j < s.length := by omega
        have hs := qnm hz (a := j) (H := H) hjlt
        have hsp := fun k t n a' => qgx (s := s) (j := j) (k := k) (t := t) (n := n) (a' := a')
        have hsb := fun e => qs3 (s := s) (j := j) hjlt (e := e)
        rw [hnx]
        generalize qfk s j = r at hs hsp hsb
        cases r with
        | bad x =>
          have hx := hsb x rfl
          have x0 : (x = 0) = False := by rw [eq_iff_iff]; simp; omega
          simp only [SyR, tok] at hs
          simp only [RcR, qmr, ne_eq, x0, not_false_eq_true, yT, qU, yM, qq, qx, qy, qm, qe, kI, qD, qA, qz, qL, qW, zc, Nat.reduceEqDiff, qF, reduceCtorEq, kV, qZ, qs, qz3, qz9, qc, qI, qi, qz1, qT, hk, qr, qd, qg, qAs, zl, kX, jc, qb3, qbZ, qp, qb1, qa, qf, yP, qb2, qAm, qAb, qw, qC, qz0, ↓reduceIte, qS, q9, ze, qk, ke, qAd, z7, e1, decide_false, hs, kx, zB, kF, jr, qbH, qjb, qlu, kN, qN, zp, zo, zm, qz4, qz8, qz6, Nat.reduceAdd, qX, kS, zq, jg, kl, kZ, kO, kU, kp, kr, qz7, kK, qbC, qAr, qK, qO, ko, kG]
          exact ⟨by simp, _, rfl, rfl, rfl, rfl⟩
        | ok k t n a' =>
          obtain ⟨g1, g2, g3⟩ := hsp k t n a' rfl
          simp only [SyR, tok] at hs
          have happ : qaV 5 48 (slV eTk L) (.d (.sl [.agg [.i .i64 k, .i .i64 (j : Nat), .i .i64 (a' : Nat), .s t, .i .i32 n]])) = some (slV eTk (L ++ [⟨k, j, a', t, n⟩])) :=
            qj9 (x := (⟨k, j, a', t, n⟩ : Tk)) (fun _ => rfl) (qke (by omega) (by omega))
          have ih' := ih a' (L ++ [⟨k, j, a', t, n⟩]) (by omega) (by omega) (by simp only [List.length_append, qz4, qz8]; omega)
          simp only [qmr, g3, if_false]
          simp only [yT, qU, yM, qq, qx, qy, qm, qe, kI, qD, qA, qz, qL, qW, zc, Nat.reduceEqDiff, qF, reduceCtorEq, kV, qZ, qs, qz3, qz9, qc, qI, qi, qz1, qT, hk, qr, qd, qg, qAs, zl, kX, jc, qb3, qbZ, qp, qb1, qa, qf, yP, qb2, qAm, qAb, qw, qC, qz0, ↓reduceIte, qS, q9, ze, qk, ke, qAd, z7, e1, decide_false, hs, kx, zB, kF, jr, qbH, qjb, qlu, kN, qN, zp, zo, zm, qz4, qz8, qz6, Nat.reduceAdd, qX, kS, zq, jg, kl, kZ, kO, kU, kp, kr, qz7, kK, qbC, decide_true, qfJ, qfp, qQ, qbs, Nat.reduceLeDiff, jA, qAn, qAi, qAp, kq, zz, jm, zy, kY, zg, kJ, qd1, List.reduceReplicate, Nat.reduceLT, zD, qAa, zR, jk, qiE, qdl, qdW, jK, jj, yy, qeK, jb, happ, qhe, qu, qcM, qe0, qaS, qjO, qz5, qz2, qR, ql, qn, qcd]
          exact ih'
theorem qoA {s : List Nat} (hz : s.length ≤ 1000000000000) {H : List Obj} : (∀ p x, 20000 < s.length ∨ qda s (s.length + 1) 0 [] = .inl (p, x) → 20000 < s.length ∨ x ≠ 0) ∧ zC pg 15 [.d (.s s)] H = some ⟨false, true, (if 20000 < s.length then .tup [.d .nil, .d (.i .i64 20000), .d (.i .i64 34)] else match qda s (s.length + 1) 0 [] with
      | .inr L => .tup [.d (slD eTk L), .d (.i .i64 0), .d (.i .i64 0)]
      | .inl (p, x) => .tup [.d .nil, .d (.i .i64 (p : Nat)), .d (.i .i64 x)]), H, H.length⟩ := by
  have hl := qoE hz (H := H) (s.length + 1) 0 [] (by omega) (by omega) (by simp)
  have hz0 : ((0 : Nat) : Int) = 0 := rfl
  have hs0 : slV eTk [] = .d .nil := rfl
  rw [hz0, hs0] at hl
  rw [qY (fn := qa1) rfl rfl]
  by_cases h1 : 20000 < s.length
  · have e1 : ((20000 : Int) < (s.length : Int)) = True := by rw [eq_iff_iff]; simp; omega
    refine ⟨fun _ _ _ => .inl h1, ?_⟩
    rw [if_pos h1]
    simp only [qa1, qj, qz6, qo, qx, qy, qm, qe, kK, qK, qL, qW, qa, qf, kI, reduceCtorEq, qF, qD, qA, qz, q9, ze, qp, qk, ke, kr, qz7, je, e1, decide_true, qw, qC, ↓reduceIte, qO, ko, qJ, qb, qH, Nat.reduceEqDiff, kv, qh, qt, z8, zE, jf, qcy, zY, qz1, jN, zU, jM, jo, Nat.max_self, zJ, kM]
    all_goals rfl
  · have e1 : ((20000 : Int) < (s.length : Int)) = False := by rw [eq_iff_iff]; simp; omega
    rw [if_neg h1]
    generalize qda s (s.length + 1) 0 [] = r at hl
    cases r with
    | inr L =>
      obtain ⟨e, g1, g2, g3, g4⟩ := hl
      refine ⟨(fun p x h => h.elim .inl (fun h => nomatch h)), ?_⟩
      simp only [qa1, qj, qz6, qo, qx, qy, qm, qe, kK, qK, qL, qW, qa, qf, kI, reduceCtorEq, qF, qD, qA, qz, q9, ze, qp, qk, ke, kr, qz7, je, e1, decide_false, qw, qC, qz0, ↓reduceIte, qS, qq, qcd, qU, Nat.reduceEqDiff]
      rw [g4]
      simp only [qJ, qb, qH, g1, qr8, g2, kv, g3, qh, qt, z8, zE, jf, qcy, zY, qz1, jN, zU, jM, jo, Nat.max_self, zJ, kM]
      all_goals rfl
    | inl q =>
      obtain ⟨p, x⟩ := q
      obtain ⟨hx, e, g1, g2, g3, g4⟩ := hl
      refine ⟨fun p' x' h => by
        rcases h with h | h
        · exact .inl h
        · cases h; exact .inr hx, ?_⟩
      simp only [qa1, qj, qz6, qo, qx, qy, qm, qe, kK, qK, qL, qW, qa, qf, kI, reduceCtorEq, qF, qD, qA, qz, q9, ze, qp, qk, ke, kr, qz7, je, e1, decide_false, qw, qC, qz0, ↓reduceIte, qS, qq, qcd, qU, Nat.reduceEqDiff]
      rw [g4]
      simp only [qJ, qb, qH, g1, kv, g2, g3, qh, qt, z8, zE, jf, qcy, zY, qz1, jN, zU, jM, jo, Nat.max_self, zJ, kM]
      all_goals rfl
theorem qlx {s : List Nat} : ∀ (f a : Nat) (L L' : List Tk), qda s f a L = .inr L' → L'.length ≤ L.length + f
  | 0, _, _, _, h => by cases h
  | f + 1, a, L, L', h => by
    rw [qda] at h
    split at h
    · cases h
    · split at h
      · cases h; simp
      · have := qlx f _ _ L' h
        simp only [List.length_append, qz4, qz8] at this
        omega
end W

set_option linter.unusedSimpArgs false
set_option linter.unusedVariables false
namespace W
open Go (IntKind BinOp UnOp)
set_option maxRecDepth 20000
def Nxt (r : List Nat) : Prop := r = [] ∨ ∃ c r', r = c :: r' ∧ (c = 32 ∨ c = 10 ∨ c = 9 ∨ c = 40)
theorem qid {P : Nat → Bool} : ∀ {l r : List Nat}, (∀ c ∈ l, P c = true) → (r = [] ∨ ∃ c r', r = c :: r' ∧ P c = false) → run P (l ++ r) = l.length
  | [], r, _, h => by
    rcases h with rfl | ⟨c, r', rfl, hc⟩
    · rfl
    · simp [run, hc]
  | c :: l, r, hl, h => by
    have hc := hl c (by simp)
    simp only [List.cons_append, run, hc, cond_true, qz4]
    rw [qid (fun x hx => hl x (by simp [hx])) h]
theorem qjB (P : Nat → Bool) : ∀ l : List Nat, ∀ c ∈ l.take (run P l), P c = true
  | [], c, h => by simp [run] at h
  | a :: l, c, h => by
    simp only [run] at h
    cases hp : P a with
    | false => rw [hp] at h; simp at h
    | true =>
      rw [hp] at h
      simp at h
      rcases h with rfl | h
      · exact hp
      · exact qjB P l c h
theorem Nxt.no {P : Nat → Bool} {r : List Nat} (h : Nxt r) (h1 : P 32 = false) (h2 : P 10 = false) (h3 : P 9 = false) (h4 : P 40 = false) : r = [] ∨ ∃ c r', r = c :: r' ∧ P c = false := by
  rcases h with h | ⟨c, r', e, hc⟩
  · exact .inl h
  · refine .inr ⟨c, r', e, ?_⟩
    rcases hc with rfl | rfl | rfl | rfl <;> assumption
theorem qtB {s s' : List Nat} {j j' e : Nat} {k n : Int} {t r : List Nat} (h : qfk s j = .ok k t n e) (hr : Nxt r) (hs' : s'.drop j' = (s.drop j).take (e - j) ++ r) : qfk s' j' = .ok k t n (j' + (e - j)) := by
  have hpr := qgx h
  unfold qfk at h ⊢
  split at h
  · cases h
  · rename_i c l hL
    have hlen : l.length + 1 = (s.drop j).length := by rw [hL]; simp
    obtain ⟨m, hm⟩ : ∃ m, e - j = m + 1 := ⟨e - j - 1, by omega⟩
    have hs2 : s'.drop j' = c :: (l.take m ++ r) := by rw [hs', hm, hL]; simp
    rw [hs2]
    simp only
    split at h
    · -- a word
      rename_i hc
      rw [if_pos hc]
      unfold qiq at h ⊢
      have hle := qdD cNm (s.drop j)
      have hall := qjB cNm (s.drop j)
      generalize hk : run cNm (s.drop j) = q at *
      have hej : e - j = q := by
        split at h
        · cases h
        · split at h <;> cases h <;> omega
      have hw : ((s.drop j).take q).length = q := by simp only [List.length_take]; omega
      have hrun : run cNm (s'.drop j') = q := by
        rw [hs', hej, qid hall (hr.no rfl rfl rfl rfl), hw]
      have htk : (s'.drop j').take q = (s.drop j).take q := by rw [hs', hej, List.take_append_of_le_length (by omega), List.take_take, qAs]
      rw [hrun, htk, hej]
      split at h
      · cases h
      · rename_i h32
        rw [if_neg h32]
        split at h
        · rename_i hkw; rw [if_pos hkw]; cases h; rfl
        · rename_i hkw; rw [if_neg hkw]; cases h; rfl
    · rename_i hc
      rw [if_neg hc]
      split at h
      · -- a number
        rename_i hd
        rw [if_pos hd]
        unfold qkh at h ⊢
        have hle := qdD cHx (s.drop j)
        have hall := qjB cHx (s.drop j)
        generalize hk : run cHx (s.drop j) = q at *
        have hw : ((s.drop j).take q).length = q := by simp only [List.length_take]; omega
        have two : ∀ x : Nat, cHx x = false → pre [x] (s.drop (j + q)) = true → e - j = q + 1 → run cHx (s'.drop j') = q ∧ (s'.drop j').take q = (s.drop j).take q ∧ pre [x] (s'.drop (j' + q)) = true ∧ s'.drop (j' + q) = x :: r := by
          intro x hx hp hej
          have hx1 : (s.drop j).take (q + 1) = (s.drop j).take q ++ [x] := by
            simp only [pre, decide_eq_true_eq, qz4, qz8] at hp
            rw [List.take_add_one]
            congr 1
            rw [List.getElem?_drop]
            cases hq : s.drop (j + q) with
            | nil => rw [hq] at hp; simp at hp
            | cons a b =>
              rw [hq] at hp
              simp at hp
              have := (qf0 hq).1
              rw [this, hp]; rfl
          have e1 : s'.drop j' = (s.drop j).take q ++ (x :: r) := by rw [hs', hej, hx1]; simp
          have e2 : s'.drop (j' + q) = x :: r := by
            rw [← List.drop_drop, e1, List.drop_append_of_le_length (by omega), List.drop_of_length_le (by omega)]; rfl
          refine ⟨by rw [e1, qid hall (.inr ⟨x, r, rfl, hx⟩), hw], by rw [e1, List.take_append_of_le_length (by omega), List.take_take, qAs], ?_, e2⟩
          rw [e2]; simp [pre]
        split at h
        · rename_i hp
          unfold qf5 at h
          split at h
          · cases h
          · rename_i u hu
            cases h
            obtain ⟨i1, i2, i3, _⟩ := two 72 rfl hp (by omega)
            rw [i1, if_pos i3, i2]
            unfold qf5
            rw [hu]
            simp only [Sy.ok.injEq, true_and]; omega
        · rename_i hp
          split at h
          · rename_i hp2
            unfold qf5 at h
            split at h
            · cases h
            · rename_i u hu
              cases h
              obtain ⟨i1, i2, i3, i4⟩ := two 88 rfl hp2 (by omega)
              have i5 : pre [72] (s'.drop (j' + q)) = false := by rw [i4]; simp [pre]
              rw [i1, i5, if_neg (by simp), if_pos i3, i2]
              unfold qf5
              rw [hu]
              simp only [Sy.ok.injEq, true_and]; omega
          · rename_i hp2
            unfold qf5 at h
            split at h
            · cases h
            · rename_i u hu
              cases h
              have hej : j + q - j = q := by omega
              have e1 : s'.drop j' = (s.drop j).take q ++ r := by rw [hs', hej]
              have e2 : s'.drop (j' + q) = r := by
                rw [← List.drop_drop, e1, List.drop_append_of_le_length (by omega), List.drop_of_length_le (by omega)]; rfl
              have i1 : run cHx (s'.drop j') = q := by rw [e1, qid hall (hr.no rfl rfl rfl rfl), hw]
              have i2 : (s'.drop j').take q = (s.drop j).take q := by rw [e1, List.take_append_of_le_length (by omega), List.take_take, qAs]
              have i3 : pre [72] r = false ∧ pre [88] r = false := by
                rcases hr with rfl | ⟨c', r', rfl, hc'⟩
                · exact ⟨rfl, rfl⟩
                · rcases hc' with rfl | rfl | rfl | rfl <;> simp [pre]
              rw [i1, e2, i3.1, i3.2, if_neg (by simp), if_neg (by simp), i2]
              unfold qf5
              rw [hu]
              simp only [Sy.ok.injEq, true_and]; omega
      · rename_i hd
        rw [if_neg hd]
        split at h
        · -- a text
          rename_i h34
          rw [if_pos h34]
          unfold qgB at h ⊢
          have hd1 : s.drop (j + 1) = l := (qf0 hL).2.1
          rw [hd1] at h
          have hle := qdD cTx l
          have hall := qjB cTx l
          generalize hk : run cTx l = q at *
          have hw : (l.take q).length = q := by simp only [List.length_take]; omega
          split at h
          · rename_i hp
            split at h
            · cases h
            · rename_i h120
              cases h
              have hm' : m = q + 1 := by omega
              have hx1 : l.take (q + 1) = l.take q ++ [34] := by
                simp only [pre, decide_eq_true_eq, qz4, qz8] at hp
                rw [List.take_add_one]
                congr 1
                have e0 : s.drop (j + 1 + q) = l.drop q := by rw [← List.drop_drop, hd1]
                rw [e0] at hp
                cases hq : l.drop q with
                | nil => rw [hq] at hp; simp at hp
                | cons a b =>
                  rw [hq] at hp
                  simp at hp
                  have := (qf0 hq).1
                  rw [this, hp]; rfl
              have e1 : s'.drop (j' + 1) = l.take q ++ (34 :: r) := by
                rw [(qf0 hs2).2.1, hm', hx1]; simp
              have e2 : s'.drop (j' + 1 + q) = 34 :: r := by
                rw [← List.drop_drop, e1, List.drop_append_of_le_length (by omega), List.drop_of_length_le (by omega)]; rfl
              have i1 : run cTx (s'.drop (j' + 1)) = q := by rw [e1, qid hall (.inr ⟨34, r, rfl, rfl⟩), hw]
              have i2 : (s'.drop (j' + 1)).take q = l.take q := by rw [e1, List.take_append_of_le_length (by omega), List.take_take, qAs]
              rw [i1, e2, if_pos (by simp [pre]), if_neg h120, i2]
              simp only [Sy.ok.injEq, true_and]; omega
          · cases h
        · -- a sign
          rename_i h34
          rw [if_neg h34]
          unfold qfU at h ⊢
          have two : ∀ x y : Nat, pre [x, y] (s.drop j) = true → e - j = 2 → pre [x, y] (s'.drop j') = true := by
            intro x y hp hej
            simp only [pre, decide_eq_true_eq, qz4, qz8] at hp ⊢
            rw [hs', hej, hp]; rfl
          have one : ∀ x y : Nat, y ≠ 32 → y ≠ 10 → y ≠ 9 → y ≠ 40 → e - j = 1 → pre [x, y] (s'.drop j') = false := by
            intro x y h1 h2 h3 h4 hej
            have hm0 : m = 0 := by omega
            rw [hs2, hm0]
            simp only [qAp, List.nil_append]
            rcases hr with rfl | ⟨c', r', rfl, hc'⟩
            · simp [pre]
            · have hy : c' ≠ y := by rcases hc' with rfl | rfl | rfl | rfl <;> omega
              simp [pre, hy]
          have conflict : ∀ x y x' y' : Nat, pre [x, y] (s.drop j) = true → x ≠ x' → pre [x', y'] (s'.drop j') = false := by
            intro x y x' y' hp hne
            have hcx : c = x := by
              simp only [pre, decide_eq_true_eq, hL] at hp
              simp at hp; exact hp.1
            rw [hs2]
            simp only [pre, decide_eq_false_iff_not]
            intro he
            simp at he
            omega
          split at h
          · rename_i hp; cases h; rw [if_pos (two _ _ hp (by omega))]; simp only [Sy.ok.injEq, true_and]; omega
          · rename_i hp1
            split at h
            · rename_i hp; cases h
              rw [conflict _ _ 60 61 hp (by omega), if_neg (by simp), if_pos (two _ _ hp (by omega))]; simp only [Sy.ok.injEq, true_and]; omega
            · rename_i hp2
              split at h
              · rename_i hp; cases h
                rw [conflict _ _ 60 61 hp (by omega), if_neg (by simp), conflict _ _ 62 61 hp (by omega), if_neg (by simp), if_pos (two _ _ hp (by omega))]; simp only [Sy.ok.injEq, true_and]; omega
              · rename_i hp3
                split at h
                · rename_i hp; cases h
                  rw [conflict _ _ 60 61 hp (by omega), if_neg (by simp), conflict _ _ 62 61 hp (by omega), if_neg (by simp), conflict _ _ 58 61 hp (by omega), if_neg (by simp), if_pos (two _ _ hp (by omega))]; simp only [Sy.ok.injEq, true_and]; omega
                · split at h
                  · cases h
                  · rename_i hsg
                    cases h
                    rw [one 60 61 (by omega) (by omega) (by omega) (by omega) (by omega), one 62 61 (by omega) (by omega) (by omega) (by omega) (by omega), one 58 61 (by omega) (by omega) (by omega) (by omega) (by omega), one 46 46 (by omega) (by omega) (by omega) (by omega) (by omega), if_neg (by simp), if_neg (by simp), if_neg (by simp), if_neg (by simp), if_neg hsg]
                    simp only [Sy.ok.injEq, true_and]; omega
end W

set_option linter.unusedSimpArgs false
set_option linter.unusedVariables false
namespace W
open Go (IntKind BinOp UnOp)
set_option maxRecDepth 20000
def gapL : List (List Nat) := [[32], [10], [9, 32], [32, 40, 42, 32, 97, 32, 40, 42, 32, 98, 32, 42, 41, 32, 99, 32, 42, 41, 32], [40, 42, 42, 41], [32, 13, 10]]
theorem qiW {f a c : Nat} {l : List Nat} (hb : blk c = false) (hc : c = 40 → ∀ l', l ≠ 42 :: l') : sk 0 f a (c :: l) = (true, a) := by
  cases l with
  | nil => simp [sk, hb]
  | cons d l =>
    rw [sk, if_neg (fun h => hc h.1 l (by rw [h.2])), if_neg (by omega), if_neg (by simp [hb])]
theorem quH {g : List Nat} (hg : g ∈ gapL) {f a c : Nat} {l : List Nat} (hb : blk c = false) (hc : c = 40 → ∀ l', l ≠ 42 :: l') : sk 0 f a (g ++ c :: l) = (true, a + g.length) := by
  simp only [gapL, List.mem_cons, List.not_mem_nil, or_false] at hg
  rcases hg with rfl | rfl | rfl | rfl | rfl | rfl
  · simp only [List.cons_append, List.nil_append]
    rw [sk]; simp [blk, qiW hb hc]
  · simp only [List.cons_append, List.nil_append]
    rw [sk]; simp [blk, qiW hb hc]
  · simp only [List.cons_append, List.nil_append]
    rw [sk]; simp only [blk]; rw [sk]; simp [blk, qiW hb hc]
  · simp [sk, blk, qiW hb hc]
  · simp [sk, blk, qiW hb hc]
  · simp [sk, blk, qiW hb hc]
theorem qtH {g r : List Nat} (hg : g ∈ gapL) : Nxt (g ++ r) := by
  simp only [gapL, List.mem_cons, List.not_mem_nil, or_false] at hg
  right
  rcases hg with rfl | rfl | rfl | rfl | rfl | rfl
  · exact ⟨32, _, rfl, by simp⟩
  · exact ⟨10, _, rfl, by simp⟩
  · exact ⟨9, _, rfl, by simp⟩
  · exact ⟨32, _, rfl, by simp⟩
  · exact ⟨40, _, rfl, by simp⟩
  · exact ⟨32, _, rfl, by simp⟩
theorem qjc {a b c : Nat} {l : List Nat} (h : a ≠ c) : pre [a, b] (c :: l) = false := by
  cases l with
  | nil => simp [pre]
  | cons d l => simp [pre]; intro e; exact absurd e.symm h
theorem qjD {s : List Nat} {j c : Nat} {l : List Nat} (hL : s.drop j = c :: l) (h1 : 60 ≠ c ∧ 62 ≠ c ∧ 58 ≠ c ∧ 46 ≠ c) (h2 : ixN c SG < 0) : qfU s j c = .bad 30 := by
  unfold qfU
  rw [hL, qjc h1.1, qjc h1.2.1, qjc h1.2.2.1, qjc h1.2.2.2, if_neg (by decide), if_neg (by decide), if_neg (by decide), if_neg (by decide), if_pos h2]
theorem qr2 {s : List Nat} {j e : Nat} {k n : Int} {t : List Nat} (h : qfk s j = .ok k t n e) : ∃ c l, s.drop j = c :: l ∧ blk c = false ∧ (c = 40 → e = j + 1) := by
  unfold qfk at h
  split at h
  · cases h
  · rename_i c l hL
    refine ⟨c, l, hL, ?_, fun h40 => ?_⟩
    · cases hb : blk c with
      | false => rfl
      | true =>
        exfalso
        have hc : c = 9 ∨ c = 10 ∨ c = 13 ∨ c = 32 := by
          simp only [blk, Bool.or_eq_true, decide_eq_true_eq] at hb; omega
        rcases hc with rfl | rfl | rfl | rfl
        · rw [if_neg (by decide), if_neg (by decide), if_neg (by decide), qjD hL (by decide) (by decide)] at h; cases h
        · rw [if_neg (by decide), if_neg (by decide), if_neg (by decide), qjD hL (by decide) (by decide)] at h; cases h
        · rw [if_neg (by decide), if_neg (by decide), if_neg (by decide), qjD hL (by decide) (by decide)] at h; cases h
        · rw [if_neg (by decide), if_neg (by decide), if_neg (by decide), qjD hL (by decide) (by decide)] at h; cases h
    · subst h40
      rw [if_neg (by decide), if_neg (by decide), if_neg (by decide)] at h
      have hs : qfU s j 40 = .ok 5 [40] 0 (j + 1) := by
        unfold qfU
        rw [hL, qjc (by decide), qjc (by decide), qjc (by decide), qjc (by decide), if_neg (by decide), if_neg (by decide), if_neg (by decide), if_neg (by decide), if_neg (by decide)]
      rw [hs] at h
      cases h
      rfl
structure Pc where
  g : List Nat
  w : List Nat
  k : Int
  t : List Nat
  n : Int
structure Pc.Ok (x : Pc) : Prop where
  g : x.g ∈ gapL
  s : ∃ s p e, qfk s p = .ok x.k x.t x.n e ∧ x.w = (s.drop p).take (e - p)
def qgj : List Pc → List Nat
  | [] => []
  | x :: l => x.g ++ (x.w ++ qgj l)
def qhO : Nat → List Pc → List Tk
  | _, [] => []
  | a, x :: l => ⟨x.k, a + x.g.length, a + x.g.length + x.w.length, x.t, x.n⟩ :: qhO (a + x.g.length + x.w.length) l
theorem qsT {l : List Pc} (h : ∀ x ∈ l, x.Ok) : Nxt (qgj l) := by
  cases l with
  | nil => exact .inl rfl
  | cons x l => exact qtH (h x (by simp)).g
theorem qm1 {s' : List Nat} : ∀ (l : List Pc) (a f : Nat) (acc : List Tk), (∀ x ∈ l, x.Ok) → s'.drop a = qgj l → a ≤ s'.length → l.length < f →
    qda s' f a acc = .inr (acc ++ (qhO a l ++ [⟨0, s'.length, s'.length, [], 0⟩]))
  | [], a, f + 1, acc, _, hd, ha, _ => by
    have e : a = s'.length := by
      have := congrArg List.length hd
      simp [qgj] at this; omega
    subst e
    rw [qda]
    unfold qhq
    rw [hd]
    simp [qgj, sk, qhO]
  | x :: l, a, 0, acc, _, _, _, hf => by simp at hf
  | x :: l, a, f + 1, acc, hl, hd, ha, hf => by
    obtain ⟨hg, s, p, e, hsym, hw⟩ := hl x (by simp)
    obtain ⟨c, lc, hLc, hb, h40⟩ := qr2 hsym
    obtain ⟨hp1, hp2, hp3⟩ := qgx hsym
    have hlen : x.w.length = e - p := by rw [hw]; simp; omega
    have hrest := qsT (l := l) (fun y hy => hl y (by simp [hy]))
    have hwc : ∃ w', x.w = c :: w' := by
      obtain ⟨m, hm⟩ : ∃ m, e - p = m + 1 := ⟨e - p - 1, by omega⟩
      exact ⟨lc.take m, by rw [hw, hLc, hm]; rfl⟩
    obtain ⟨w', hw'⟩ := hwc
    have hsl : (x.g ++ (x.w ++ qgj l)).length + a = s'.length := by
      have := congrArg List.length hd
      simp only [qgj, List.length_drop] at this
      omega
    simp only [List.length_append] at hsl
    have hd1 : s'.drop (a + x.g.length) = x.w ++ qgj l := by
      rw [← List.drop_drop, hd]
      simp [qgj]
    have hsk : sk 0 a a (s'.drop a) = (true, a + x.g.length) := by
      rw [hd]
      show sk 0 a a (x.g ++ (x.w ++ qgj l)) = _
      rw [hw', List.cons_append]
      refine quH hg hb (fun hc l' he => ?_)
      have h1 := h40 hc
      have hw0 : w' = [] := by
        have : (c :: w').length = e - p := by rw [← hw']; exact hlen
        simp at this
        exact List.eq_nil_of_length_eq_zero (by omega)
      rw [hw0, List.nil_append] at he
      rcases hrest with hr | ⟨c', r', hr, hc'⟩
      · rw [hr] at he; cases he
      · rw [hr] at he
        injection he with e1 e2
        omega
    have hloc := qtB (s := s) (s' := s') (j := p) (j' := a + x.g.length) (e := e) hsym hrest (by rw [hd1, hw])
    have hne : ¬ a + x.g.length = s'.length := by omega
    rw [qda]
    unfold qhq
    rw [hsk]
    simp only
    rw [if_neg hne, hloc]
    simp only [qmr]
    rw [if_neg hp3]
    have ih := qm1 (s' := s') l (a + x.g.length + (e - p)) f (acc ++ [⟨x.k, a + x.g.length, a + x.g.length + (e - p), x.t, x.n⟩]) (fun y hy => hl y (by simp [hy])) (by
      rw [← List.drop_drop, hd1, ← hlen]; simp) (by omega) (by simp at hf; omega)
    rw [ih]
    simp [qhO, hlen]
theorem qlv {s : List Nat} : ∀ (f a : Nat) (acc L' : List Tk), a ≤ s.length → qda s f a acc = .inr L' → ∃ Ts, L' = acc ++ (Ts ++ [⟨0, s.length, s.length, [], 0⟩]) ∧ ∀ x ∈ Ts, qfk s x.p = .ok x.k x.t x.n x.e
  | 0, _, _, _, _, h => by cases h
  | f + 1, a, acc, L', ha, h => by
    rw [qda] at h
    split at h
    · cases h
    · rename_i k p e t n hn
      have hpr := qgV ha hn
      unfold qhq at hn
      split at hn
      · cases hn
      · rename_i j hj
        by_cases hjs : j = s.length
        · rw [if_pos hjs] at hn
          cases hn
          rw [if_pos rfl] at h
          cases h
          subst hjs
          exact ⟨[], rfl, fun x hx => by cases hx⟩
        · rw [if_neg hjs] at hn
          cases hr : qfk s j with
          | bad x => rw [hr] at hn; cases hn
          | ok k' t' n' e' =>
            rw [hr] at hn
            simp only [qmr] at hn
            cases hn
            rw [if_neg (qgx hr).2.2] at h
            obtain ⟨Ts, h1, h2⟩ := qlv f _ _ L' hpr.2.2.1 h
            refine ⟨⟨k, p, e, t, n⟩ :: Ts, by rw [h1]; simp, fun x hx => ?_⟩
            simp at hx
            rcases hx with rfl | hx
            · exact hr
            · exact h2 x hx
end W

set_option linter.unusedSimpArgs false
set_option linter.unusedVariables false
namespace W
open Go (IntKind BinOp UnOp)
set_option maxRecDepth 20000
def Tx (k : Nat) (t : List Nat) : Prop := t.length ≤ k ∧ ∀ b ∈ t, b < 256
theorem Tx.le {k m : Nat} {t : List Nat} (h : Tx k t) (hk : k ≤ m) : Tx m t := ⟨Nat.le_trans h.1 hk, h.2⟩
def txB (k : Nat) (t : List Nat) : Bool := Nat.ble t.length k && t.all fun b => Nat.blt b 256
theorem txl (k : Nat) (t : List Nat) (h : txB k t = true) : Tx k t := by
  simp only [txB, qAf, List.all_eq_true] at h
  exact ⟨Nat.le_of_ble_eq_true h.1, fun b hb => Nat.le_of_ble_eq_true (h.2 b hb)⟩
theorem cat {k m : Nat} {t u : List Nat} (ht : Tx k t) (hu : Tx m u) (h : k + m ≤ 1000000000000000) : ∃ r, Tx (k + m) r ∧ u.length ≤ r.length ∧ ∀ c, qa3 .add .num c (.d (.s t)) (.d (.s u)) = some (.d (.s r)) :=
  ⟨t ++ u, ⟨by simp; have := ht.1; have := hu.1; omega, fun b hb => by
    rw [List.mem_append] at hb
    rcases hb with hb | hb
    · exact ht.2 b hb
    · exact hu.2 b hb⟩, by simp, fun c => qjW (by have := ht.1; have := hu.1; omega)⟩
theorem qbh (L : List (List Nat)) (k : Nat) (hL : (L.all fun t => txB k t) = true) {v : Int} (h0 : 0 ≤ v) (h1 : v < (L.length : Nat)) : ∃ t, Tx k t ∧ iaV (.d (.sl (L.map D.s))) (.d (.i .i64 v)) 1 none = some (.cp (.s t)) := by
  have hv : v.toNat < L.length := by omega
  refine ⟨L[v.toNat], txl k _ ?_, qjY h0 (by simp [hv]) (by simp [D.cells])⟩
  exact (List.all_eq_true.1 hL) _ (List.getElem_mem hv)
structure GL (Ld : D) (n : Nat) : Prop where
  len : ∀ H, qeN .lenL (.d Ld) H = some (.d (.i .i64 (n : Nat)))
  ix : ∀ i, i < n → ∃ v : Int, 0 ≤ v ∧ v < 65536 ∧ iaV (.d Ld) (.d (.i .i64 (i : Nat))) 1 none = some (.cp (.i .u16 v))
  ok : Ld.one = true
  n : n ≤ 1000
abbrev G (H : List Obj) (id : Nat) (Ld : D) (i : Nat) (d : Int) : List Obj := zi H id (.cells [.d Ld, .d (.i .i64 (i : Nat)), .d (.i .i64 d)])
theorem qiy {H : List Obj} {id : Nat} (hid : id < H.length) (o : Obj) : (zi H id o)[id]? = some o := yd (o' := H[id]) (qAt hid)
theorem kR {H : List Obj} {id : Nat} (hid : id < H.length) {Ld : D} {i i' : Nat} {d : Int} {x : D} {e : Env} {lo : Nat} (h1 : id ≤ lo) (h2 : H.length ≤ lo → i' = i) :
    ∃ sm lo2, id ≤ lo2 ∧ (H.length ≤ lo2 → i' = i) ∧ leave (G H id Ld i d) false (.d x) ⟨e, G H id Ld i' d, lo⟩ = some ⟨false, sm, .d x, G H id Ld i' d, lo2⟩ := by
  by_cases hl : lo < H.length
  · exact ⟨false, lo, h1, h2, qlp rfl (.inr (by simp [zi]; omega)) rfl⟩
  · have e1 := h2 (by omega)
    subst e1
    exact ⟨true, lo, h1, h2, qdV rfl (by simp [V.ref]) (by simp [zi]; omega) rfl⟩
theorem qrs {H : List Obj} {id : Nat} (hid : id < H.length) {Ld : D} {i : Nat} {d : Int} {x : D} {e : Env} {lo : Nat} (h1 : id ≤ lo) :
    ∃ sm lo2, id ≤ lo2 ∧ (H.length ≤ lo2 → True) ∧ leave (G H id Ld i d) false (.d x) ⟨e, G H id Ld i d, lo⟩ = some ⟨false, sm, .d x, G H id Ld i d, lo2⟩ := by
  obtain ⟨sm, lo2, a, _, c⟩ := kR hid (Ld := Ld) (d := d) (x := x) (e := e) h1 (fun _ => rfl : H.length ≤ lo → i = i)
  exact ⟨sm, lo2, a, fun _ => trivial, c⟩
def GC (f : Nat) (xs : List V) (B : Nat) (Ld : D) (n : Nat) (H : List Obj) (id : Nat) (d : Int) : Prop :=
  ∀ i, i ≤ n → ∃ t i', Tx B t ∧ i' ≤ n ∧ ∃ sm lo, id ≤ lo ∧ (H.length ≤ lo → i' = i) ∧ zC pg f (.ptr id 0 :: xs) (G H id Ld i d) = some ⟨false, sm, .d (.s t), G H id Ld i' d, lo⟩
theorem GC.le {f : Nat} {xs : List V} {B B' : Nat} {Ld : D} {n : Nat} {H : List Obj} {id : Nat} {d : Int} (h : GC f xs B Ld n H id d) (hB : B ≤ B') : GC f xs B' Ld n H id d := fun i hi => by
  obtain ⟨t, i', h1, h2⟩ := h i hi
  exact ⟨t, i', h1.le hB, h2⟩
theorem jh {Ld : D} {n0 : Nat} (hL : GL Ld n0) {H : List Obj} {id : Nat} (hid : id < H.length) {d n : Int} (hn : 0 < n) (hn2 : n < 100000) {i : Nat} (hi : i ≤ n0) :
    ∃ (v : Int) (i' : Nat), 0 ≤ v ∧ v < n ∧ i' ≤ n0 ∧ ∃ sm lo, id ≤ lo ∧ (H.length ≤ lo → i' = i) ∧ zC pg 32 [.ptr id 0, .d (.i .i64 n)] (G H id Ld i d) = some ⟨false, sm, .d (.i .i64 v), G H id Ld i' d, lo⟩ := by
  have hg : ∀ o, (zi H id o)[id]? = some o := qiy hid
  have hlen := hL.len
  have hn0 := hL.n
  by_cases h : n0 ≤ i
  · have hge : ((n0 : Nat) : Int) ≤ (i : Nat) := by omega
    refine ⟨0, i, by omega, hn, hi, ?_⟩
    rw [qY (fn := yS) rfl rfl]
    simp only [yS, qj, qz6, Nat.reduceAdd, qo, qB, qx, qy, qm, qe, kK, qK, qL, qW, qa, qf, jp, zV, kI, reduceCtorEq, qF, qD, qP, qz, zT, jz, zW, qE, qp, qu, kP, qQ, kh, hg, kL, qz5, qz2, qAb, kq, yu, qAu, jt, qA, hlen, qk, ke, qAd, Nat.reduceEqDiff, z7, eq_true hge, decide_true, zx, zw, qw, qC, ↓reduceIte, qO, ko, qJ, qb, qH, kv, qh, qt, qV]
    refine qrs hid ?_; omega
  · have hge : ¬ ((n0 : Nat) : Int) ≤ (i : Nat) := by omega
    obtain ⟨v, h0, h1, hx⟩ := hL.ix i (by omega)
    have hnz : (n = 0) = False := eq_false (by omega)
    have hc : wr .i64 v = v := jl (by omega) (by omega)
    have hw : wr .i64 ((i : Nat) + 1 : Int) = ((i + 1 : Nat) : Int) := by rw [jl (by omega) (by omega)]; omega
    have e1 := Int.tmod_eq_emod_of_nonneg (b := n) h0
    have e2 := Int.emod_nonneg v (show n ≠ 0 by omega)
    have e3 := Int.emod_lt_of_pos v hn
    refine ⟨v.tmod n, i + 1, by omega, by omega, by omega, ?_⟩
    rw [qY (fn := yS) rfl rfl]
    simp only [yS, qj, qz6, Nat.reduceAdd, qo, qB, qx, qy, qm, qe, kK, qK, qL, qW, qa, qf, jp, zV, kI, reduceCtorEq, qF, qD, qP, qz, zT, jz, zW, qE, qp, qu, kP, qQ, kh, hg, kL, qz5, qz2, qAb, kq, yu, qAu, jt, qA, hlen, qk, ke, qAd, Nat.reduceEqDiff, z7, eq_false hge, decide_false, zx, zw, qw, qC, qz0, ↓reduceIte, qS, kH, hx, qej, zX, qco, jI, hc, hnz, qme, ki, kr, qz7, kB, hw, qN, kW, zq, ky, qz4, qz8, qX, kS, kl, qz1, kf, Nat.reduceLT, kn, qAc, qAa, kg, kD, kp, qO, qJ, qb, qH, kv, qh, qt, qV]
    refine kR hid ?_ ?_ <;> omega
end W

set_option linter.unusedSimpArgs false
set_option linter.unusedVariables false
namespace W
open Go (IntKind BinOp UnOp)
set_option maxRecDepth 20000
theorem qgW {Ld : D} {n : Nat} (hL : GL Ld n) {H : List Obj} {id : Nat} (hid : id < H.length) {d : Int} : GC 72 [] 9 Ld n H id d := by
  intro i0 n0
  have hg : ∀ o, (zi H id o)[id]? = some o := qiy hid
  obtain ⟨v, i1, z0, w0, n1, s0, l0, m0, u0, c0⟩ := jh hL hid (d := d) (n := 15) (by omega) (by omega) n0
  obtain ⟨t1, q1, x1⟩ : ∃ t, Tx 9 t ∧ iaV (.d (.sl [D.s [49], D.s [105], D.s [106], D.s [110], D.s [107], D.s [48], D.s [50], D.s [55, 70, 70, 70, 70, 70, 70, 70, 72], D.s [97, 91, 49, 93], D.s [114, 46, 120], D.s [76, 69, 78, 40, 97, 41], D.s [51], D.s [56, 48, 48, 48, 48, 48, 48, 48, 72], D.s [114, 46, 121], D.s [49, 48, 48]])) (.d (.i .i64 v)) 1 none = some (.cp (.s t)) := qbh [[49], [105], [106], [110], [107], [48], [50], [55, 70, 70, 70, 70, 70, 70, 70, 72], [97, 91, 49, 93], [114, 46, 120], [76, 69, 78, 40, 97, 41], [51], [56, 48, 48, 48, 48, 48, 48, 48, 72], [114, 46, 121], [49, 48, 48]] 9 rfl z0 w0
  refine ⟨t1, i1, q1, n1, ?_⟩
  rw [qY (fn := qbY) rfl rfl]
  simp only [qbY, qj, qz6, qo, qB, qx, qy, qm, qe, kK, qK, qL, qW, qa, qf, kJ, jD, qz4, qz8, List.reduceReplicate, qz3, qz9, Nat.reduceAdd, Nat.reduceLT, zD, qAa, qAc, zR, jk, jg, yR, jK, qz1, jj, qp, yy, zc, reduceCtorEq, qF, qD, zH, qZ, ki, qs, qc, qM, qI, qi, qT, c0, qr, qd, qg, kH, kI, Nat.reduceEqDiff, jb, qA, x1, yQ, zP, zX, qab, zN, qz, qO, qJ, qb, qH, kv, qh, qt, qV]
  refine kR hid ?_ ?_ <;> omega
theorem qk6 {Ld : D} {n : Nat} (hL : GL Ld n) {H : List Obj} {id : Nat} (hid : id < H.length) {d : Int} : GC 69 [] 10 Ld n H id d := by
  intro i0 n0
  have hg : ∀ o, (zi H id o)[id]? = some o := qiy hid
  obtain ⟨v, i1, z0, w0, n1, s0, l0, m0, u0, c0⟩ := jh hL hid (d := d) (n := 10) (by omega) (by omega) n0
  obtain ⟨t1, q1, x1⟩ : ∃ t, Tx 10 t ∧ iaV (.d (.sl [D.s [105], D.s [106], D.s [110], D.s [97, 91, 48, 93], D.s [97, 91, 105, 32, 77, 79, 68, 32, 52, 93], D.s [114, 46, 120], D.s [114, 46, 121], D.s [112, 46, 120], D.s [97, 91, 106, 93], D.s [117, 46, 121]])) (.d (.i .i64 v)) 1 none = some (.cp (.s t)) := qbh [[105], [106], [110], [97, 91, 48, 93], [97, 91, 105, 32, 77, 79, 68, 32, 52, 93], [114, 46, 120], [114, 46, 121], [112, 46, 120], [97, 91, 106, 93], [117, 46, 121]] 10 rfl z0 w0
  refine ⟨t1, i1, q1, n1, ?_⟩
  rw [qY (fn := qaE) rfl rfl]
  simp only [qaE, qj, qz6, qo, qB, qx, qy, qm, qe, kK, qK, qL, qW, qa, qf, kJ, jD, qz4, qz8, List.reduceReplicate, qz3, qz9, Nat.reduceAdd, Nat.reduceLT, zD, qAa, qAc, zR, jk, jg, yR, jK, qz1, jj, qp, yy, zc, reduceCtorEq, qF, qD, zH, qZ, ki, qs, qc, qM, qI, qi, qT, c0, qr, qd, qg, kH, kI, Nat.reduceEqDiff, jb, qA, x1, yQ, zP, zX, qab, zN, qz, qO, qJ, qb, qH, kv, qh, qt, qV]
  refine kR hid ?_ ?_ <;> omega
theorem qjM {Ld : D} {n : Nat} (hL : GL Ld n) {H : List Obj} {id : Nat} (hid : id < H.length) {d : Int} 
     : GC 71 [] (40) Ld n H id d := by
  intro i0 n0
  have hg : ∀ o, (zi H id o)[id]? = some o := qiy hid
  obtain ⟨v, i1, z0, w0, n1, s0, l0, m0, u0, c0⟩ := jh hL hid (d := d) (n := 8) (by omega) (by omega) n0
  have hv : v = 0 ∨ v = 1 ∨ v = 2 ∨ v = 3 ∨ v = 4 ∨ v = 5 ∨ v = 6 ∨ v = 7 := by omega
  rcases hv with rfl | rfl | rfl | rfl | rfl | rfl | rfl | rfl
  · skip
    refine ⟨[115], i1, (txl 1 [115] rfl).le (by omega), n1, ?_⟩
    rw [qY (fn := zA) rfl rfl]
    simp only [zA, qj, qz6, qo, qB, qx, qy, qm, qe, kK, qK, qL, qW, qa, qf, zc, reduceCtorEq, qF, qD, zH, qZ, ki, qs, qz3, qz9, qc, qM, qI, qi, qz1, qT, c0, qr, qd, qg, qq, qk, ke, kr, qz7, kI, qA, kj, decide_true, qp, qz, qw, qC, ↓reduceIte, qO, kG, ko, qJ, qb, qH, kv, qh, qt, qV]
    refine kR hid ?_ ?_ <;> omega
  · skip
    refine ⟨[123, 49, 44, 32, 51, 32, 46, 46, 32, 53, 125], i1, (txl 11 [123, 49, 44, 32, 51, 32, 46, 46, 32, 53, 125] rfl).le (by omega), n1, ?_⟩
    rw [qY (fn := zA) rfl rfl]
    simp only [zA, qj, qz6, qo, qB, qx, qy, qm, qe, kK, qK, qL, qW, qa, qf, zc, reduceCtorEq, qF, qD, zH, qZ, ki, qs, qz3, qz9, qc, qM, qI, qi, qz1, qT, c0, qr, qd, qg, qq, qk, ke, kr, qz7, kI, qA, kj, Int.reduceEq, decide_false, qp, qz, qw, qC, qz0, ↓reduceIte, Nat.reduceEqDiff, decide_true, qO, kG, ko, qJ, qb, qH, kv, qh, qt, qV]
    refine kR hid ?_ ?_ <;> omega
  · skip
    refine ⟨[123, 105, 32, 77, 79, 68, 32, 51, 50, 125], i1, (txl 10 [123, 105, 32, 77, 79, 68, 32, 51, 50, 125] rfl).le (by omega), n1, ?_⟩
    rw [qY (fn := zA) rfl rfl]
    simp only [zA, qj, qz6, qo, qB, qx, qy, qm, qe, kK, qK, qL, qW, qa, qf, zc, reduceCtorEq, qF, qD, zH, qZ, ki, qs, qz3, qz9, qc, qM, qI, qi, qz1, qT, c0, qr, qd, qg, qq, qk, ke, kr, qz7, kI, qA, kj, Int.reduceEq, decide_false, qp, qz, qw, qC, qz0, ↓reduceIte, Nat.reduceEqDiff, decide_true, qO, kG, ko, qJ, qb, qH, kv, qh, qt, qV]
    refine kR hid ?_ ?_ <;> omega
  · skip
    refine ⟨[40, 115, 32, 43, 32, 123, 48, 32, 46, 46, 32, 55, 125, 41], i1, (txl 14 [40, 115, 32, 43, 32, 123, 48, 32, 46, 46, 32, 55, 125, 41] rfl).le (by omega), n1, ?_⟩
    rw [qY (fn := zA) rfl rfl]
    simp only [zA, qj, qz6, qo, qB, qx, qy, qm, qe, kK, qK, qL, qW, qa, qf, zc, reduceCtorEq, qF, qD, zH, qZ, ki, qs, qz3, qz9, qc, qM, qI, qi, qz1, qT, c0, qr, qd, qg, qq, qk, ke, kr, qz7, kI, qA, kj, Int.reduceEq, decide_false, qp, qz, qw, qC, qz0, ↓reduceIte, Nat.reduceEqDiff, decide_true, qO, kG, ko, qJ, qb, qH, kv, qh, qt, qV]
    refine kR hid ?_ ?_ <;> omega
  · skip
    refine ⟨[40, 115, 32, 42, 32, 123, 50, 44, 32, 106, 32, 77, 79, 68, 32, 51, 50, 125, 41], i1, (txl 19 [40, 115, 32, 42, 32, 123, 50, 44, 32, 106, 32, 77, 79, 68, 32, 51, 50, 125, 41] rfl).le (by omega), n1, ?_⟩
    rw [qY (fn := zA) rfl rfl]
    simp only [zA, qj, qz6, qo, qB, qx, qy, qm, qe, kK, qK, qL, qW, qa, qf, zc, reduceCtorEq, qF, qD, zH, qZ, ki, qs, qz3, qz9, qc, qM, qI, qi, qz1, qT, c0, qr, qd, qg, qq, qk, ke, kr, qz7, kI, qA, kj, Int.reduceEq, decide_false, qp, qz, qw, qC, qz0, ↓reduceIte, Nat.reduceEqDiff, decide_true, qO, kG, ko, qJ, qb, qH, kv, qh, qt, qV]
    refine kR hid ?_ ?_ <;> omega
  · skip
    refine ⟨[40, 115, 32, 47, 32, 123, 105, 32, 77, 79, 68, 32, 56, 32, 46, 46, 32, 51, 49, 125, 41], i1, (txl 21 [40, 115, 32, 47, 32, 123, 105, 32, 77, 79, 68, 32, 56, 32, 46, 46, 32, 51, 49, 125, 41] rfl).le (by omega), n1, ?_⟩
    rw [qY (fn := zA) rfl rfl]
    simp only [zA, qj, qz6, qo, qB, qx, qy, qm, qe, kK, qK, qL, qW, qa, qf, zc, reduceCtorEq, qF, qD, zH, qZ, ki, qs, qz3, qz9, qc, qM, qI, qi, qz1, qT, c0, qr, qd, qg, qq, qk, ke, kr, qz7, kI, qA, kj, Int.reduceEq, decide_false, qp, qz, qw, qC, qz0, ↓reduceIte, Nat.reduceEqDiff, decide_true, qO, kG, ko, qJ, qb, qH, kv, qh, qt, qV]
    refine kR hid ?_ ?_ <;> omega
  · skip
    refine ⟨[40, 45, 115, 41], i1, (txl 4 [40, 45, 115, 41] rfl).le (by omega), n1, ?_⟩
    rw [qY (fn := zA) rfl rfl]
    simp only [zA, qj, qz6, qo, qB, qx, qy, qm, qe, kK, qK, qL, qW, qa, qf, zc, reduceCtorEq, qF, qD, zH, qZ, ki, qs, qz3, qz9, qc, qM, qI, qi, qz1, qT, c0, qr, qd, qg, qq, qk, ke, kr, qz7, kI, qA, kj, Int.reduceEq, decide_false, qp, qz, qw, qC, qz0, ↓reduceIte, Nat.reduceEqDiff, decide_true, qO, kG, ko, qJ, qb, qH, kv, qh, qt, qV]
    refine kR hid ?_ ?_ <;> omega
  · skip
    refine ⟨[40, 115, 32, 45, 32, 123, 110, 125, 41], i1, (txl 9 [40, 115, 32, 45, 32, 123, 110, 125, 41] rfl).le (by omega), n1, ?_⟩
    rw [qY (fn := zA) rfl rfl]
    simp only [zA, qj, qz6, qo, qB, qx, qy, qm, qe, kK, qK, qL, qW, qa, qf, zc, reduceCtorEq, qF, qD, zH, qZ, ki, qs, qz3, qz9, qc, qM, qI, qi, qz1, qT, c0, qr, qd, qg, qq, qk, ke, kr, qz7, kI, qA, kj, Int.reduceEq, decide_false, qp, qz, qw, qC, qz0, ↓reduceIte, Nat.reduceEqDiff, qS, qR, qn, qO, qJ, qb, qH, kv, qh, qt, qV]
    refine kR hid ?_ ?_ <;> omega
end W

set_option linter.unusedSimpArgs false
set_option linter.unusedVariables false
namespace W
open Go (IntKind BinOp UnOp)
set_option maxRecDepth 20000
theorem qr6 {Ld : D} {n : Nat} (hL : GL Ld n) {H : List Obj} {id : Nat} (hid : id < H.length) {d b : Nat} (hd : d ≤ 100) (hb : b ≤ 1000000000000)
    (hleaf : GC 72 [] b Ld n H id ((d : Nat) : Int)) (hnum : GC 56 [] b Ld n H id ((d : Nat) : Int)) (hchar : GC 70 [] b Ld n H id ((d : Nat) : Int)) (hset : GC 71 [] b Ld n H id ((d : Nat) : Int)) (hcond : GC 55 [] b Ld n H id ((d : Nat) : Int)) : GC 56 [] (2 * b + 40) Ld n H id ((d + 1 : Nat) : Int) := by
  intro i0 n0
  have hg : ∀ o, (zi H id o)[id]? = some o := qiy hid
  have hle : (((d + 1 : Nat) : Int) ≤ 0) = False := eq_false (by omega)
  have hw1 : wr .i64 (((d + 1 : Nat) : Int) - 1) = (d : Nat) := by rw [jl (by omega) (by omega)]; omega
  have hw2 : wr .i64 ((d : Nat) + 1 : Int) = ((d + 1 : Nat) : Int) := by rw [jl (by omega) (by omega)]; omega
  obtain ⟨v, i1, z0, w0, n1, s0, l0, m0, u0, c0⟩ := jh hL hid (d := (d : Nat)) (n := 20) (by omega) (by omega) n0
  have hv : v = 0 ∨ v = 1 ∨ v = 2 ∨ v = 3 ∨ v = 4 ∨ v = 5 ∨ v = 6 ∨ v = 7 ∨ v = 8 ∨ v = 9 ∨ v = 10 ∨ v = 11 ∨ v = 12 ∨ v = 13 ∨ v = 14 ∨ v = 15 ∨ v = 16 ∨ v = 17 ∨ v = 18 ∨ v = 19 := by omega
  rcases hv with rfl | rfl | rfl | rfl | rfl | rfl | rfl | rfl | rfl | rfl | rfl | rfl | rfl | rfl | rfl | rfl | rfl | rfl | rfl | rfl
  · skip
    obtain ⟨t1, j1, q1, n1, s1, l1, m1, u1, c1⟩ := hleaf i1 n1
    refine ⟨t1, j1, q1.le (by omega), n1, ?_⟩
    rw [qY (fn := kc) rfl rfl]
    simp only [kc, qj, qz6, qo, qB, qx, qy, qm, qe, kK, qK, qL, qW, qa, qf, kI, reduceCtorEq, qF, qD, qP, qz, ki, qE, qp, qu, kP, qQ, kh, hg, kL, qz5, qz2, qAb, kq, qk, ke, kr, qz7, qA, zr, hle, decide_false, qw, qC, qz0, ↓reduceIte, qS, zk, hw1, Nat.reduceEqDiff, qN, kW, zq, ky, qz4, qz8, qX, kS, kl, qz1, kf, Nat.reduceAdd, Nat.reduceLT, kn, qAc, qAa, kg, kD, kp, qs, qz3, qz9, qc, qM, qI, qi, qT, c0, qr, qd, qg, qq, kj, decide_true, c1, zc, kV, qZ, qR, ql, kz, qU, qn, kB, hw2, qO, qJ, qb, qH, kv, qh, qt, qV]
    refine kR hid ?_ ?_ <;> omega
  · skip
    obtain ⟨t1, j1, q1, n1, s1, l1, m1, u1, c1⟩ := hleaf i1 n1
    refine ⟨t1, j1, q1.le (by omega), n1, ?_⟩
    rw [qY (fn := kc) rfl rfl]
    simp only [kc, qj, qz6, qo, qB, qx, qy, qm, qe, kK, qK, qL, qW, qa, qf, kI, reduceCtorEq, qF, qD, qP, qz, ki, qE, qp, qu, kP, qQ, kh, hg, kL, qz5, qz2, qAb, kq, qk, ke, kr, qz7, qA, zr, hle, decide_false, qw, qC, qz0, ↓reduceIte, qS, zk, hw1, Nat.reduceEqDiff, qN, kW, zq, ky, qz4, qz8, qX, kS, kl, qz1, kf, Nat.reduceAdd, Nat.reduceLT, kn, qAc, qAa, kg, kD, kp, qs, qz3, qz9, qc, qM, qI, qi, qT, c0, qr, qd, qg, qq, kj, Int.reduceEq, decide_true, c1, zc, kV, qZ, qR, ql, kz, qU, qn, kB, hw2, qO, qJ, qb, qH, kv, qh, qt, qV]
    refine kR hid ?_ ?_ <;> omega
  · skip
    obtain ⟨t1, j1, q1, n1, s1, l1, m1, u1, c1⟩ := hleaf i1 n1
    refine ⟨t1, j1, q1.le (by omega), n1, ?_⟩
    rw [qY (fn := kc) rfl rfl]
    simp only [kc, qj, qz6, qo, qB, qx, qy, qm, qe, kK, qK, qL, qW, qa, qf, kI, reduceCtorEq, qF, qD, qP, qz, ki, qE, qp, qu, kP, qQ, kh, hg, kL, qz5, qz2, qAb, kq, qk, ke, kr, qz7, qA, zr, hle, decide_false, qw, qC, qz0, ↓reduceIte, qS, zk, hw1, Nat.reduceEqDiff, qN, kW, zq, ky, qz4, qz8, qX, kS, kl, qz1, kf, Nat.reduceAdd, Nat.reduceLT, kn, qAc, qAa, kg, kD, kp, qs, qz3, qz9, qc, qM, qI, qi, qT, c0, qr, qd, qg, qq, kj, Int.reduceEq, decide_true, c1, zc, kV, qZ, qR, ql, kz, qU, qn, kB, hw2, qO, qJ, qb, qH, kv, qh, qt, qV]
    refine kR hid ?_ ?_ <;> omega
  · skip
    obtain ⟨t1, j1, q1, n1, s1, l1, m1, u1, c1⟩ := hleaf i1 n1
    refine ⟨t1, j1, q1.le (by omega), n1, ?_⟩
    rw [qY (fn := kc) rfl rfl]
    simp only [kc, qj, qz6, qo, qB, qx, qy, qm, qe, kK, qK, qL, qW, qa, qf, kI, reduceCtorEq, qF, qD, qP, qz, ki, qE, qp, qu, kP, qQ, kh, hg, kL, qz5, qz2, qAb, kq, qk, ke, kr, qz7, qA, zr, hle, decide_false, qw, qC, qz0, ↓reduceIte, qS, zk, hw1, Nat.reduceEqDiff, qN, kW, zq, ky, qz4, qz8, qX, kS, kl, qz1, kf, Nat.reduceAdd, Nat.reduceLT, kn, qAc, qAa, kg, kD, kp, qs, qz3, qz9, qc, qM, qI, qi, qT, c0, qr, qd, qg, qq, kj, Int.reduceEq, decide_true, c1, zc, kV, qZ, qR, ql, kz, qU, qn, kB, hw2, qO, qJ, qb, qH, kv, qh, qt, qV]
    refine kR hid ?_ ?_ <;> omega
  · skip
    obtain ⟨t1, j1, q1, n1, s1, l1, m1, u1, c1⟩ := hnum i1 n1
    obtain ⟨r2, y2, _, e2⟩ := cat (txl 1 [40] rfl) q1 (by omega)
    obtain ⟨r3, y3, _, e3⟩ := cat y2 (txl 3 [32, 43, 32] rfl) (by omega)
    obtain ⟨t4, j4, q4, n4, s4, l4, m4, u4, c4⟩ := hnum j1 n1
    obtain ⟨r5, y5, _, e5⟩ := cat y3 q4 (by omega)
    obtain ⟨r6, y6, _, e6⟩ := cat y5 (txl 1 [41] rfl) (by omega)
    refine ⟨r6, j4, y6.le (by omega), n4, ?_⟩
    rw [qY (fn := kc) rfl rfl]
    simp only [kc, qj, qz6, qo, qB, qx, qy, qm, qe, kK, qK, qL, qW, qa, qf, kI, reduceCtorEq, qF, qD, qP, qz, ki, qE, qp, qu, kP, qQ, kh, hg, kL, qz5, qz2, qAb, kq, qk, ke, kr, qz7, qA, zr, hle, decide_false, qw, qC, qz0, ↓reduceIte, qS, zk, hw1, Nat.reduceEqDiff, qN, kW, zq, ky, qz4, qz8, qX, kS, kl, qz1, kf, Nat.reduceAdd, Nat.reduceLT, kn, qAc, qAa, kg, kD, kp, qs, qz3, qz9, qc, qM, qI, qi, qT, c0, qr, qd, qg, qq, kj, Int.reduceEq, decide_true, c1, qAl, e2, e3, c4, qAd, e5, e6, qR, ql, kz, qU, qn, kB, hw2, qO, qJ, qb, qH, kv, qh, qt, qV]
    refine kR hid ?_ ?_ <;> omega
  · skip
    obtain ⟨t1, j1, q1, n1, s1, l1, m1, u1, c1⟩ := hnum i1 n1
    obtain ⟨r2, y2, _, e2⟩ := cat (txl 1 [40] rfl) q1 (by omega)
    obtain ⟨r3, y3, _, e3⟩ := cat y2 (txl 3 [32, 45, 32] rfl) (by omega)
    obtain ⟨t4, j4, q4, n4, s4, l4, m4, u4, c4⟩ := hnum j1 n1
    obtain ⟨r5, y5, _, e5⟩ := cat y3 q4 (by omega)
    obtain ⟨r6, y6, _, e6⟩ := cat y5 (txl 1 [41] rfl) (by omega)
    refine ⟨r6, j4, y6.le (by omega), n4, ?_⟩
    rw [qY (fn := kc) rfl rfl]
    simp only [kc, qj, qz6, qo, qB, qx, qy, qm, qe, kK, qK, qL, qW, qa, qf, kI, reduceCtorEq, qF, qD, qP, qz, ki, qE, qp, qu, kP, qQ, kh, hg, kL, qz5, qz2, qAb, kq, qk, ke, kr, qz7, qA, zr, hle, decide_false, qw, qC, qz0, ↓reduceIte, qS, zk, hw1, Nat.reduceEqDiff, qN, kW, zq, ky, qz4, qz8, qX, kS, kl, qz1, kf, Nat.reduceAdd, Nat.reduceLT, kn, qAc, qAa, kg, kD, kp, qs, qz3, qz9, qc, qM, qI, qi, qT, c0, qr, qd, qg, qq, kj, Int.reduceEq, decide_true, c1, qAl, e2, e3, c4, qAd, e5, e6, qR, ql, kz, qU, qn, kB, hw2, qO, qJ, qb, qH, kv, qh, qt, qV]
    refine kR hid ?_ ?_ <;> omega
  · skip
    obtain ⟨t1, j1, q1, n1, s1, l1, m1, u1, c1⟩ := hnum i1 n1
    obtain ⟨r2, y2, _, e2⟩ := cat (txl 1 [40] rfl) q1 (by omega)
    obtain ⟨r3, y3, _, e3⟩ := cat y2 (txl 3 [32, 42, 32] rfl) (by omega)
    obtain ⟨t4, j4, q4, n4, s4, l4, m4, u4, c4⟩ := hnum j1 n1
    obtain ⟨r5, y5, _, e5⟩ := cat y3 q4 (by omega)
    obtain ⟨r6, y6, _, e6⟩ := cat y5 (txl 1 [41] rfl) (by omega)
    refine ⟨r6, j4, y6.le (by omega), n4, ?_⟩
    rw [qY (fn := kc) rfl rfl]
    simp only [kc, qj, qz6, qo, qB, qx, qy, qm, qe, kK, qK, qL, qW, qa, qf, kI, reduceCtorEq, qF, qD, qP, qz, ki, qE, qp, qu, kP, qQ, kh, hg, kL, qz5, qz2, qAb, kq, qk, ke, kr, qz7, qA, zr, hle, decide_false, qw, qC, qz0, ↓reduceIte, qS, zk, hw1, Nat.reduceEqDiff, qN, kW, zq, ky, qz4, qz8, qX, kS, kl, qz1, kf, Nat.reduceAdd, Nat.reduceLT, kn, qAc, qAa, kg, kD, kp, qs, qz3, qz9, qc, qM, qI, qi, qT, c0, qr, qd, qg, qq, kj, Int.reduceEq, decide_true, c1, qAl, e2, e3, c4, qAd, e5, e6, qR, ql, kz, qU, qn, kB, hw2, qO, qJ, qb, qH, kv, qh, qt, qV]
    refine kR hid ?_ ?_ <;> omega
  · skip
    obtain ⟨t1, j1, q1, n1, s1, l1, m1, u1, c1⟩ := hnum i1 n1
    obtain ⟨r2, y2, _, e2⟩ := cat (txl 1 [40] rfl) q1 (by omega)
    obtain ⟨r3, y3, _, e3⟩ := cat y2 (txl 5 [32, 68, 73, 86, 32] rfl) (by omega)
    obtain ⟨v4, j4, z4, w4, n4, s4, l4, m4, u4, c4⟩ := jh hL hid (d := (d : Nat)) (n := 4) (by omega) (by omega) n1
    obtain ⟨t4, q4, x4⟩ : ∃ t, Tx 1 t ∧ iaV (.d (.sl [D.s [50], D.s [51], D.s [55], D.s [110]])) (.d (.i .i64 v4)) 1 none = some (.cp (.s t)) := qbh [[50], [51], [55], [110]] 1 rfl z4 w4
    obtain ⟨r5, y5, _, e5⟩ := cat y3 q4 (by omega)
    obtain ⟨r6, y6, _, e6⟩ := cat y5 (txl 1 [41] rfl) (by omega)
    refine ⟨r6, j4, y6.le (by omega), n4, ?_⟩
    rw [qY (fn := kc) rfl rfl]
    simp only [kc, qj, qz6, qo, qB, qx, qy, qm, qe, kK, qK, qL, qW, qa, qf, kI, reduceCtorEq, qF, qD, qP, qz, ki, qE, qp, qu, kP, qQ, kh, hg, kL, qz5, qz2, qAb, kq, qk, ke, kr, qz7, qA, zr, hle, decide_false, qw, qC, qz0, ↓reduceIte, qS, zk, hw1, Nat.reduceEqDiff, qN, kW, zq, ky, qz4, qz8, qX, kS, kl, qz1, kf, Nat.reduceAdd, Nat.reduceLT, kn, qAc, qAa, kg, kD, kp, qs, qz3, qz9, qc, qM, qI, qi, qT, c0, qr, qd, qg, qq, kj, Int.reduceEq, decide_true, c1, qAl, e2, e3, kJ, jD, List.reduceReplicate, zD, zR, jk, jg, yR, jK, jj, yy, c4, kH, jb, x4, yQ, zP, zX, qab, zN, qAd, e5, e6, qR, ql, kz, qU, qn, kB, hw2, qO, qJ, qb, qH, kv, qh, qt, qV]
    refine kR hid ?_ ?_ <;> omega
  · skip
    obtain ⟨t1, j1, q1, n1, s1, l1, m1, u1, c1⟩ := hnum i1 n1
    obtain ⟨r2, y2, _, e2⟩ := cat (txl 1 [40] rfl) q1 (by omega)
    obtain ⟨r3, y3, _, e3⟩ := cat y2 (txl 5 [32, 77, 79, 68, 32] rfl) (by omega)
    obtain ⟨v4, j4, z4, w4, n4, s4, l4, m4, u4, c4⟩ := jh hL hid (d := (d : Nat)) (n := 3) (by omega) (by omega) n1
    obtain ⟨t4, q4, x4⟩ : ∃ t, Tx 1 t ∧ iaV (.d (.sl [D.s [52], D.s [53], D.s [110]])) (.d (.i .i64 v4)) 1 none = some (.cp (.s t)) := qbh [[52], [53], [110]] 1 rfl z4 w4
    obtain ⟨r5, y5, _, e5⟩ := cat y3 q4 (by omega)
    obtain ⟨r6, y6, _, e6⟩ := cat y5 (txl 1 [41] rfl) (by omega)
    refine ⟨r6, j4, y6.le (by omega), n4, ?_⟩
    rw [qY (fn := kc) rfl rfl]
    simp only [kc, qj, qz6, qo, qB, qx, qy, qm, qe, kK, qK, qL, qW, qa, qf, kI, reduceCtorEq, qF, qD, qP, qz, ki, qE, qp, qu, kP, qQ, kh, hg, kL, qz5, qz2, qAb, kq, qk, ke, kr, qz7, qA, zr, hle, decide_false, qw, qC, qz0, ↓reduceIte, qS, zk, hw1, Nat.reduceEqDiff, qN, kW, zq, ky, qz4, qz8, qX, kS, kl, qz1, kf, Nat.reduceAdd, Nat.reduceLT, kn, qAc, qAa, kg, kD, kp, qs, qz3, qz9, qc, qM, qI, qi, qT, c0, qr, qd, qg, qq, kj, Int.reduceEq, decide_true, c1, qAl, e2, e3, kJ, jD, List.reduceReplicate, zD, zR, jk, jg, yR, jK, jj, yy, c4, kH, jb, x4, yQ, zP, zX, qab, zN, qAd, e5, e6, qR, ql, kz, qU, qn, kB, hw2, qO, qJ, qb, qH, kv, qh, qt, qV]
    refine kR hid ?_ ?_ <;> omega
  · skip
    obtain ⟨t1, j1, q1, n1, s1, l1, m1, u1, c1⟩ := hnum i1 n1
    obtain ⟨r2, y2, _, e2⟩ := cat (txl 2 [97, 91] rfl) q1 (by omega)
    obtain ⟨r3, y3, _, e3⟩ := cat y2 (txl 7 [32, 77, 79, 68, 32, 52, 93] rfl) (by omega)
    refine ⟨r3, j1, y3.le (by omega), n1, ?_⟩
    rw [qY (fn := kc) rfl rfl]
    simp only [kc, qj, qz6, qo, qB, qx, qy, qm, qe, kK, qK, qL, qW, qa, qf, kI, reduceCtorEq, qF, qD, qP, qz, ki, qE, qp, qu, kP, qQ, kh, hg, kL, qz5, qz2, qAb, kq, qk, ke, kr, qz7, qA, zr, hle, decide_false, qw, qC, qz0, ↓reduceIte, qS, zk, hw1, Nat.reduceEqDiff, qN, kW, zq, ky, qz4, qz8, qX, kS, kl, qz1, kf, Nat.reduceAdd, Nat.reduceLT, kn, qAc, qAa, kg, kD, kp, qs, qz3, qz9, qc, qM, qI, qi, qT, c0, qr, qd, qg, qq, kj, Int.reduceEq, decide_true, c1, qAl, e2, e3, qR, ql, kz, qU, qn, kB, hw2, qO, qJ, qb, qH, kv, qh, qt, qV]
    refine kR hid ?_ ?_ <;> omega
  · skip
    obtain ⟨t1, j1, q1, n1, s1, l1, m1, u1, c1⟩ := hnum i1 n1
    obtain ⟨r2, y2, _, e2⟩ := cat (txl 2 [102, 40] rfl) q1 (by omega)
    obtain ⟨r3, y3, _, e3⟩ := cat y2 (txl 2 [44, 32] rfl) (by omega)
    obtain ⟨v4, j4, z4, w4, n4, s4, l4, m4, u4, c4⟩ := jh hL hid (d := (d : Nat)) (n := 3) (by omega) (by omega) n1
    obtain ⟨t4, q4, x4⟩ : ∃ t, Tx 7 t ∧ iaV (.d (.sl [D.s [50], D.s [51], D.s [106, 32, 77, 79, 68, 32, 52]])) (.d (.i .i64 v4)) 1 none = some (.cp (.s t)) := qbh [[50], [51], [106, 32, 77, 79, 68, 32, 52]] 7 rfl z4 w4
    obtain ⟨r5, y5, _, e5⟩ := cat y3 q4 (by omega)
    obtain ⟨r6, y6, _, e6⟩ := cat y5 (txl 1 [41] rfl) (by omega)
    refine ⟨r6, j4, y6.le (by omega), n4, ?_⟩
    rw [qY (fn := kc) rfl rfl]
    simp only [kc, qj, qz6, qo, qB, qx, qy, qm, qe, kK, qK, qL, qW, qa, qf, kI, reduceCtorEq, qF, qD, qP, qz, ki, qE, qp, qu, kP, qQ, kh, hg, kL, qz5, qz2, qAb, kq, qk, ke, kr, qz7, qA, zr, hle, decide_false, qw, qC, qz0, ↓reduceIte, qS, zk, hw1, Nat.reduceEqDiff, qN, kW, zq, ky, qz4, qz8, qX, kS, kl, qz1, kf, Nat.reduceAdd, Nat.reduceLT, kn, qAc, qAa, kg, kD, kp, qs, qz3, qz9, qc, qM, qI, qi, qT, c0, qr, qd, qg, qq, kj, Int.reduceEq, decide_true, c1, qAl, e2, e3, kJ, jD, List.reduceReplicate, zD, zR, jk, jg, yR, jK, jj, yy, c4, kH, jb, x4, yQ, zP, zX, qab, zN, qAd, e5, e6, qR, ql, kz, qU, qn, kB, hw2, qO, qJ, qb, qH, kv, qh, qt, qV]
    refine kR hid ?_ ?_ <;> omega
  · skip
    obtain ⟨t1, j1, q1, n1, s1, l1, m1, u1, c1⟩ := hchar i1 n1
    obtain ⟨r2, y2, _, e2⟩ := cat (txl 4 [79, 82, 68, 40] rfl) q1 (by omega)
    obtain ⟨r3, y3, _, e3⟩ := cat y2 (txl 1 [41] rfl) (by omega)
    refine ⟨r3, j1, y3.le (by omega), n1, ?_⟩
    rw [qY (fn := kc) rfl rfl]
    simp only [kc, qj, qz6, qo, qB, qx, qy, qm, qe, kK, qK, qL, qW, qa, qf, kI, reduceCtorEq, qF, qD, qP, qz, ki, qE, qp, qu, kP, qQ, kh, hg, kL, qz5, qz2, qAb, kq, qk, ke, kr, qz7, qA, zr, hle, decide_false, qw, qC, qz0, ↓reduceIte, qS, zk, hw1, Nat.reduceEqDiff, qN, kW, zq, ky, qz4, qz8, qX, kS, kl, qz1, kf, Nat.reduceAdd, Nat.reduceLT, kn, qAc, qAa, kg, kD, kp, qs, qz3, qz9, qc, qM, qI, qi, qT, c0, qr, qd, qg, qq, kj, Int.reduceEq, decide_true, c1, qAl, e2, e3, qR, ql, kz, qU, qn, kB, hw2, qO, qJ, qb, qH, kv, qh, qt, qV]
    refine kR hid ?_ ?_ <;> omega
  · skip
    obtain ⟨t1, j1, q1, n1, s1, l1, m1, u1, c1⟩ := hnum i1 n1
    obtain ⟨r2, y2, _, e2⟩ := cat (txl 4 [65, 66, 83, 40] rfl) q1 (by omega)
    obtain ⟨r3, y3, _, e3⟩ := cat y2 (txl 1 [41] rfl) (by omega)
    refine ⟨r3, j1, y3.le (by omega), n1, ?_⟩
    rw [qY (fn := kc) rfl rfl]
    simp only [kc, qj, qz6, qo, qB, qx, qy, qm, qe, kK, qK, qL, qW, qa, qf, kI, reduceCtorEq, qF, qD, qP, qz, ki, qE, qp, qu, kP, qQ, kh, hg, kL, qz5, qz2, qAb, kq, qk, ke, kr, qz7, qA, zr, hle, decide_false, qw, qC, qz0, ↓reduceIte, qS, zk, hw1, Nat.reduceEqDiff, qN, kW, zq, ky, qz4, qz8, qX, kS, kl, qz1, kf, Nat.reduceAdd, Nat.reduceLT, kn, qAc, qAa, kg, kD, kp, qs, qz3, qz9, qc, qM, qI, qi, qT, c0, qr, qd, qg, qq, kj, Int.reduceEq, decide_true, c1, qAl, e2, e3, qR, ql, kz, qU, qn, kB, hw2, qO, qJ, qb, qH, kv, qh, qt, qV]
    refine kR hid ?_ ?_ <;> omega
  · skip
    obtain ⟨v1, j1, z1, w1, n1, s1, l1, m1, u1, c1⟩ := jh hL hid (d := (d : Nat)) (n := 3) (by omega) (by omega) n1
    obtain ⟨t1, q1, x1⟩ : ∃ t, Tx 3 t ∧ iaV (.d (.sl [D.s [76, 83, 76], D.s [65, 83, 82], D.s [82, 79, 82]])) (.d (.i .i64 v1)) 1 none = some (.cp (.s t)) := qbh [[76, 83, 76], [65, 83, 82], [82, 79, 82]] 3 rfl z1 w1
    obtain ⟨r2, y2, _, e2⟩ := cat q1 (txl 1 [40] rfl) (by omega)
    obtain ⟨t3, j3, q3, n3, s3, l3, m3, u3, c3⟩ := hnum j1 n1
    obtain ⟨r4, y4, _, e4⟩ := cat y2 q3 (by omega)
    obtain ⟨r5, y5, _, e5⟩ := cat y4 (txl 2 [44, 32] rfl) (by omega)
    obtain ⟨t6, j6, q6, n6, s6, l6, m6, u6, c6⟩ := hnum j3 n3
    obtain ⟨r7, y7, _, e7⟩ := cat y5 q6 (by omega)
    obtain ⟨r8, y8, _, e8⟩ := cat y7 (txl 1 [41] rfl) (by omega)
    refine ⟨r8, j6, y8.le (by omega), n6, ?_⟩
    rw [qY (fn := kc) rfl rfl]
    simp only [kc, qj, qz6, qo, qB, qx, qy, qm, qe, kK, qK, qL, qW, qa, qf, kI, reduceCtorEq, qF, qD, qP, qz, ki, qE, qp, qu, kP, qQ, kh, hg, kL, qz5, qz2, qAb, kq, qk, ke, kr, qz7, qA, zr, hle, decide_false, qw, qC, qz0, ↓reduceIte, qS, zk, hw1, Nat.reduceEqDiff, qN, kW, zq, ky, qz4, qz8, qX, kS, kl, qz1, kf, Nat.reduceAdd, Nat.reduceLT, kn, qAc, qAa, kg, kD, kp, qs, qz3, qz9, qc, qM, qI, qi, qT, c0, qr, qd, qg, qq, kj, Int.reduceEq, decide_true, jp, zV, kJ, jD, List.reduceReplicate, zD, zR, jk, jg, yR, jK, jj, zT, qdE, zW, jz, c1, zx, yu, kH, jb, x1, qej, zP, zX, qab, zN, e2, c3, qAd, e4, e5, c6, e7, e8, zw, qR, ql, kz, qU, qn, kB, hw2, qO, qJ, qb, qH, kv, qh, qt, qV]
    refine kR hid ?_ ?_ <;> omega
  · skip
    obtain ⟨t1, j1, q1, n1, s1, l1, m1, u1, c1⟩ := hleaf i1 n1
    obtain ⟨r2, y2, _, e2⟩ := cat (txl 2 [40, 45] rfl) q1 (by omega)
    obtain ⟨r3, y3, _, e3⟩ := cat y2 (txl 1 [41] rfl) (by omega)
    refine ⟨r3, j1, y3.le (by omega), n1, ?_⟩
    rw [qY (fn := kc) rfl rfl]
    simp only [kc, qj, qz6, qo, qB, qx, qy, qm, qe, kK, qK, qL, qW, qa, qf, kI, reduceCtorEq, qF, qD, qP, qz, ki, qE, qp, qu, kP, qQ, kh, hg, kL, qz5, qz2, qAb, kq, qk, ke, kr, qz7, qA, zr, hle, decide_false, qw, qC, qz0, ↓reduceIte, qS, zk, hw1, Nat.reduceEqDiff, qN, kW, zq, ky, qz4, qz8, qX, kS, kl, qz1, kf, Nat.reduceAdd, Nat.reduceLT, kn, qAc, qAa, kg, kD, kp, qs, qz3, qz9, qc, qM, qI, qi, qT, c0, qr, qd, qg, qq, kj, Int.reduceEq, decide_true, c1, qAl, e2, e3, qR, ql, kz, qU, qn, kB, hw2, qO, qJ, qb, qH, kv, qh, qt, qV]
    refine kR hid ?_ ?_ <;> omega
  · skip
    obtain ⟨v1, j1, z1, w1, n1, s1, l1, m1, u1, c1⟩ := jh hL hid (d := (d : Nat)) (n := 6) (by omega) (by omega) n1
    obtain ⟨t1, q1, x1⟩ : ∃ t, Tx 8 t ∧ iaV (.d (.sl [D.s [112, 46, 120], D.s [113, 46, 121], D.s [112, 46, 110, 101, 120, 116, 46, 120], D.s [117, 46, 120], D.s [113, 40, 83, 41, 46, 120], D.s [97, 91, 106, 93]])) (.d (.i .i64 v1)) 1 none = some (.cp (.s t)) := qbh [[112, 46, 120], [113, 46, 121], [112, 46, 110, 101, 120, 116, 46, 120], [117, 46, 120], [113, 40, 83, 41, 46, 120], [97, 91, 106, 93]] 8 rfl z1 w1
    refine ⟨t1, j1, q1.le (by omega), n1, ?_⟩
    rw [qY (fn := kc) rfl rfl]
    simp only [kc, qj, qz6, qo, qB, qx, qy, qm, qe, kK, qK, qL, qW, qa, qf, kI, reduceCtorEq, qF, qD, qP, qz, ki, qE, qp, qu, kP, qQ, kh, hg, kL, qz5, qz2, qAb, kq, qk, ke, kr, qz7, qA, zr, hle, decide_false, qw, qC, qz0, ↓reduceIte, qS, zk, hw1, Nat.reduceEqDiff, qN, kW, zq, ky, qz4, qz8, qX, kS, kl, qz1, kf, Nat.reduceAdd, Nat.reduceLT, kn, qAc, qAa, kg, kD, kp, qs, qz3, qz9, qc, qM, qI, qi, qT, c0, qr, qd, qg, qq, kj, Int.reduceEq, decide_true, kJ, jD, List.reduceReplicate, zD, zR, jk, jg, yR, jK, jj, yy, c1, kH, jb, x1, yQ, zP, zX, qab, zN, qR, ql, kz, qU, qn, kB, hw2, qO, qJ, qb, qH, kv, qh, qt, qV]
    refine kR hid ?_ ?_ <;> omega
  · skip
    obtain ⟨t1, j1, q1, n1, s1, l1, m1, u1, c1⟩ := hset i1 n1
    obtain ⟨r2, y2, _, e2⟩ := cat (txl 4 [79, 82, 68, 40] rfl) q1 (by omega)
    obtain ⟨r3, y3, _, e3⟩ := cat y2 (txl 1 [41] rfl) (by omega)
    refine ⟨r3, j1, y3.le (by omega), n1, ?_⟩
    rw [qY (fn := kc) rfl rfl]
    simp only [kc, qj, qz6, qo, qB, qx, qy, qm, qe, kK, qK, qL, qW, qa, qf, kI, reduceCtorEq, qF, qD, qP, qz, ki, qE, qp, qu, kP, qQ, kh, hg, kL, qz5, qz2, qAb, kq, qk, ke, kr, qz7, qA, zr, hle, decide_false, qw, qC, qz0, ↓reduceIte, qS, zk, hw1, Nat.reduceEqDiff, qN, kW, zq, ky, qz4, qz8, qX, kS, kl, qz1, kf, Nat.reduceAdd, Nat.reduceLT, kn, qAc, qAa, kg, kD, kp, qs, qz3, qz9, qc, qM, qI, qi, qT, c0, qr, qd, qg, qq, kj, Int.reduceEq, decide_true, c1, qAl, e2, e3, qR, ql, kz, qU, qn, kB, hw2, qO, qJ, qb, qH, kv, qh, qt, qV]
    refine kR hid ?_ ?_ <;> omega
  · skip
    obtain ⟨t1, j1, q1, n1, s1, l1, m1, u1, c1⟩ := hcond i1 n1
    obtain ⟨r2, y2, _, e2⟩ := cat (txl 4 [79, 82, 68, 40] rfl) q1 (by omega)
    obtain ⟨r3, y3, _, e3⟩ := cat y2 (txl 1 [41] rfl) (by omega)
    refine ⟨r3, j1, y3.le (by omega), n1, ?_⟩
    rw [qY (fn := kc) rfl rfl]
    simp only [kc, qj, qz6, qo, qB, qx, qy, qm, qe, kK, qK, qL, qW, qa, qf, kI, reduceCtorEq, qF, qD, qP, qz, ki, qE, qp, qu, kP, qQ, kh, hg, kL, qz5, qz2, qAb, kq, qk, ke, kr, qz7, qA, zr, hle, decide_false, qw, qC, qz0, ↓reduceIte, qS, zk, hw1, Nat.reduceEqDiff, qN, kW, zq, ky, qz4, qz8, qX, kS, kl, qz1, kf, Nat.reduceAdd, Nat.reduceLT, kn, qAc, qAa, kg, kD, kp, qs, qz3, qz9, qc, qM, qI, qi, qT, c0, qr, qd, qg, qq, kj, Int.reduceEq, decide_true, c1, qAl, e2, e3, qR, ql, kz, qU, qn, kB, hw2, qO, qJ, qb, qH, kv, qh, qt, qV]
    refine kR hid ?_ ?_ <;> omega
  · skip
    obtain ⟨t1, j1, q1, n1, s1, l1, m1, u1, c1⟩ := hleaf i1 n1
    obtain ⟨r2, y2, _, e2⟩ := cat (txl 1 [40] rfl) q1 (by omega)
    obtain ⟨r3, y3, _, e3⟩ := cat y2 (txl 3 [32, 43, 32] rfl) (by omega)
    obtain ⟨t4, j4, q4, n4, s4, l4, m4, u4, c4⟩ := hleaf j1 n1
    obtain ⟨r5, y5, _, e5⟩ := cat y3 q4 (by omega)
    obtain ⟨r6, y6, _, e6⟩ := cat y5 (txl 1 [41] rfl) (by omega)
    refine ⟨r6, j4, y6.le (by omega), n4, ?_⟩
    rw [qY (fn := kc) rfl rfl]
    simp only [kc, qj, qz6, qo, qB, qx, qy, qm, qe, kK, qK, qL, qW, qa, qf, kI, reduceCtorEq, qF, qD, qP, qz, ki, qE, qp, qu, kP, qQ, kh, hg, kL, qz5, qz2, qAb, kq, qk, ke, kr, qz7, qA, zr, hle, decide_false, qw, qC, qz0, ↓reduceIte, qS, zk, hw1, Nat.reduceEqDiff, qN, kW, zq, ky, qz4, qz8, qX, kS, kl, qz1, kf, Nat.reduceAdd, Nat.reduceLT, kn, qAc, qAa, kg, kD, kp, qs, qz3, qz9, qc, qM, qI, qi, qT, c0, qr, qd, qg, qq, kj, Int.reduceEq, c1, qAl, e2, e3, c4, qAd, e5, e6, qR, ql, kz, qU, qn, kB, hw2, qO, qJ, qb, qH, kv, qh, qt, qV]
    refine kR hid ?_ ?_ <;> omega
  · skip
    obtain ⟨t1, j1, q1, n1, s1, l1, m1, u1, c1⟩ := hleaf i1 n1
    obtain ⟨r2, y2, _, e2⟩ := cat (txl 1 [40] rfl) q1 (by omega)
    obtain ⟨r3, y3, _, e3⟩ := cat y2 (txl 3 [32, 43, 32] rfl) (by omega)
    obtain ⟨t4, j4, q4, n4, s4, l4, m4, u4, c4⟩ := hleaf j1 n1
    obtain ⟨r5, y5, _, e5⟩ := cat y3 q4 (by omega)
    obtain ⟨r6, y6, _, e6⟩ := cat y5 (txl 1 [41] rfl) (by omega)
    refine ⟨r6, j4, y6.le (by omega), n4, ?_⟩
    rw [qY (fn := kc) rfl rfl]
    simp only [kc, qj, qz6, qo, qB, qx, qy, qm, qe, kK, qK, qL, qW, qa, qf, kI, reduceCtorEq, qF, qD, qP, qz, ki, qE, qp, qu, kP, qQ, kh, hg, kL, qz5, qz2, qAb, kq, qk, ke, kr, qz7, qA, zr, hle, decide_false, qw, qC, qz0, ↓reduceIte, qS, zk, hw1, Nat.reduceEqDiff, qN, kW, zq, ky, qz4, qz8, qX, kS, kl, qz1, kf, Nat.reduceAdd, Nat.reduceLT, kn, qAc, qAa, kg, kD, kp, qs, qz3, qz9, qc, qM, qI, qi, qT, c0, qr, qd, qg, qq, kj, Int.reduceEq, c1, qAl, e2, e3, c4, qAd, e5, e6, qR, ql, kz, qU, qn, kB, hw2, qO, qJ, qb, qH, kv, qh, qt, qV]
    refine kR hid ?_ ?_ <;> omega
end W

set_option linter.unusedSimpArgs false
set_option linter.unusedVariables false
namespace W
open Go (IntKind BinOp UnOp)
set_option maxRecDepth 20000
theorem qpN {Ld : D} {n : Nat} (hL : GL Ld n) {H : List Obj} {id : Nat} (hid : id < H.length) {d b : Nat} (hd : d ≤ 100) (hb : b ≤ 1000000000000)
    (hleaf : GC 72 [] b Ld n H id ((d : Nat) : Int)) (hnum : GC 56 [] b Ld n H id ((d : Nat) : Int)) (hset : GC 71 [] b Ld n H id ((d : Nat) : Int)) (hcond : GC 55 [] b Ld n H id ((d : Nat) : Int)) : GC 55 [] (2 * b + 40) Ld n H id ((d + 1 : Nat) : Int) := by
  intro i0 n0
  have hg : ∀ o, (zi H id o)[id]? = some o := qiy hid
  have hle : (((d + 1 : Nat) : Int) ≤ 0) = False := eq_false (by omega)
  have hw1 : wr .i64 (((d + 1 : Nat) : Int) - 1) = (d : Nat) := by rw [jl (by omega) (by omega)]; omega
  have hw2 : wr .i64 ((d : Nat) + 1 : Int) = ((d + 1 : Nat) : Int) := by rw [jl (by omega) (by omega)]; omega
  obtain ⟨v, i1, z0, w0, n1, s0, l0, m0, u0, c0⟩ := jh hL hid (d := (d : Nat)) (n := 14) (by omega) (by omega) n0
  have hv : v = 0 ∨ v = 1 ∨ v = 2 ∨ v = 3 ∨ v = 4 ∨ v = 5 ∨ v = 6 ∨ v = 7 ∨ v = 8 ∨ v = 9 ∨ v = 10 ∨ v = 11 ∨ v = 12 ∨ v = 13 := by omega
  rcases hv with rfl | rfl | rfl | rfl | rfl | rfl | rfl | rfl | rfl | rfl | rfl | rfl | rfl | rfl
  · skip
    refine ⟨[98], i1, (txl 1 [98] rfl).le (by omega), n1, ?_⟩
    rw [qY (fn := kC) rfl rfl]
    simp only [kC, qj, qz6, qo, qB, qx, qy, qm, qe, kK, qK, qL, qW, qa, qf, kI, reduceCtorEq, qF, qD, qP, qz, ki, qE, qp, qu, kP, qQ, kh, hg, kL, qz5, qz2, qAb, kq, qk, ke, kr, qz7, qA, zr, hle, decide_false, qw, qC, qz0, ↓reduceIte, qS, zk, hw1, Nat.reduceEqDiff, qN, kW, zq, ky, qz4, qz8, qX, kS, kl, qz1, kf, Nat.reduceAdd, Nat.reduceLT, kn, qAc, qAa, kg, kD, kp, qs, qz3, qz9, qc, qM, qI, qi, qT, c0, qr, qd, qg, qq, kj, decide_true, qR, ql, kz, qU, qn, kB, hw2, qO, qJ, qb, qH, kv, qh, qt, qV]
    refine kR hid ?_ ?_ <;> omega
  · skip
    obtain ⟨t1, j1, q1, n1, s1, l1, m1, u1, c1⟩ := hnum i1 n1
    obtain ⟨v2, j2, z2, w2, n2, s2, l2, m2, u2, c2⟩ := jh hL hid (d := (d : Nat)) (n := 6) (by omega) (by omega) n1
    obtain ⟨t2, q2, x2⟩ : ∃ t, Tx 4 t ∧ iaV (.d (.sl [D.s [32, 60, 32], D.s [32, 60, 61, 32], D.s [32, 62, 32], D.s [32, 62, 61, 32], D.s [32, 61, 32], D.s [32, 35, 32]])) (.d (.i .i64 v2)) 1 none = some (.cp (.s t)) := qbh [[32, 60, 32], [32, 60, 61, 32], [32, 62, 32], [32, 62, 61, 32], [32, 61, 32], [32, 35, 32]] 4 rfl z2 w2
    obtain ⟨r3, y3, _, e3⟩ := cat q1 q2 (by omega)
    obtain ⟨t4, j4, q4, n4, s4, l4, m4, u4, c4⟩ := hnum j2 n2
    obtain ⟨r5, y5, _, e5⟩ := cat y3 q4 (by omega)
    refine ⟨r5, j4, y5.le (by omega), n4, ?_⟩
    rw [qY (fn := kC) rfl rfl]
    simp only [kC, qj, qz6, qo, qB, qx, qy, qm, qe, kK, qK, qL, qW, qa, qf, kI, reduceCtorEq, qF, qD, qP, qz, ki, qE, qp, qu, kP, qQ, kh, hg, kL, qz5, qz2, qAb, kq, qk, ke, kr, qz7, qA, zr, hle, decide_false, qw, qC, qz0, ↓reduceIte, qS, zk, hw1, Nat.reduceEqDiff, qN, kW, zq, ky, qz4, qz8, qX, kS, kl, qz1, kf, Nat.reduceAdd, Nat.reduceLT, kn, qAc, qAa, kg, kD, kp, qs, qz3, qz9, qc, qM, qI, qi, qT, c0, qr, qd, qg, qq, kj, Int.reduceEq, decide_true, jp, zV, zT, jz, zW, c1, zx, yu, kJ, jD, List.reduceReplicate, zD, zR, jk, jg, yR, jK, jj, qdE, c2, kH, jb, x2, qej, zP, zX, qab, zN, qAd, e3, c4, e5, zw, qR, ql, kz, qU, qn, kB, hw2, qO, qJ, qb, qH, kv, qh, qt, qV]
    refine kR hid ?_ ?_ <;> omega
  · skip
    obtain ⟨t1, j1, q1, n1, s1, l1, m1, u1, c1⟩ := hcond i1 n1
    obtain ⟨r2, y2, _, e2⟩ := cat (txl 1 [40] rfl) q1 (by omega)
    obtain ⟨r3, y3, _, e3⟩ := cat y2 (txl 5 [41, 32, 38, 32, 40] rfl) (by omega)
    obtain ⟨t4, j4, q4, n4, s4, l4, m4, u4, c4⟩ := hcond j1 n1
    obtain ⟨r5, y5, _, e5⟩ := cat y3 q4 (by omega)
    obtain ⟨r6, y6, _, e6⟩ := cat y5 (txl 1 [41] rfl) (by omega)
    refine ⟨r6, j4, y6.le (by omega), n4, ?_⟩
    rw [qY (fn := kC) rfl rfl]
    simp only [kC, qj, qz6, qo, qB, qx, qy, qm, qe, kK, qK, qL, qW, qa, qf, kI, reduceCtorEq, qF, qD, qP, qz, ki, qE, qp, qu, kP, qQ, kh, hg, kL, qz5, qz2, qAb, kq, qk, ke, kr, qz7, qA, zr, hle, decide_false, qw, qC, qz0, ↓reduceIte, qS, zk, hw1, Nat.reduceEqDiff, qN, kW, zq, ky, qz4, qz8, qX, kS, kl, qz1, kf, Nat.reduceAdd, Nat.reduceLT, kn, qAc, qAa, kg, kD, kp, qs, qz3, qz9, qc, qM, qI, qi, qT, c0, qr, qd, qg, qq, kj, Int.reduceEq, decide_true, c1, qAl, e2, e3, c4, qAd, e5, e6, qR, ql, kz, qU, qn, kB, hw2, qO, qJ, qb, qH, kv, qh, qt, qV]
    refine kR hid ?_ ?_ <;> omega
  · skip
    obtain ⟨t1, j1, q1, n1, s1, l1, m1, u1, c1⟩ := hcond i1 n1
    obtain ⟨r2, y2, _, e2⟩ := cat (txl 1 [40] rfl) q1 (by omega)
    obtain ⟨r3, y3, _, e3⟩ := cat y2 (txl 6 [41, 32, 79, 82, 32, 40] rfl) (by omega)
    obtain ⟨t4, j4, q4, n4, s4, l4, m4, u4, c4⟩ := hcond j1 n1
    obtain ⟨r5, y5, _, e5⟩ := cat y3 q4 (by omega)
    obtain ⟨r6, y6, _, e6⟩ := cat y5 (txl 1 [41] rfl) (by omega)
    refine ⟨r6, j4, y6.le (by omega), n4, ?_⟩
    rw [qY (fn := kC) rfl rfl]
    simp only [kC, qj, qz6, qo, qB, qx, qy, qm, qe, kK, qK, qL, qW, qa, qf, kI, reduceCtorEq, qF, qD, qP, qz, ki, qE, qp, qu, kP, qQ, kh, hg, kL, qz5, qz2, qAb, kq, qk, ke, kr, qz7, qA, zr, hle, decide_false, qw, qC, qz0, ↓reduceIte, qS, zk, hw1, Nat.reduceEqDiff, qN, kW, zq, ky, qz4, qz8, qX, kS, kl, qz1, kf, Nat.reduceAdd, Nat.reduceLT, kn, qAc, qAa, kg, kD, kp, qs, qz3, qz9, qc, qM, qI, qi, qT, c0, qr, qd, qg, qq, kj, Int.reduceEq, decide_true, c1, qAl, e2, e3, c4, qAd, e5, e6, qR, ql, kz, qU, qn, kB, hw2, qO, qJ, qb, qH, kv, qh, qt, qV]
    refine kR hid ?_ ?_ <;> omega
  · skip
    obtain ⟨t1, j1, q1, n1, s1, l1, m1, u1, c1⟩ := hcond i1 n1
    obtain ⟨r2, y2, _, e2⟩ := cat (txl 2 [126, 40] rfl) q1 (by omega)
    obtain ⟨r3, y3, _, e3⟩ := cat y2 (txl 1 [41] rfl) (by omega)
    refine ⟨r3, j1, y3.le (by omega), n1, ?_⟩
    rw [qY (fn := kC) rfl rfl]
    simp only [kC, qj, qz6, qo, qB, qx, qy, qm, qe, kK, qK, qL, qW, qa, qf, kI, reduceCtorEq, qF, qD, qP, qz, ki, qE, qp, qu, kP, qQ, kh, hg, kL, qz5, qz2, qAb, kq, qk, ke, kr, qz7, qA, zr, hle, decide_false, qw, qC, qz0, ↓reduceIte, qS, zk, hw1, Nat.reduceEqDiff, qN, kW, zq, ky, qz4, qz8, qX, kS, kl, qz1, kf, Nat.reduceAdd, Nat.reduceLT, kn, qAc, qAa, kg, kD, kp, qs, qz3, qz9, qc, qM, qI, qi, qT, c0, qr, qd, qg, qq, kj, Int.reduceEq, decide_true, c1, qAl, e2, e3, qR, ql, kz, qU, qn, kB, hw2, qO, qJ, qb, qH, kv, qh, qt, qV]
    refine kR hid ?_ ?_ <;> omega
  · skip
    obtain ⟨t1, j1, q1, n1, s1, l1, m1, u1, c1⟩ := hnum i1 n1
    obtain ⟨r2, y2, _, e2⟩ := cat q1 (txl 4 [32, 73, 78, 32] rfl) (by omega)
    obtain ⟨t3, j3, q3, n3, s3, l3, m3, u3, c3⟩ := hset j1 n1
    obtain ⟨r4, y4, _, e4⟩ := cat y2 q3 (by omega)
    refine ⟨r4, j3, y4.le (by omega), n3, ?_⟩
    rw [qY (fn := kC) rfl rfl]
    simp only [kC, qj, qz6, qo, qB, qx, qy, qm, qe, kK, qK, qL, qW, qa, qf, kI, reduceCtorEq, qF, qD, qP, qz, ki, qE, qp, qu, kP, qQ, kh, hg, kL, qz5, qz2, qAb, kq, qk, ke, kr, qz7, qA, zr, hle, decide_false, qw, qC, qz0, ↓reduceIte, qS, zk, hw1, Nat.reduceEqDiff, qN, kW, zq, ky, qz4, qz8, qX, kS, kl, qz1, kf, Nat.reduceAdd, Nat.reduceLT, kn, qAc, qAa, kg, kD, kp, qs, qz3, qz9, qc, qM, qI, qi, qT, c0, qr, qd, qg, qq, kj, Int.reduceEq, decide_true, c1, e2, c3, qAd, e4, qR, ql, kz, qU, qn, kB, hw2, qO, qJ, qb, qH, kv, qh, qt, qV]
    refine kR hid ?_ ?_ <;> omega
  · skip
    obtain ⟨t1, j1, q1, n1, s1, l1, m1, u1, c1⟩ := hnum i1 n1
    obtain ⟨r2, y2, _, e2⟩ := cat (txl 4 [79, 68, 68, 40] rfl) q1 (by omega)
    obtain ⟨r3, y3, _, e3⟩ := cat y2 (txl 1 [41] rfl) (by omega)
    refine ⟨r3, j1, y3.le (by omega), n1, ?_⟩
    rw [qY (fn := kC) rfl rfl]
    simp only [kC, qj, qz6, qo, qB, qx, qy, qm, qe, kK, qK, qL, qW, qa, qf, kI, reduceCtorEq, qF, qD, qP, qz, ki, qE, qp, qu, kP, qQ, kh, hg, kL, qz5, qz2, qAb, kq, qk, ke, kr, qz7, qA, zr, hle, decide_false, qw, qC, qz0, ↓reduceIte, qS, zk, hw1, Nat.reduceEqDiff, qN, kW, zq, ky, qz4, qz8, qX, kS, kl, qz1, kf, Nat.reduceAdd, Nat.reduceLT, kn, qAc, qAa, kg, kD, kp, qs, qz3, qz9, qc, qM, qI, qi, qT, c0, qr, qd, qg, qq, kj, Int.reduceEq, decide_true, c1, qAl, e2, e3, qR, ql, kz, qU, qn, kB, hw2, qO, qJ, qb, qH, kv, qh, qt, qV]
    refine kR hid ?_ ?_ <;> omega
  · skip
    obtain ⟨v1, j1, z1, w1, n1, s1, l1, m1, u1, c1⟩ := jh hL hid (d := (d : Nat)) (n := 5) (by omega) (by omega) n1
    obtain ⟨t1, q1, x1⟩ : ∃ t, Tx 7 t ∧ iaV (.d (.sl [D.s [112, 32, 61, 32, 78, 73, 76], D.s [112, 32, 35, 32, 113], D.s [111, 40, 112, 41], D.s [112, 32, 61, 32, 117], D.s [78, 73, 76, 32, 35, 32, 113]])) (.d (.i .i64 v1)) 1 none = some (.cp (.s t)) := qbh [[112, 32, 61, 32, 78, 73, 76], [112, 32, 35, 32, 113], [111, 40, 112, 41], [112, 32, 61, 32, 117], [78, 73, 76, 32, 35, 32, 113]] 7 rfl z1 w1
    refine ⟨t1, j1, q1.le (by omega), n1, ?_⟩
    rw [qY (fn := kC) rfl rfl]
    simp only [kC, qj, qz6, qo, qB, qx, qy, qm, qe, kK, qK, qL, qW, qa, qf, kI, reduceCtorEq, qF, qD, qP, qz, ki, qE, qp, qu, kP, qQ, kh, hg, kL, qz5, qz2, qAb, kq, qk, ke, kr, qz7, qA, zr, hle, decide_false, qw, qC, qz0, ↓reduceIte, qS, zk, hw1, Nat.reduceEqDiff, qN, kW, zq, ky, qz4, qz8, qX, kS, kl, qz1, kf, Nat.reduceAdd, Nat.reduceLT, kn, qAc, qAa, kg, kD, kp, qs, qz3, qz9, qc, qM, qI, qi, qT, c0, qr, qd, qg, qq, kj, Int.reduceEq, decide_true, kJ, jD, List.reduceReplicate, zD, zR, jk, jg, yR, jK, jj, yy, c1, kH, jb, x1, yQ, zP, zX, qab, zN, qR, ql, kz, qU, qn, kB, hw2, qO, qJ, qb, qH, kv, qh, qt, qV]
    refine kR hid ?_ ?_ <;> omega
  · skip
    obtain ⟨v1, j1, z1, w1, n1, s1, l1, m1, u1, c1⟩ := jh hL hid (d := (d : Nat)) (n := 3) (by omega) (by omega) n1
    obtain ⟨t1, q1, x1⟩ : ∃ t, Tx 6 t ∧ iaV (.d (.sl [D.s [113, 32, 73, 83, 32, 83], D.s [112, 32, 73, 83, 32, 82], D.s [117, 32, 73, 83, 32, 83]])) (.d (.i .i64 v1)) 1 none = some (.cp (.s t)) := qbh [[113, 32, 73, 83, 32, 83], [112, 32, 73, 83, 32, 82], [117, 32, 73, 83, 32, 83]] 6 rfl z1 w1
    refine ⟨t1, j1, q1.le (by omega), n1, ?_⟩
    rw [qY (fn := kC) rfl rfl]
    simp only [kC, qj, qz6, qo, qB, qx, qy, qm, qe, kK, qK, qL, qW, qa, qf, kI, reduceCtorEq, qF, qD, qP, qz, ki, qE, qp, qu, kP, qQ, kh, hg, kL, qz5, qz2, qAb, kq, qk, ke, kr, qz7, qA, zr, hle, decide_false, qw, qC, qz0, ↓reduceIte, qS, zk, hw1, Nat.reduceEqDiff, qN, kW, zq, ky, qz4, qz8, qX, kS, kl, qz1, kf, Nat.reduceAdd, Nat.reduceLT, kn, qAc, qAa, kg, kD, kp, qs, qz3, qz9, qc, qM, qI, qi, qT, c0, qr, qd, qg, qq, kj, Int.reduceEq, decide_true, kJ, jD, List.reduceReplicate, zD, zR, jk, jg, yR, jK, jj, yy, c1, kH, jb, x1, yQ, zP, zX, qab, zN, qR, ql, kz, qU, qn, kB, hw2, qO, qJ, qb, qH, kv, qh, qt, qV]
    refine kR hid ?_ ?_ <;> omega
  · skip
    obtain ⟨v1, j1, z1, w1, n1, s1, l1, m1, u1, c1⟩ := jh hL hid (d := (d : Nat)) (n := 3) (by omega) (by omega) n1
    obtain ⟨t1, q1, x1⟩ : ∃ t, Tx 4 t ∧ iaV (.d (.sl [D.s [32, 60, 32], D.s [32, 61, 32], D.s [32, 62, 61, 32]])) (.d (.i .i64 v1)) 1 none = some (.cp (.s t)) := qbh [[32, 60, 32], [32, 61, 32], [32, 62, 61, 32]] 4 rfl z1 w1
    obtain ⟨r2, y2, _, e2⟩ := cat (txl 1 [99] rfl) q1 (by omega)
    obtain ⟨v3, j3, z3, w3, n3, s3, l3, m3, u3, c3⟩ := jh hL hid (d := (d : Nat)) (n := 3) (by omega) (by omega) n1
    obtain ⟨t3, q3, x3⟩ : ∃ t, Tx 4 t ∧ iaV (.d (.sl [D.s [34, 109, 34], D.s [116, 91, 49, 93], D.s [50, 48, 88]])) (.d (.i .i64 v3)) 1 none = some (.cp (.s t)) := qbh [[34, 109, 34], [116, 91, 49, 93], [50, 48, 88]] 4 rfl z3 w3
    obtain ⟨r4, y4, _, e4⟩ := cat y2 q3 (by omega)
    refine ⟨r4, j3, y4.le (by omega), n3, ?_⟩
    rw [qY (fn := kC) rfl rfl]
    simp only [kC, qj, qz6, qo, qB, qx, qy, qm, qe, kK, qK, qL, qW, qa, qf, kI, reduceCtorEq, qF, qD, qP, qz, ki, qE, qp, qu, kP, qQ, kh, hg, kL, qz5, qz2, qAb, kq, qk, ke, kr, qz7, qA, zr, hle, decide_false, qw, qC, qz0, ↓reduceIte, qS, zk, hw1, Nat.reduceEqDiff, qN, kW, zq, ky, qz4, qz8, qX, kS, kl, qz1, kf, Nat.reduceAdd, Nat.reduceLT, kn, qAc, qAa, kg, kD, kp, qs, qz3, qz9, qc, qM, qI, qi, qT, c0, qr, qd, qg, qq, kj, Int.reduceEq, decide_true, jp, zV, kJ, jD, List.reduceReplicate, zD, zR, jk, jg, yR, jK, jj, zT, qdE, zW, jz, c1, zx, yu, kH, jb, x1, qej, zP, zX, qab, zN, qAl, e2, c3, x3, qAd, e4, zw, qR, ql, kz, qU, qn, kB, hw2, qO, qJ, qb, qH, kv, qh, qt, qV]
    refine kR hid ?_ ?_ <;> omega
  · skip
    obtain ⟨t1, j1, q1, n1, s1, l1, m1, u1, c1⟩ := hset i1 n1
    obtain ⟨v2, j2, z2, w2, n2, s2, l2, m2, u2, c2⟩ := jh hL hid (d := (d : Nat)) (n := 2) (by omega) (by omega) n1
    obtain ⟨t2, q2, x2⟩ : ∃ t, Tx 3 t ∧ iaV (.d (.sl [D.s [32, 61, 32], D.s [32, 35, 32]])) (.d (.i .i64 v2)) 1 none = some (.cp (.s t)) := qbh [[32, 61, 32], [32, 35, 32]] 3 rfl z2 w2
    obtain ⟨r3, y3, _, e3⟩ := cat q1 q2 (by omega)
    obtain ⟨t4, j4, q4, n4, s4, l4, m4, u4, c4⟩ := hset j2 n2
    obtain ⟨r5, y5, _, e5⟩ := cat y3 q4 (by omega)
    refine ⟨r5, j4, y5.le (by omega), n4, ?_⟩
    rw [qY (fn := kC) rfl rfl]
    simp only [kC, qj, qz6, qo, qB, qx, qy, qm, qe, kK, qK, qL, qW, qa, qf, kI, reduceCtorEq, qF, qD, qP, qz, ki, qE, qp, qu, kP, qQ, kh, hg, kL, qz5, qz2, qAb, kq, qk, ke, kr, qz7, qA, zr, hle, decide_false, qw, qC, qz0, ↓reduceIte, qS, zk, hw1, Nat.reduceEqDiff, qN, kW, zq, ky, qz4, qz8, qX, kS, kl, qz1, kf, Nat.reduceAdd, Nat.reduceLT, kn, qAc, qAa, kg, kD, kp, qs, qz3, qz9, qc, qM, qI, qi, qT, c0, qr, qd, qg, qq, kj, Int.reduceEq, decide_true, jp, zV, zT, jz, zW, c1, zx, yu, kJ, jD, List.reduceReplicate, zD, zR, jk, jg, yR, jK, jj, qdE, c2, kH, jb, x2, qej, zP, zX, qab, zN, qAd, e3, c4, e5, zw, qR, ql, kz, qU, qn, kB, hw2, qO, qJ, qb, qH, kv, qh, qt, qV]
    refine kR hid ?_ ?_ <;> omega
  · skip
    refine ⟨[73, 110, 46, 69, 111, 102, 40, 41], i1, (txl 8 [73, 110, 46, 69, 111, 102, 40, 41] rfl).le (by omega), n1, ?_⟩
    rw [qY (fn := kC) rfl rfl]
    simp only [kC, qj, qz6, qo, qB, qx, qy, qm, qe, kK, qK, qL, qW, qa, qf, kI, reduceCtorEq, qF, qD, qP, qz, ki, qE, qp, qu, kP, qQ, kh, hg, kL, qz5, qz2, qAb, kq, qk, ke, kr, qz7, qA, zr, hle, decide_false, qw, qC, qz0, ↓reduceIte, qS, zk, hw1, Nat.reduceEqDiff, qN, kW, zq, ky, qz4, qz8, qX, kS, kl, qz1, kf, Nat.reduceAdd, Nat.reduceLT, kn, qAc, qAa, kg, kD, kp, qs, qz3, qz9, qc, qM, qI, qi, qT, c0, qr, qd, qg, qq, kj, Int.reduceEq, decide_true, qR, ql, kz, qU, qn, kB, hw2, qO, qJ, qb, qH, kv, qh, qt, qV]
    refine kR hid ?_ ?_ <;> omega
  · skip
    obtain ⟨t1, j1, q1, n1, s1, l1, m1, u1, c1⟩ := hleaf i1 n1
    obtain ⟨r2, y2, _, e2⟩ := cat q1 (txl 3 [32, 62, 32] rfl) (by omega)
    obtain ⟨t3, j3, q3, n3, s3, l3, m3, u3, c3⟩ := hleaf j1 n1
    obtain ⟨r4, y4, _, e4⟩ := cat y2 q3 (by omega)
    refine ⟨r4, j3, y4.le (by omega), n3, ?_⟩
    rw [qY (fn := kC) rfl rfl]
    simp only [kC, qj, qz6, qo, qB, qx, qy, qm, qe, kK, qK, qL, qW, qa, qf, kI, reduceCtorEq, qF, qD, qP, qz, ki, qE, qp, qu, kP, qQ, kh, hg, kL, qz5, qz2, qAb, kq, qk, ke, kr, qz7, qA, zr, hle, decide_false, qw, qC, qz0, ↓reduceIte, qS, zk, hw1, Nat.reduceEqDiff, qN, kW, zq, ky, qz4, qz8, qX, kS, kl, qz1, kf, Nat.reduceAdd, Nat.reduceLT, kn, qAc, qAa, kg, kD, kp, qs, qz3, qz9, qc, qM, qI, qi, qT, c0, qr, qd, qg, qq, kj, Int.reduceEq, c1, e2, c3, qAd, e4, qR, ql, kz, qU, qn, kB, hw2, qO, qJ, qb, qH, kv, qh, qt, qV]
    refine kR hid ?_ ?_ <;> omega
  · skip
    obtain ⟨t1, j1, q1, n1, s1, l1, m1, u1, c1⟩ := hleaf i1 n1
    obtain ⟨r2, y2, _, e2⟩ := cat q1 (txl 3 [32, 62, 32] rfl) (by omega)
    obtain ⟨t3, j3, q3, n3, s3, l3, m3, u3, c3⟩ := hleaf j1 n1
    obtain ⟨r4, y4, _, e4⟩ := cat y2 q3 (by omega)
    refine ⟨r4, j3, y4.le (by omega), n3, ?_⟩
    rw [qY (fn := kC) rfl rfl]
    simp only [kC, qj, qz6, qo, qB, qx, qy, qm, qe, kK, qK, qL, qW, qa, qf, kI, reduceCtorEq, qF, qD, qP, qz, ki, qE, qp, qu, kP, qQ, kh, hg, kL, qz5, qz2, qAb, kq, qk, ke, kr, qz7, qA, zr, hle, decide_false, qw, qC, qz0, ↓reduceIte, qS, zk, hw1, Nat.reduceEqDiff, qN, kW, zq, ky, qz4, qz8, qX, kS, kl, qz1, kf, Nat.reduceAdd, Nat.reduceLT, kn, qAc, qAa, kg, kD, kp, qs, qz3, qz9, qc, qM, qI, qi, qT, c0, qr, qd, qg, qq, kj, Int.reduceEq, c1, e2, c3, qAd, e4, qR, ql, kz, qU, qn, kB, hw2, qO, qJ, qb, qH, kv, qh, qt, qV]
    refine kR hid ?_ ?_ <;> omega
end W

