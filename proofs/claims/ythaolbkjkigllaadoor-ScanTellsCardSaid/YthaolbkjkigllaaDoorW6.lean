/-
  ScanTells: part 6 of what the proof rests on (a value semantics for a part of the language, sound against the model; the walks).
-/
import Derived.Test.YthaolbkjkigllaaDoorW5
set_option linter.unusedSimpArgs false
set_option linter.unusedVariables false
open Bool renaming false_eq_true → qzL, and_self → qzM, or_true → qzR, or_self → qzY, and_eq_true → qz0, cond_eq_ite → qz2, not_true → qz6, or_false → qz7, not_false → qAc
open List renaming map_cons → qzN, getElem?_cons_zero → qzO, getElem?_cons_succ → qzQ, length_cons → qzS, map_nil → qzT, set_cons_zero → qzU, length_nil → qzV, set_cons_succ → qzX, take_succ_cons → qz3, drop_zero → qz9, take_zero → qAa, getElem?_eq_getElem → qAf
open Nat renaming zero_add → qzP, le_refl → qzZ, beq → qz5, eq_of_beq_eq_true → qz8, min_self → qAb, add_zero → qAg
open Option renaming map_some → qzW, bind_eq_some_iff → qz1, bind_eq_bind → qz4, pure_def → qAd
open Int renaming cast_ofNat_Int → qAe
namespace W
open Go (IntKind BinOp UnOp)
set_option maxRecDepth 20000
theorem qh6 {c : Nat} {H : List Obj} : zF pg 35 [.d (.i .u8 c)] H = some ⟨false, true, .d (.b (cLt c)), H, H.length⟩ := by
  rw [kf (fn := qb6) rfl rfl]
  have e1 : ((97 : Int) ≤ (c : Int)) = (97 ≤ c) := by rw [eq_iff_iff]; omega
  have e2 : ((c : Int) ≤ 122) = (c ≤ 122) := by rw [eq_iff_iff]; omega
  have e3 : ((65 : Int) ≤ (c : Int)) = (65 ≤ c) := by rw [eq_iff_iff]; omega
  have e4 : ((c : Int) ≤ 90) = (c ≤ 90) := by rw [eq_iff_iff]; omega
  by_cases h1 : 97 ≤ c <;> by_cases h2 : c ≤ 122 <;> by_cases h3 : 65 ≤ c <;> by_cases h4 : c ≤ 90
  all_goals simp only [qb6, qm, qzP, qp, qC, qD, qq, qh, kQ, qP, qQ, ke, qd, qi, kO, reduceCtorEq, qK, qJ, qF, qE, qn, ki, kx, qzR, jd, e1, h1, decide_true, qr, kW, zm, zi, ↓reduceIte, Nat.reduceEqDiff, zA, e2, h2, kB, zB, zT, qz6, qzL, zl, qgd, k9, qbD, qT, qO, qe, qI, kv, qj, qt, qZ, qN, js, jr, kG, cLt, qzM, h3, h4, qzY, decide_false, Bool.and_false, qz7, Bool.and_true, qAc, e3, e4, yc]
  all_goals rfl
theorem qgx {c : Nat} {H : List Obj} : zF pg 36 [.d (.i .u8 c)] H = some ⟨false, true, .d (.b (cDg c)), H, H.length⟩ := by
  rw [kf (fn := qci) rfl rfl]
  have e1 : ((48 : Int) ≤ (c : Int)) = (48 ≤ c) := by rw [eq_iff_iff]; omega
  have e2 : ((c : Int) ≤ 57) = (c ≤ 57) := by rw [eq_iff_iff]; omega
  by_cases h1 : 48 ≤ c <;> by_cases h2 : c ≤ 57
  all_goals simp only [qci, qm, qzP, qp, qC, qD, qq, qh, kQ, qP, qQ, ke, qd, qi, kO, reduceCtorEq, qK, qJ, qF, qE, qn, ki, kx, qzR, jd, e1, h1, decide_true, qr, kW, zm, zi, ↓reduceIte, Nat.reduceEqDiff, zA, e2, h2, kB, zB, qT, qO, qe, qI, kv, qj, qt, qZ, qN, js, jr, kG, cDg, qzM, decide_false, Bool.and_false, qzL, zl, k9, yc, Bool.and_true]
  all_goals rfl
theorem qn2 {c : Nat} {H : List Obj} : zF pg 34 [.d (.i .u8 c)] H = some ⟨false, true, .d (.b (blk c)), H, H.length⟩ := by
  rw [kf (fn := qco) rfl rfl]
  have e1 : ((c : Int) = 9) = (c = 9) := by rw [eq_iff_iff]; omega
  have e2 : ((c : Int) = 10) = (c = 10) := by rw [eq_iff_iff]; omega
  have e3 : ((c : Int) = 13) = (c = 13) := by rw [eq_iff_iff]; omega
  have e4 : ((c : Int) = 32) = (c = 32) := by rw [eq_iff_iff]; omega
  by_cases h1 : c = 9 <;> by_cases h2 : c = 10 <;> by_cases h3 : c = 13 <;> by_cases h4 : c = 32
  all_goals simp only [qco, h1, qAe, qm, qzP, qp, qC, qD, qq, qh, kQ, qP, qQ, ke, qd, qi, kO, reduceCtorEq, qK, qJ, qF, qE, qn, ki, kx, qzR, ko, decide_true, qr, kW, zT, qz6, zi, qzL, ↓reduceIte, zl, Nat.reduceEqDiff, kB, k9, qbD, qT, qO, qe, qI, kv, qj, qt, qZ, qN, js, jr, kG, blk, decide_false, qz7, h2, Int.reduceEq, qAc, zB, h3, qzY, h4, e1, e2, e3, e4]
  all_goals rfl
theorem qpE {c : Nat} {H : List Obj} : zF pg 57 [.d (.i .u8 c)] H = some ⟨false, true, .d (.i .i64 (if cHx c = true then (dg c : Int) else -1)), H, H.length⟩ := by
  rw [kf (fn := qaA) rfl rfl]
  have e1 : ((65 : Int) ≤ (c : Int)) = (65 ≤ c) := by rw [eq_iff_iff]; omega
  have e2 : ((c : Int) ≤ 70) = (c ≤ 70) := by rw [eq_iff_iff]; omega
  have hd := qgx (c := c) (H := H)
  cases hq : cDg c with
  | true =>
    rw [hq] at hd
    have hh : cHx c = true := by simp [cHx, hq]
    have hr : 48 ≤ c ∧ c ≤ 57 := by simpa [cDg] using hq
    have e3 : wr .u8 ((c : Int) - 48) = (dg c : Int) := by rw [qkh (by omega) (by omega)]; simp only [dg, hr.2, if_true]; omega
    have e4 : wr .i64 (dg c : Int) = (dg c : Int) := by rw [jn (by omega) (by unfold dg; split <;> omega)]
    rw [hh]
    simp only [qaA, Int.reduceNeg, qm, qzP, qp, qC, qD, qq, qh, kQ, qP, qQ, ke, qd, qi, qw, kO, reduceCtorEq, qK, qJ, qF, qE, qy, qzN, qzT, qf, qN, ql, qzM, qY, hd, qz, qg, qk, qAb, zk, za, kh, qA, qG, ↓reduceIte, qn, ki, kx, qzR, zt, e3, qr, z8, e4, qT, kK, kq, qO, qe, qI, kv, qj, qt, qZ, js, jr, kG]
    all_goals rfl
  | false =>
    rw [hq] at hd
    by_cases h1 : 65 ≤ c ∧ c ≤ 70
    · have hh : cHx c = true := by simp [cHx, h1]
      have e3 : wr .u8 ((c : Int) - 65) = ((c - 65 : Nat) : Int) := by rw [qkh (by omega) (by omega)]; omega
      have e4 : wr .i64 ((c - 65 : Nat) : Int) = ((c - 65 : Nat) : Int) := by rw [jn (by omega) (by omega)]
      have e5 : wr .i64 (((c - 65 : Nat) : Int) + 10) = (dg c : Int) := by
        have : ¬ c ≤ 57 := by omega
        rw [jn (by omega) (by omega)]; simp only [dg, this, if_false]; omega
      rw [hh]
      simp only [qaA, Int.reduceNeg, qm, qzP, qp, qC, qD, qq, qh, kQ, qP, qQ, ke, qd, qi, qw, kO, reduceCtorEq, qK, qJ, qF, qE, qy, qzN, qzT, qf, qN, ql, qzM, qY, hd, qz, qg, qk, qAb, zk, za, kh, qA, qG, qzL, ↓reduceIte, qn, ki, kx, qzR, jd, e1, h1.1, decide_true, qr, kW, zm, zi, Nat.reduceEqDiff, zA, e2, h1.2, kB, zB, zt, e3, z8, e4, kF, e5, qT, kK, kq, qO, qe, qI, kv, qj, qt, qZ, js, jr, kG]
      all_goals rfl
    · have hh : cHx c = false := by simp only [cHx, hq, Bool.false_or]; simpa using h1
      rw [hh]
      by_cases h2 : 65 ≤ c
      · have h3 : (c ≤ 70) = False := eq_false (fun h => h1 ⟨h2, h⟩)
        simp only [qaA, Int.reduceNeg, qm, qzP, qp, qC, qD, qq, qh, kQ, qP, qQ, ke, qd, qi, qw, kO, reduceCtorEq, qK, qJ, qF, qE, qy, qzN, qzT, qf, qN, ql, qzM, qY, hd, qz, qg, qk, qAb, zk, za, kh, qA, qG, qzL, ↓reduceIte, qn, ki, kx, qzR, jd, e1, h2, decide_true, qr, kW, zm, zi, Nat.reduceEqDiff, zA, e2, h3, decide_false, kB, zB, qX, qU, qs, qT, qO, qe, qI, kv, qj, qt, qZ, js, jr, kG]
        all_goals rfl
      · simp only [qaA, Int.reduceNeg, qm, qzP, qp, qC, qD, qq, qh, kQ, qP, qQ, ke, qd, qi, qw, kO, reduceCtorEq, qK, qJ, qF, qE, qy, qzN, qzT, qf, qN, ql, qzM, qY, hd, qz, qg, qk, qAb, zk, za, kh, qA, qG, qzL, ↓reduceIte, qn, ki, kx, qzR, jd, e1, h2, decide_false, qr, kW, zm, zi, zl, Nat.reduceEqDiff, kB, k9, yc, qX, qU, qs, qT, qO, qe, qI, kv, qj, qt, qZ, js, jr, kG]
        all_goals rfl
theorem qqu {s : List Nat} {c : Nat} (hz : s.length ≤ 1000000000000) {H : List Obj} :
    ∀ (k i : Nat), s.length - i = k → i ≤ s.length → ∃ x e, (x = .nrm ∨ x = .ret) ∧ get 4 e = .d (.b (decide (c ∈ s.drop i))) ∧
      yT pg (yd 0 [] (qb5 pg (.d (.s s)) (.d (.i .u8 (c : Nat))) (.d (.i .i64 (i : Nat))) H H.length)) qb7 = some (x, ⟨e, H, H.length⟩) := by
  intro k
  induction k with
  | zero =>
    intro i hk hi
    obtain rfl : i = s.length := by omega
    have h1 : ((s.length : Int) < (s.length : Int)) = False := by simp
    rw [qdP]
    simp only [qbb, q9, qC, qD, qq, qh, kO, reduceCtorEq, qK, Nat.reduceEqDiff, qJ, qF, qE, qQ, ke, kc, zf, qr, qn, ki, qzY, zq, h1, decide_false, qd, qi, qA, qG, qzL, ↓reduceIte, yO, jT, jC, qs, qb7, kQ, qP, qT]
    exact ⟨_, _, .inr rfl, by rw [List.drop_length]; simp [get], rfl⟩
  | succ k ih =>
    intro i hk hi
    have h1 : ((i : Int) < (s.length : Int)) = True := by rw [eq_iff_iff]; simp; omega
    have hlt : i < s.length := by omega
    have hdr := yR hlt
    have hix : ixV (.d (.s s)) (.d (.i .i64 (i : Int))) = some (.d (.i .u8 ((s[i] : Nat) : Int))) := qjP (by omega) (by simp)
    have hw : wr .i64 ((i : Int) + 1) = ((i + 1 : Nat) : Int) := by rw [jn (by omega) (by omega)]; omega
    rw [qdP]
    by_cases hc : s[i] = c
    · have h2 : (((s[i] : Nat) : Int) = (c : Int)) = True := by rw [eq_iff_iff]; constructor <;> intro h <;> first | trivial | exact absurd (by exact_mod_cast h) hc | exact_mod_cast hc
      simp only [qbb, q9, qC, qD, qq, qh, kO, reduceCtorEq, qK, Nat.reduceEqDiff, qJ, qF, qE, qQ, ke, kc, zf, qr, qn, ki, qzY, zq, h1, decide_true, qd, qi, qA, qG, ↓reduceIte, qX, qw, kM, hix, ko, h2, kQ, qP, qT, kK, kq, qb7]
      exact ⟨_, _, .inr rfl, by rw [hdr, hc]; simp [get], rfl⟩
    · have h2 : (((s[i] : Nat) : Int) = (c : Int)) = False := by rw [eq_iff_iff]; constructor <;> intro h <;> first | trivial | exact absurd (by exact_mod_cast h) hc | exact_mod_cast hc
      obtain ⟨x, e, q1, q2, q3⟩ := ih (i + 1) (by omega) (by omega)
      simp only [qbb, q9, qC, qD, qq, qh, kO, reduceCtorEq, qK, Nat.reduceEqDiff, qJ, qF, qE, qQ, ke, kc, zf, qr, qn, ki, qzY, zq, h1, decide_true, qd, qi, qA, qG, ↓reduceIte, qX, qw, kM, hix, ko, h2, decide_false, qzL, qU, qo, qs, kx, qzR, kQ, kF, hw, qdR]
      refine ⟨x, e, q1, ?_, q3⟩
      rw [q2, hdr]
      have : (c = s[i]) = False := eq_false (fun h => hc h.symm)
      simp only [List.mem_cons, this, false_or]
theorem qpR {s : List Nat} {c : Nat} (hz : s.length ≤ 1000000000000) {H : List Obj} : zF pg 39 [.d (.s s), .d (.i .u8 (c : Nat))] H = some ⟨false, true, .d (.b (decide (c ∈ s))), H, H.length⟩ := by
  obtain ⟨x, e, q1, q2, q3⟩ := qqu (c := c) hz (H := H) s.length 0 rfl (by omega)
  have hz0 : ((0 : Nat) : Int) = 0 := rfl
  rw [hz0] at q3
  rw [qz9] at q2
  rw [kf (fn := qcW) rfl rfl]
  simp only [qcW, qm, qzP, Nat.reduceAdd, qp, qC, qD, qq, qh, kQ, qP, qQ, ke, qd, qi, qw, qdR, reduceCtorEq, qK, qJ, q9, Nat.reduceEqDiff]
  rw [q3]
  rcases q1 with rfl | rfl
  all_goals simp only [qid, qe, qI, q2, kv, qj, qt, qZ, qN, js, jr, kG, qO]
  all_goals rfl
theorem qpq {c : Nat} : ∀ l : List Nat, (ixN c l < 0) = (c ∉ l)
  | [] => by simp [ixN]
  | x :: l => by
    have ih := qpq (c := c) l
    unfold ixN
    cases hb : qz5 x c with
    | true =>
      have := qz8 hb
      subst this
      simp
    | false =>
      have hne : x ≠ c := fun h => by subst h; simp at hb
      simp only [cond_false]
      have hm : (c ∉ x :: l) = (c ∉ l) := by
        rw [eq_iff_iff]
        simp only [List.mem_cons, not_or]
        exact ⟨fun h => h.2, fun h => ⟨fun h' => hne h'.symm, h⟩⟩
      rw [hm, ← ih]
      cases ixN c l with
      | ofNat n => rw [eq_iff_iff]; simp only [Int.ofNat_eq_natCast]; omega
      | negSucc n => rw [eq_iff_iff]; simp only [Int.negSucc_eq]; omega
theorem qnm {H : List Obj} : zF pg 18 [] H = some ⟨false, true, slV D.s KW, H, H.length⟩ := by
  rw [kf (fn := qbF) rfl rfl]
  simp only [qbF, qp, qC, qD, qq, qh, kQ, qP, qQ, ke, qd, qi, kP, jQ, qzS, qzV, qzP, List.reduceReplicate, qzN, qzT, Nat.reduceAdd, Nat.reduceLT, zI, qzU, qzX, zW, jk, ji, yS, jI, qzM, jl, qr, yz, zk, qJ, qiA, kh, qT, qO, qe, qI, qqn, qj, qt, qZ, qoS, qte, qoC, kG]
  all_goals rfl
theorem qqa {L : List (List Nat)} {t : List Nat} (hz : L.length ≤ 1000000000000) {H : List Obj} :
    ∀ (k i : Nat), L.length - i = k → i ≤ L.length → ∃ x e, (x = .nrm ∨ x = .ret) ∧ get 2 e = .d (.b (decide (t ∈ L.drop i))) ∧
      yT pg (yd 0 [] (qaZ pg (.d (.s t)) (slV D.s L) (.d (.i .i64 (i : Nat))) H H.length)) qa2 = some (x, ⟨e, H, H.length⟩) := by
  intro k
  induction k with
  | zero =>
    intro i hk hi
    obtain rfl : i = L.length := by omega
    have h1 : ((L.length : Int) < (L.length : Int)) = False := by simp
    rw [qcR]
    simp only [qab, q9, yQ, qC, qD, qq, qh, kO, reduceCtorEq, qK, Nat.reduceEqDiff, qJ, qF, qE, qQ, ke, qbN, jB, qde, qr, qn, ki, qzY, zq, h1, decide_false, qd, qi, qA, qG, qzL, ↓reduceIte, yO, jT, jC, qs, qa2, kQ, qP, qT]
    exact ⟨_, _, .inr rfl, by rw [List.drop_length]; simp [get], rfl⟩
  | succ k ih =>
    intro i hk hi
    have h1 : ((i : Int) < (L.length : Int)) = True := by rw [eq_iff_iff]; simp; omega
    have hlt : i < L.length := by omega
    have hdr : L.drop i = L[i] :: L.drop (i + 1) := by simp
    have hia : iaV (.d (slD D.s L)) (.d (.i .i64 (i : Int))) 1 none = some (.cp (.s L[i])) := qg7 (fun _ => rfl) (by omega) (by simp)
    have hw : wr .i64 ((i : Int) + 1) = ((i + 1 : Nat) : Int) := by rw [jn (by omega) (by omega)]; omega
    rw [qcR]
    by_cases hc : L[i] = t
    · have h2 : (L[i] = t) = True := eq_true hc
      simp only [qab, q9, yQ, qC, qD, qq, qh, kO, reduceCtorEq, qK, Nat.reduceEqDiff, qJ, qF, qE, qQ, ke, qbN, jB, qde, qr, qn, ki, qzY, zq, h1, decide_true, qd, qi, qA, qG, ↓reduceIte, qX, qw, kI, hia, yJ, qV, zY, zX, yM, h2, kQ, qP, qT, kK, kq, qa2]
      exact ⟨_, _, .inr rfl, by rw [hdr, hc]; simp [get], rfl⟩
    · have h2 : (L[i] = t) = False := eq_false hc
      obtain ⟨x, e, q1, q2, q3⟩ := ih (i + 1) (by omega) (by omega)
      simp only [qab, q9, yQ, qC, qD, qq, qh, kO, reduceCtorEq, qK, Nat.reduceEqDiff, qJ, qF, qE, qQ, ke, qbN, jB, qde, qr, qn, ki, qzY, zq, h1, decide_true, qd, qi, qA, qG, ↓reduceIte, qX, qw, kI, hia, yJ, qV, zY, zX, yM, h2, decide_false, qzL, qU, qo, qs, kx, qzR, kQ, kF, hw, qcG]
      refine ⟨x, e, q1, ?_, q3⟩
      rw [q2, hdr]
      have : (t = L[i]) = False := eq_false (fun h => hc h.symm)
      simp only [List.mem_cons, this, false_or]
theorem qlE {t : List Nat} {H : List Obj} : zF pg 19 [.d (.s t)] H = some ⟨false, true, .d (.b (decide (t ∈ KW))), H, H.length⟩ := by
  obtain ⟨x, e, q1, q2, q3⟩ := qqa (L := KW) (t := t) (by decide) (H := H) KW.length 0 rfl (by omega)
  have hz0 : ((0 : Nat) : Int) = 0 := rfl
  rw [hz0] at q3
  rw [qz9] at q2
  rw [kf (fn := qbT) rfl rfl]
  simp only [qbT, qm, qzP, qp, qC, qD, qq, qh, kQ, qP, qQ, ke, qd, qi, qy, qzT, ql, qY, qnm, qz, qk, qAb, qfm, zk, qJ, qfJ, kh, qw, qcG, reduceCtorEq, qK, q9, Nat.reduceEqDiff, yQ]
  rw [q3]
  rcases q1 with rfl | rfl
  all_goals simp only [qid, qe, qI, q2, kv, qj, qt, qZ, qN, js, jr, kG, qO]
  all_goals rfl
end W

set_option linter.unusedSimpArgs false
set_option linter.unusedVariables false
namespace W
open Go (IntKind BinOp UnOp)
set_option maxRecDepth 20000
def SyR (H : List Obj) (a : Nat) (r : Sy) (X : Option Cr) : Prop :=
  match r with
  | .ok k t n a' => X = some ⟨false, true, .tup [.d (tok k a a' t n), .d (.i .i64 0)], H, H.length⟩
  | .bad e => X = some ⟨false, true, .tup [.d (tok 0 0 0 [] 0), .d (.i .i64 e)], H, H.length⟩
theorem ixA {s : List Nat} {j c : Nat} (h : s[j]? = some c) : ixV (.d (.s s)) (.d (.i .i64 (j : Int))) = some (.d (.i .u8 ((c : Nat) : Int))) := qjP (by omega) (by rw [Int.toNat_natCast]; exact h)
theorem qmL {s : List Nat} (hz : s.length ≤ 1000000000000) {v1 : Int} {v4 : List V} {H : List Obj} :
    ∀ (k j : Nat), s.length - j = k → j ≤ s.length → yd 0 [0, 1, 4, 6] (qbf pg (.d (.s s)) (.d (.i .i64 v1)) (.box v4) (.d (.i .i64 (j : Nat))) H H.length) = some (.nrm, ⟨[(0, .d (.s s)), (1, .d (.i .i64 v1)), (4, .box v4), (6, .d (.i .i64 ((j + run cTx (s.drop j) : Nat) : Int)))], H, H.length⟩) := by
  intro k
  induction k with
  | zero =>
    intro j hk hj
    obtain rfl : j = s.length := by omega
    have h1 : ((s.length : Int) < (s.length : Int)) = False := by simp
    rw [qcX]
    have hr : run cTx (s.drop s.length) = 0 := by simp [run]
    rw [hr]
    simp only [yH, q9, zj, qC, qD, qq, qh, kO, reduceCtorEq, qK, Nat.reduceEqDiff, qJ, qF, qE, qQ, ke, kc, zf, qr, qn, ki, qzY, zq, h1, decide_false, kW, zm, zi, qzL, ↓reduceIte, zl, kB, k9, kQ, yc, qd, qi, qA, qG, yO, jT, jC, qo, qs, qAg]
    all_goals rfl
  | succ k ih =>
    intro j hk hj
    have h1 : ((j : Int) < (s.length : Int)) = True := by rw [eq_iff_iff]; simp; omega
    have hlt : j < s.length := by omega
    have hdr := yR hlt
    have hix : ixV (.d (.s s)) (.d (.i .i64 (j : Int))) = some (.d (.i .u8 ((s[j] : Nat) : Int))) := qjP (by omega) (by simp)
    have hw : wr .i64 ((j : Int) + 1) = ((j + 1 : Nat) : Int) := by rw [jn (by omega) (by omega)]; omega
    rw [qcX, hdr]
    generalize s[j] = c at hix
    have e1 : ((c : Int) = 34) = (c = 34) := by rw [eq_iff_iff]; omega
    have e2 : ((32 : Int) ≤ (c : Int)) = (32 ≤ c) := by rw [eq_iff_iff]; omega
    have ih' := ih (j + 1) (by omega) (by omega)
    by_cases q1 : c = 34
    · have hr : run cTx (c :: s.drop (j + 1)) = 0 := by simp [run, cTx, q1]
      rw [hr]
      simp only [yH, q9, zj, qC, qD, qq, qh, kO, reduceCtorEq, qK, Nat.reduceEqDiff, qJ, qF, qE, qQ, ke, kc, zf, qr, qn, ki, qzY, zq, h1, decide_true, kW, zm, zi, ↓reduceIte, kM, hix, q1, qAe, kx, qzR, kQ, qaJ, qz6, kB, zB, qzL, zl, k9, yc, qd, qi, qA, qG, yO, jT, jC, qo, qs, qAg]
      all_goals rfl
    · by_cases q2 : 32 ≤ c
      · have hr : j + run cTx (c :: s.drop (j + 1)) = j + 1 + run cTx (s.drop (j + 1)) := by simp [run, cTx, q1, q2]; omega
        rw [hr]
        simp only [yH, q9, zj, qC, qD, qq, qh, kO, reduceCtorEq, qK, Nat.reduceEqDiff, qJ, qF, qE, qQ, ke, kc, zf, qr, qn, ki, qzY, zq, h1, decide_true, kW, zm, zi, ↓reduceIte, kM, hix, kx, qzR, kQ, qaJ, e1, q1, decide_false, qAc, kB, zB, jd, e2, q2, qd, qi, qA, qG, qX, qw, kF, hw, qU, qo, qs, yN]
        exact ih'
      · have hr : run cTx (c :: s.drop (j + 1)) = 0 := by simp [run, cTx, q1, q2]
        rw [hr]
        simp only [yH, q9, zj, qC, qD, qq, qh, kO, reduceCtorEq, qK, Nat.reduceEqDiff, qJ, qF, qE, qQ, ke, kc, zf, qr, qn, ki, qzY, zq, h1, decide_true, kW, zm, zi, ↓reduceIte, kM, hix, kx, qzR, kQ, qaJ, e1, q1, decide_false, qAc, kB, zB, jd, e2, q2, qd, qi, qA, qG, qzL, yO, jT, jC, qo, qs, qAg]
        all_goals rfl
theorem qgT {x j : Nat} {s : List Nat} : pre [x] (s.drop j) = true ↔ s[j]? = some x := by
  constructor
  · intro h
    have hlt := qeh h
    rw [yR hlt, qu0] at h
    rw [qAf hlt]
    rw [of_decide_eq_true h]
  · intro h
    have hlt := (List.getElem?_eq_some_iff.1 h).1
    rw [yR hlt, qu0]
    rw [qAf hlt] at h
    exact decide_eq_true (Option.some.inj h)
theorem qnM {s : List Nat} (hz : s.length ≤ 1000000000000) {a : Nat} {H : List Obj} (ha : a < s.length) : SyR H a (qhm s a) (zF pg 38 [.d (.s s), .d (.i .i64 (a : Nat))] H) := by
  have hl := fun v4 => qmL hz (v1 := (a : Int)) (v4 := v4) (H := H) (s.length - (a + 1)) (a + 1) rfl (by omega)
  have hle := qe7 cTx (s.drop (a + 1))
  simp only [List.length_drop] at hle
  have hmm : (s.take (a + 1 + run cTx (s.drop (a + 1)))).drop (a + 1) = (s.drop (a + 1)).take (run cTx (s.drop (a + 1))) := by
    rw [List.drop_take]; congr 1; omega
  have hw0 : wr .i64 ((a : Int) + 1) = ((a + 1 : Nat) : Int) := by rw [jn (by omega) (by omega)]; omega
  rw [kf (fn := yP) rfl rfl]
  unfold qhm
  have hmid := qiG (l := s) (a := a + 1) (b := a + 1 + run cTx (s.drop (a + 1))) (by omega) (by omega)
  rw [hmm] at hmid
  generalize run cTx (s.drop (a + 1)) = k at *
  generalize (s.drop (a + 1)).take k = t at *
  by_cases hp : pre [34] (s.drop (a + 1 + k)) = true
  · have hlt := qeh hp
    have h1 : ((s.length : Int) ≤ ((a + 1 + k : Nat) : Int)) = False := by rw [eq_iff_iff]; simp; omega
    have hix : ixV (.d (.s s)) (.d (.i .i64 ((a + 1 + k : Nat) : Int))) = some (.d (.i .u8 ((34 : Nat) : Int))) := ixA (qgT.1 hp)
    have e34 : (((34 : Nat) : Int) = 34) = True := by simp
    have hw1 : wr .i64 (((a + 1 + k : Nat) : Int) - (a : Int)) = ((k + 1 : Nat) : Int) := by rw [jn (by omega) (by omega)]; omega
    have hw2 : wr .i64 (((k + 1 : Nat) : Int) - 1) = (k : Int) := by rw [jn (by omega) (by omega)]; omega
    have hw3 : wr .i64 (((a + 1 + k : Nat) : Int) + 1) = ((a + 1 + k + 1 : Nat) : Int) := by rw [jn (by omega) (by omega)]; omega
    rw [if_pos hp]
    by_cases q : 120 < k
    · have e1 : ((120 : Int) < ((k : Nat) : Int)) = True := by rw [eq_iff_iff]; simp; omega
      rw [if_pos q]
      simp only [SyR, yP, qal, qm, qzP, Nat.reduceAdd, qp, qC, qD, qq, kC, qzN, qzT, qQ, zH, kN, ju, kT, qh, kQ, qP, ke, qd, qi, kO, Nat.reduceEqDiff, qK, reduceCtorEq, qJ, qF, qE, qn, ki, kx, qzR, kF, hw0, qr, qw, yN, q9, zj, hl, kc, zf, qzY, jd, h1, decide_false, kW, zT, qAc, zi, ↓reduceIte, kM, hix, qAe, qaJ, decide_true, qz6, kB, zB, qzL, qA, qG, qX, zt, hw1, hw2, jz, e1, zn, zK, zL, zE, jp, zD, ze, zo, qS, zw, zu, zr, qzS, qzV, kg, kY, zz, ji, ku, qzM, zg, kS, kZ, kz, qT, kq, qO, qe, kV, zU, Nat.reduceLeDiff, jF, qz9, qz3, qAa, ky, qI, kv, qj, qt, je, zJ, jj, qct, ja, jR, z7, js, jq, Nat.max_self, zO, kG, tok]
      all_goals rfl
    · have e1 : ((120 : Int) < ((k : Nat) : Int)) = False := by rw [eq_iff_iff]; simp; omega
      rw [if_neg q]
      simp only [SyR, yP, qal, qm, qzP, Nat.reduceAdd, qp, qC, qD, qq, kC, qzN, qzT, qQ, zH, kN, ju, kT, qh, kQ, qP, ke, qd, qi, kO, Nat.reduceEqDiff, qK, reduceCtorEq, qJ, qF, qE, qn, ki, kx, qzR, kF, hw0, qr, qw, yN, q9, zj, hl, kc, zf, qzY, jd, h1, decide_false, kW, zT, qAc, zi, ↓reduceIte, kM, hix, qAe, qaJ, decide_true, qz6, kB, zB, qzL, qA, qG, qX, zt, hw1, hw2, jz, e1, hw3, jA, jP, qcc, yx, hmid, zn, zz, kD, kY, qzS, qzV, Nat.reduceLT, jS, qzU, qzX, ji, zK, zL, zE, jp, zD, ze, zo, qS, zw, zu, zr, kg, ku, qzM, zg, kS, kZ, kz, qT, qO, qe, kV, zU, Nat.reduceLeDiff, jF, qz9, qz3, qAa, ky, qI, kv, qj, qt, je, zJ, jj, qct, ja, jR, z7, js, jq, Nat.max_self, zO, kG, tok]
      all_goals rfl
  · rw [if_neg hp]
    by_cases hlt : a + 1 + k < s.length
    · have h1 : ((s.length : Int) ≤ ((a + 1 + k : Nat) : Int)) = False := by rw [eq_iff_iff]; simp; omega
      have hix : ixV (.d (.s s)) (.d (.i .i64 ((a + 1 + k : Nat) : Int))) = some (.d (.i .u8 ((s[a + 1 + k] : Nat) : Int))) := ixA (qAf hlt)
      have hne : s[a + 1 + k] ≠ 34 := fun h => hp (qgT.2 (by rw [qAf hlt, h]))
      have e34 : (((s[a + 1 + k] : Nat) : Int) = 34) = False := eq_false (fun h => hne (by exact_mod_cast h))
      simp only [SyR, yP, qal, qm, qzP, Nat.reduceAdd, qp, qC, qD, qq, kC, qzN, qzT, qQ, zH, kN, ju, kT, qh, kQ, qP, ke, qd, qi, kO, Nat.reduceEqDiff, qK, reduceCtorEq, qJ, qF, qE, qn, ki, kx, qzR, kF, hw0, qr, qw, yN, q9, zj, hl, kc, zf, qzY, jd, h1, decide_false, kW, zT, qAc, zi, ↓reduceIte, kM, hix, qaJ, e34, kB, zB, qzL, qA, qG, zn, zK, zL, zE, jp, zD, ze, zo, qS, zw, zu, zr, qzS, qzV, kg, kY, zz, ji, ku, qzM, zg, kS, kZ, kz, qT, kq, qO, qe, kV, zU, Nat.reduceLeDiff, jF, qz9, qz3, qAa, ky, qI, kv, qj, qt, je, zJ, jj, qct, ja, jR, z7, js, jq, Nat.max_self, zO, kG, tok]
      all_goals rfl
    · have h1 : ((s.length : Int) ≤ ((a + 1 + k : Nat) : Int)) = True := by rw [eq_iff_iff]; simp; omega
      simp only [SyR, yP, qal, qm, qzP, Nat.reduceAdd, qp, qC, qD, qq, kC, qzN, qzT, qQ, zH, kN, ju, kT, qh, kQ, qP, ke, qd, qi, kO, Nat.reduceEqDiff, qK, reduceCtorEq, qJ, qF, qE, qn, ki, kx, qzR, kF, hw0, qr, qw, yN, q9, zj, hl, kc, zf, qzY, jd, h1, decide_true, kW, zT, qz6, zi, qzL, ↓reduceIte, zl, kB, k9, qbD, qA, qG, zn, zK, zL, zE, jp, zD, ze, zo, qS, zw, zu, zr, qzS, qzV, kg, kY, zz, ji, ku, qzM, zg, kS, kZ, kz, qT, kq, qO, qe, kV, zU, Nat.reduceLeDiff, jF, qz9, qz3, qAa, ky, qI, kv, qj, qt, je, zJ, jj, qct, ja, jR, z7, js, jq, Nat.max_self, zO, kG, tok]
      all_goals rfl
def KK : Nat := 1099511627776
def qjo (h : Nat) : List Nat → Nat
  | [] => h
  | c :: l => qjo (min (16 * h + dg c) KK) l
def qjY (h : Nat) : List Nat → Nat
  | [] => h
  | c :: l => qjY (min (10 * h + dg c) KK) l
def qkE (p : Bool) : List Nat → Bool
  | [] => p
  | c :: l => qkE (p && decide (dg c < 10)) l
theorem qo0 : ∀ (l : List Nat) (h m : Nat), m < h → m < KK → m < qjo h l
  | [], h, m, h1, _ => h1
  | c :: l, h, m, h1, h2 => qo0 l _ m (by omega) h2
theorem qoY : ∀ (l : List Nat) (h m : Nat), m < h → m < KK → m < qjY h l
  | [], h, m, h1, _ => h1
  | c :: l, h, m, h1, h2 => qoY l _ m (by omega) h2
theorem qse : ∀ l, qkE false l = false
  | [] => rfl
  | c :: l => by rw [qkE, Bool.false_and]; exact qse l
theorem qpi : ∀ (l : List Nat) (h : Nat), h ≤ KK → qjo h l ≤ KK
  | [], h, h1 => h1
  | c :: l, h, h1 => qpi l _ (Nat.min_le_right _ _)
theorem qxk {mx : Nat} (hmx : mx < KK) : ∀ (l : List Nat) (n : Nat), (∀ c ∈ l, dg c < 16) → n ≤ mx → pu 16 mx n l = if qjo n l ≤ mx then some (qjo n l) else none
  | [], n, _, hn => by rw [pu, qjo, if_pos hn]
  | c :: l, n, hl, hn => by
    have hc := hl c (by simp)
    rw [pu, qjo, if_neg (by omega)]
    have e : n * 16 + dg c = 16 * n + dg c := by omega
    rw [e]
    by_cases h : mx < 16 * n + dg c
    · rw [if_pos h, if_neg]
      have := qo0 l (min (16 * n + dg c) KK) mx (by omega) hmx
      omega
    · rw [if_neg h, qxk hmx l _ (fun c h => hl c (by simp [h])) (by omega)]
      have : min (16 * n + dg c) KK = 16 * n + dg c := by omega
      rw [this]
theorem qwe {mx : Nat} (hmx : mx < KK) : ∀ (l : List Nat) (n : Nat), n ≤ mx → pu 10 mx n l = if qkE true l = true ∧ qjY n l ≤ mx then some (qjY n l) else none
  | [], n, hn => by rw [pu, qjY, qkE, if_pos ⟨rfl, hn⟩]
  | c :: l, n, hn => by
    rw [pu, qjY, qkE, Bool.true_and]
    by_cases hc : 10 ≤ dg c
    · rw [if_pos hc, if_neg]
      have : decide (dg c < 10) = false := by simp; omega
      rw [this, qse]; simp
    · rw [if_neg hc]
      have : decide (dg c < 10) = true := by simp; omega
      rw [this]
      have e : n * 10 + dg c = 10 * n + dg c := by omega
      rw [e]
      by_cases h : mx < 10 * n + dg c
      · rw [if_pos h, if_neg]
        have := qoY l (min (10 * n + dg c) KK) mx (by omega) hmx
        omega
      · rw [if_neg h, qwe hmx l _ (by omega)]
        have : min (10 * n + dg c) KK = 10 * n + dg c := by omega
        rw [this]
theorem qrf {h x m : Nat} : (if (1099511627776 : Int) < ((m * h + x : Nat) : Int) then (1099511627776 : Int) else ((m * h + x : Nat) : Int)) = ((min (m * h + x) KK : Nat) : Int) := by
  unfold KK
  split <;> omega
theorem qt9 {c : Nat} (h : cHx c = true) : dg c < 16 := by
  simp only [cHx, cDg, Bool.or_eq_true, qz0, decide_eq_true_eq] at h
  unfold dg; split <;> omega
theorem qrR {s : List Nat} (hz : s.length ≤ 1000000000000) {v1 : Int} {v4 : List V} {H : List Obj} :
    ∀ (k j : Nat) (p : Bool) (h d : Nat), s.length - j = k → j ≤ s.length → h ≤ KK → d ≤ KK →
      yd 0 [0, 1, 4, 6, 7, 8, 9] (qbj pg (.d (.s s)) (.d (.i .i64 v1)) (.box v4) (.d (.i .i64 (j : Nat))) (.d (.b p)) (.d (.i .u64 (h : Nat))) (.d (.i .u64 (d : Nat))) H H.length) =
        some (.nrm, ⟨[(0, .d (.s s)), (1, .d (.i .i64 v1)), (4, .box v4), (6, .d (.i .i64 ((j + run cHx (s.drop j) : Nat) : Int))), (7, .d (.b (qkE p ((s.drop j).take (run cHx (s.drop j)))))), (8, .d (.i .u64 ((qjo h ((s.drop j).take (run cHx (s.drop j))) : Nat) : Int))), (9, .d (.i .u64 ((qjY d ((s.drop j).take (run cHx (s.drop j))) : Nat) : Int)))], H, H.length⟩) := by
  intro k
  induction k with
  | zero =>
    intro j p h d hk hj hh hd
    obtain rfl : j = s.length := by omega
    have h1 : ((s.length : Int) < (s.length : Int)) = False := by simp
    rw [qcZ]
    have hr : run cHx (s.drop s.length) = 0 := by simp [run]
    rw [hr]
    simp only [yE, q9, zj, qC, qD, qq, qh, kO, reduceCtorEq, qK, Nat.reduceEqDiff, qJ, qF, qE, qQ, ke, kc, zf, qr, qn, ki, qzY, zq, h1, decide_false, kW, zm, zi, qzL, ↓reduceIte, zl, kB, k9, kQ, yc, qd, qi, qA, qG, yO, jT, jC, qo, qs, qAg, qAa, qkE, qjo, qjY]
    all_goals rfl
  | succ k ih =>
    intro j p h d hk hj hh hd
    have h1 : ((j : Int) < (s.length : Int)) = True := by rw [eq_iff_iff]; simp; omega
    have hlt : j < s.length := by omega
    have hdr := yR hlt
    have hix : ixV (.d (.s s)) (.d (.i .i64 (j : Int))) = some (.d (.i .u8 ((s[j] : Nat) : Int))) := ixA (qAf hlt)
    have hw : wr .i64 ((j : Int) + 1) = ((j + 1 : Nat) : Int) := by rw [jn (by omega) (by omega)]; omega
    rw [qcZ, hdr]
    generalize s[j] = c at hix
    have hc := qpE (c := c) (H := H)
    cases hq : cHx c with
    | false =>
      rw [hq] at hc
      have hr : run cHx (c :: s.drop (j + 1)) = 0 := by simp [run, hq]
      rw [hr]
      have e1 : ((0 : Int) ≤ -1) = False := by simp
      simp only [yE, q9, zj, qC, qD, qq, qh, kO, reduceCtorEq, qK, Nat.reduceEqDiff, qJ, qF, qE, qQ, ke, kc, zf, qr, qn, ki, qzY, zq, h1, decide_true, kW, zm, zi, ↓reduceIte, kM, hix, qy, qzN, qzT, qf, qN, ql, qzM, qY, hc, qzL, Int.reduceNeg, qz, qg, qk, qAb, kx, qzR, kQ, jd, e1, decide_false, kB, zB, qd, qi, qA, qG, yO, jT, jC, qo, qs, qAg, qAa, qkE, qjo, qjY]
      all_goals rfl
    | true =>
      rw [hq, if_pos rfl] at hc
      have hdl := qt9 hq
      have hr : run cHx (c :: s.drop (j + 1)) = run cHx (s.drop (j + 1)) + 1 := by simp [run, hq]
      have hj2 : j + (run cHx (s.drop (j + 1)) + 1) = j + 1 + run cHx (s.drop (j + 1)) := by omega
      rw [hr, qz3, qkE, qjo, qjY, hj2]
      have e1 : ((0 : Int) ≤ (dg c : Int)) = True := by rw [eq_iff_iff]; simp
      have e2 : wr .u64 (dg c : Int) = (dg c : Int) := qf1 (by omega) (by omega)
      have hk16 : 16 * h ≤ 16 * KK := by omega
      have hk10 : 10 * d ≤ 10 * KK := by omega
      have hKK : KK = 1099511627776 := rfl
      have e3 : wr .u64 (16 * (h : Int)) = ((16 * h : Nat) : Int) := by rw [qf1 (by omega) (by omega)]; omega
      have e4 : wr .u64 (((16 * h : Nat) : Int) + (dg c : Int)) = ((16 * h + dg c : Nat) : Int) := by rw [qf1 (by omega) (by omega)]; omega
      have e5 : wr .u64 (10 * (d : Int)) = ((10 * d : Nat) : Int) := by rw [qf1 (by omega) (by omega)]; omega
      have e6 : wr .u64 (((10 * d : Nat) : Int) + (dg c : Int)) = ((10 * d + dg c : Nat) : Int) := by rw [qf1 (by omega) (by omega)]; omega
      have e7 := qrf (h := h) (x := dg c) (m := 16)
      have e8 := qrf (h := d) (x := dg c) (m := 10)
      have e9 : ((dg c : Int) < 10) = (dg c < 10) := by rw [eq_iff_iff]; omega
      cases p with
      | false =>
        have ih' := ih (j + 1) false (min (16 * h + dg c) KK) (min (10 * d + dg c) KK) (by omega) (by omega) (Nat.min_le_right _ _) (Nat.min_le_right _ _)
        rw [Bool.false_and]
        simp only [yE, q9, zj, qC, qD, qq, qh, kO, reduceCtorEq, qK, Nat.reduceEqDiff, qJ, qF, qE, qQ, ke, kc, zf, qr, qn, ki, qzY, zq, h1, decide_true, kW, zm, zi, ↓reduceIte, kM, hix, qy, qzN, qzT, qf, qN, ql, qzM, qY, hc, qz, qg, qk, qAb, kx, qzR, kQ, jd, e1, kB, zB, qd, qi, qA, qG, qX, qw, z8, e2, zk, za, kh, qzL, zl, k9, yc, qz7, qg0, e3, kF, e4, qlx, qrV, e7, e5, e6, e8, hw, qU, qo, qs, zN]
        exact ih'
      | true =>
        have ih' := ih (j + 1) (decide (dg c < 10)) (min (16 * h + dg c) KK) (min (10 * d + dg c) KK) (by omega) (by omega) (Nat.min_le_right _ _) (Nat.min_le_right _ _)
        rw [Bool.true_and]
        simp only [yE, q9, zj, qC, qD, qq, qh, kO, reduceCtorEq, qK, Nat.reduceEqDiff, qJ, qF, qE, qQ, ke, kc, zf, qr, qn, ki, qzY, zq, h1, decide_true, kW, zm, zi, ↓reduceIte, kM, hix, qy, qzN, qzT, qf, qN, ql, qzM, qY, hc, qz, qg, qk, qAb, kx, qzR, kQ, jd, e1, kB, zB, qd, qi, qA, qG, qX, qw, z8, e2, zk, za, kh, e9, qz7, qg0, e3, kF, e4, qlx, qrV, e7, e5, e6, e8, hw, qU, qo, qs, zN]
        exact ih'
theorem qmv {s : List Nat} (hz : s.length ≤ 1000000000000) {a : Nat} {H : List Obj} (ha : a ≤ s.length) : SyR H a (qk4 s a) (zF pg 37 [.d (.s s), .d (.i .i64 (a : Nat))] H) := by
  have hl := fun v4 => qrR hz (v1 := (a : Int)) (v4 := v4) (H := H) (s.length - a) a true 0 0 rfl ha (by omega) (by omega)
  have hall := qlW cHx (s.drop a)
  have hle := qe7 cHx (s.drop a)
  simp only [List.length_drop] at hle
  have hz0 : ((0 : Nat) : Int) = 0 := rfl
  rw [kf (fn := f_waferref11_number) rfl rfl]
  unfold qk4
  generalize run cHx (s.drop a) = k at *
  generalize (s.drop a).take k = t at *
  have hd16 : ∀ c ∈ t, dg c < 16 := fun c hc => qt9 (hall c hc)
  have r16 := fun (mx : Nat) (h : mx < KK) => qxk h t 0 hd16 (Nat.zero_le _)
  have r10 := fun (mx : Nat) (h : mx < KK) => qwe h t 0 (Nat.zero_le _)
  have hHK := qpi t 0 (by unfold KK; omega)
  have hw1 : wr .i64 (((a + k : Nat) : Int) + 1) = ((a + k + 1 : Nat) : Int) := by rw [jn (by omega) (by omega)]; omega
  rw [hz0] at hl
  unfold qiP
  rw [r16 4294967295 (by decide), r16 255 (by decide), r10 2147483647 (by decide)]
  generalize qjo 0 t = h at *
  generalize qjY 0 t = d at *
  generalize qkE true t = p at *
  by_cases hp : pre [72] (s.drop (a + k)) = true
  · have hlt := qeh hp
    have h1 : (((a + k : Nat) : Int) < (s.length : Int)) = True := by rw [eq_iff_iff]; simp; omega
    have hix := ixA (qgT.1 hp)
    have e72 : (((72 : Nat) : Int) = 72) = True := by simp
    have e88 : (((72 : Nat) : Int) = 88) = False := by simp
    rw [if_pos hp]
    by_cases q : h ≤ 4294967295
    · have e1 : ((4294967295 : Int) < (h : Int)) = False := by rw [eq_iff_iff]; simp; omega
      rw [if_pos q]
      simp only [SyR, f_waferref11_number, jh, qm, qzP, Nat.reduceAdd, qp, qC, qD, qq, kC, qzN, qzT, qQ, zH, kN, ju, kT, qh, kQ, qP, ke, qd, qi, kO, Nat.reduceEqDiff, qK, reduceCtorEq, qJ, qF, qE, qw, zN, q9, zj, hl, zn, zz, kD, kY, qzS, qzV, Nat.reduceLT, jS, qzU, qzX, zK, zL, zE, jp, zD, ze, zo, qr, yu, qS, zw, zu, zr, kg, ji, ku, qzM, zg, kS, kZ, kz, kc, zf, qn, ki, qzY, zq, h1, decide_true, kW, zm, zi, ↓reduceIte, kM, hix, qAe, kx, qzR, ko, zT, qz6, qzL, zl, kB, k9, qbD, zB, qA, qG, kF, hw1, qB, qcC, qe5, qaz, kw, z8, zk, za, kh, Int.reduceEq, decide_false, qX, jz, e1, qV, qa8, Nat.reduceLeDiff, jF, qz9, qz3, qAa, ky, qT, kq, qO, qe, kV, zU, qI, kv, qj, qt, je, zJ, jj, qct, ja, jR, z7, js, jq, Nat.max_self, zO, kG, tok]
      all_goals rfl
    · have e1 : ((4294967295 : Int) < (h : Int)) = True := by rw [eq_iff_iff]; simp; omega
      rw [if_neg q]
      simp only [SyR, f_waferref11_number, jh, qm, qzP, Nat.reduceAdd, qp, qC, qD, qq, kC, qzN, qzT, qQ, zH, kN, ju, kT, qh, kQ, qP, ke, qd, qi, kO, Nat.reduceEqDiff, qK, reduceCtorEq, qJ, qF, qE, qw, zN, q9, zj, hl, zn, zz, kD, kY, qzS, qzV, Nat.reduceLT, jS, qzU, qzX, zK, zL, zE, jp, zD, ze, zo, qr, yu, qS, zw, zu, zr, kg, ji, ku, qzM, zg, kS, kZ, kz, kc, zf, qn, ki, qzY, zq, h1, decide_true, kW, zm, zi, ↓reduceIte, kM, hix, qAe, kx, qzR, ko, zT, qz6, qzL, zl, kB, k9, qbD, zB, qA, qG, kF, hw1, qB, qcC, qe5, qaz, kw, z8, zk, za, kh, Int.reduceEq, decide_false, qX, jz, e1, qT, kq, qO, qe, kV, zU, Nat.reduceLeDiff, jF, qz9, qz3, qAa, ky, qI, kv, qj, qt, je, zJ, jj, qct, ja, jR, z7, js, jq, Nat.max_self, zO, kG, tok]
      all_goals rfl
  · rw [if_neg hp]
    by_cases hp2 : pre [88] (s.drop (a + k)) = true
    · have hlt := qeh hp2
      have h1 : (((a + k : Nat) : Int) < (s.length : Int)) = True := by rw [eq_iff_iff]; simp; omega
      have hix := ixA (qgT.1 hp2)
      have e72 : (((88 : Nat) : Int) = 72) = False := by simp
      have e88 : (((88 : Nat) : Int) = 88) = True := by simp
      rw [if_pos hp2]
      by_cases q : h ≤ 255
      · have e1 : ((4294967295 : Int) < (h : Int)) = False := by rw [eq_iff_iff]; simp; omega
        have e2 : ((255 : Int) < (h : Int)) = False := by rw [eq_iff_iff]; simp; omega
        rw [if_pos q]
        simp only [SyR, f_waferref11_number, jh, qm, qzP, Nat.reduceAdd, qp, qC, qD, qq, kC, qzN, qzT, qQ, zH, kN, ju, kT, qh, kQ, qP, ke, qd, qi, kO, Nat.reduceEqDiff, qK, reduceCtorEq, qJ, qF, qE, qw, zN, q9, zj, hl, zn, zz, kD, kY, qzS, qzV, Nat.reduceLT, jS, qzU, qzX, zK, zL, zE, jp, zD, ze, zo, qr, yu, qS, zw, zu, zr, kg, ji, ku, qzM, zg, kS, kZ, kz, kc, zf, qn, ki, qzY, zq, h1, decide_true, kW, zm, zi, ↓reduceIte, kM, hix, qAe, kx, qzR, ko, Int.reduceEq, decide_false, zT, qAc, kB, zB, qzL, qA, qG, kF, hw1, qB, qcC, qe5, qaz, kw, z8, zk, za, kh, qAg, jz, e2, qX, e1, qV, qa8, Nat.reduceLeDiff, jF, qz9, qz3, qAa, ky, qT, kq, qO, qe, kV, zU, qI, kv, qj, qt, je, zJ, jj, qct, ja, jR, z7, js, jq, Nat.max_self, zO, kG, tok]
        all_goals rfl
      · have e2 : ((255 : Int) < (h : Int)) = True := by rw [eq_iff_iff]; simp; omega
        rw [if_neg q]
        simp only [SyR, f_waferref11_number, jh, qm, qzP, Nat.reduceAdd, qp, qC, qD, qq, kC, qzN, qzT, qQ, zH, kN, ju, kT, qh, kQ, qP, ke, qd, qi, kO, Nat.reduceEqDiff, qK, reduceCtorEq, qJ, qF, qE, qw, zN, q9, zj, hl, zn, zz, kD, kY, qzS, qzV, Nat.reduceLT, jS, qzU, qzX, zK, zL, zE, jp, zD, ze, zo, qr, yu, qS, zw, zu, zr, kg, ji, ku, qzM, zg, kS, kZ, kz, kc, zf, qn, ki, qzY, zq, h1, decide_true, kW, zm, zi, ↓reduceIte, kM, hix, qAe, kx, qzR, ko, Int.reduceEq, decide_false, zT, qAc, kB, zB, qzL, qA, qG, kF, hw1, qB, qcC, qe5, qaz, kw, z8, zk, za, kh, qAg, jz, e2, qT, kq, qO, qe, kV, zU, Nat.reduceLeDiff, jF, qz9, qz3, qAa, ky, qI, kv, qj, qt, je, zJ, jj, qct, ja, jR, z7, js, jq, Nat.max_self, zO, kG, tok]
        all_goals rfl
    · rw [if_neg hp2]
      have hdu : d ≤ 2147483647 → wr .u32 (d : Int) = (d : Int) := fun h => quI (by omega) (by omega)
      have tail : ∀ X, X = qha H false [.cell 4 ⟨5, true⟩, .t 5] (exL pg f_waferref11_number.body ⟨ye 0 [.d (.s s), .d (.i .i64 (a : Nat))], H, H.length⟩) → SyR H a (match (if p = true ∧ d ≤ 2147483647 then some d else none) with | none => Sy.bad 30 | some u => .ok 2 [] (wr .i32 (wr .u32 (u : Nat))) (a + k)) X := by
        intro X hX
        rw [hX]
        have cases72 : (∃ c, (((a + k : Nat) : Int) < (s.length : Int)) = True ∧ ixV (.d (.s s)) (.d (.i .i64 ((a + k : Nat) : Int))) = some (.d (.i .u8 ((c : Nat) : Int))) ∧ (((c : Nat) : Int) = 72) = False ∧ (((c : Nat) : Int) = 88) = False) ∨ (((a + k : Nat) : Int) < (s.length : Int)) = False := by
          by_cases hlt : a + k < s.length
          · left
            have hg := qAf hlt
            refine ⟨s[a + k], by rw [eq_iff_iff]; simp; omega, ixA hg, eq_false (fun h => hp (qgT.2 (by rw [hg]; exact congrArg some (by exact_mod_cast h)))), eq_false (fun h => hp2 (qgT.2 (by rw [hg]; exact congrArg some (by exact_mod_cast h))))⟩
          · right; rw [eq_iff_iff]; simp; omega
        by_cases q : p = true ∧ d ≤ 2147483647
        · have e1 : ((2147483647 : Int) < (d : Int)) = False := by rw [eq_iff_iff]; simp; omega
          rw [if_pos q]
          simp only [q.1] at hl
          have hd2 := hdu q.2
          rcases cases72 with ⟨c, h1, hix, e72, e88⟩ | h1
          · simp only [SyR, f_waferref11_number, jh, qm, qzP, Nat.reduceAdd, qp, qC, qD, qq, kC, qzN, qzT, qQ, zH, kN, ju, kT, qh, kQ, qP, ke, qd, qi, kO, Nat.reduceEqDiff, qK, reduceCtorEq, qJ, qF, qE, qw, zN, q9, zj, hl, zn, zz, kD, kY, qzS, qzV, Nat.reduceLT, jS, qzU, qzX, zK, zL, zE, jp, zD, ze, zo, qr, yu, qS, zw, zu, zr, kg, ji, ku, qzM, zg, kS, kZ, kz, kc, zf, qn, ki, qzY, zq, h1, decide_true, kW, zm, zi, ↓reduceIte, kM, hix, kx, qzR, ko, e72, decide_false, zT, qAc, e88, kB, zB, qzL, qA, qG, qX, qaR, qcH, qz6, qzW, jz, e1, z8, qB, qcC, qe5, zk, za, qaz, kh, kw, qV, qa8, Nat.reduceLeDiff, jF, qz9, qz3, qAa, ky, qT, qO, qe, kV, zU, qI, kv, qj, qt, je, zJ, jj, qct, ja, jR, z7, js, jq, Nat.max_self, zO, kG, tok, hd2]
            all_goals rfl
          · simp only [SyR, f_waferref11_number, jh, qm, qzP, Nat.reduceAdd, qp, qC, qD, qq, kC, qzN, qzT, qQ, zH, kN, ju, kT, qh, kQ, qP, ke, qd, qi, kO, Nat.reduceEqDiff, qK, reduceCtorEq, qJ, qF, qE, qw, zN, q9, zj, hl, zn, zz, kD, kY, qzS, qzV, Nat.reduceLT, jS, qzU, qzX, zK, zL, zE, jp, zD, ze, zo, qr, yu, qS, zw, zu, zr, kg, ji, ku, qzM, zg, kS, kZ, kz, kc, zf, qn, ki, qzY, zq, h1, decide_false, kW, zm, zi, qzL, ↓reduceIte, zl, qgd, kB, k9, yc, qA, qG, qX, qaR, qcH, qz6, qzW, zT, qAc, kx, qzR, jz, e1, zB, z8, qB, qcC, qe5, zk, za, qaz, kh, kw, qV, qa8, Nat.reduceLeDiff, jF, qz9, qz3, qAa, ky, qT, qO, qe, kV, zU, qI, kv, qj, qt, je, zJ, jj, qct, ja, jR, z7, js, jq, Nat.max_self, zO, kG, tok, hd2]
            all_goals rfl
        · rw [if_neg q]
          cases hpp : p with
          | false =>
            simp only [hpp] at hl
            rcases cases72 with ⟨c, h1, hix, e72, e88⟩ | h1
            · simp only [SyR, f_waferref11_number, jh, qm, qzP, Nat.reduceAdd, qp, qC, qD, qq, kC, qzN, qzT, qQ, zH, kN, ju, kT, qh, kQ, qP, ke, qd, qi, kO, Nat.reduceEqDiff, qK, reduceCtorEq, qJ, qF, qE, qw, zN, q9, zj, hl, zn, zz, kD, kY, qzS, qzV, Nat.reduceLT, jS, qzU, qzX, zK, zL, zE, jp, zD, ze, zo, qr, yu, qS, zw, zu, zr, kg, ji, ku, qzM, zg, kS, kZ, kz, kc, zf, qn, ki, qzY, zq, h1, decide_true, kW, zm, zi, ↓reduceIte, kM, hix, kx, qzR, ko, e72, decide_false, zT, qAc, e88, kB, zB, qzL, qA, qG, qX, qaR, qcH, qzW, qz6, zl, k9, qbD, qT, kq, qO, qe, kV, zU, Nat.reduceLeDiff, jF, qz9, qz3, qAa, ky, qI, kv, qj, qt, je, zJ, jj, qct, ja, jR, z7, js, jq, Nat.max_self, zO, kG, tok]
              all_goals rfl
            · simp only [SyR, f_waferref11_number, jh, qm, qzP, Nat.reduceAdd, qp, qC, qD, qq, kC, qzN, qzT, qQ, zH, kN, ju, kT, qh, kQ, qP, ke, qd, qi, kO, Nat.reduceEqDiff, qK, reduceCtorEq, qJ, qF, qE, qw, zN, q9, zj, hl, zn, zz, kD, kY, qzS, qzV, Nat.reduceLT, jS, qzU, qzX, zK, zL, zE, jp, zD, ze, zo, qr, yu, qS, zw, zu, zr, kg, ji, ku, qzM, zg, kS, kZ, kz, kc, zf, qn, ki, qzY, zq, h1, decide_false, kW, zm, zi, qzL, ↓reduceIte, zl, qgd, kB, k9, yc, qA, qG, qX, qaR, qcH, qAc, qzW, zT, qz6, qbD, qT, kq, qO, qe, kV, zU, Nat.reduceLeDiff, jF, qz9, qz3, qAa, ky, qI, kv, qj, qt, je, zJ, jj, qct, ja, jR, z7, js, jq, Nat.max_self, zO, kG, tok]
              all_goals rfl
          | true =>
            simp only [hpp] at hl
            have e1 : ((2147483647 : Int) < (d : Int)) = True := by rw [eq_iff_iff]; simp; by_cases hh : d ≤ 2147483647; exact absurd ⟨hpp, hh⟩ q; omega
            rcases cases72 with ⟨c, h1, hix, e72, e88⟩ | h1
            · simp only [SyR, f_waferref11_number, jh, qm, qzP, Nat.reduceAdd, qp, qC, qD, qq, kC, qzN, qzT, qQ, zH, kN, ju, kT, qh, kQ, qP, ke, qd, qi, kO, Nat.reduceEqDiff, qK, reduceCtorEq, qJ, qF, qE, qw, zN, q9, zj, hl, zn, zz, kD, kY, qzS, qzV, Nat.reduceLT, jS, qzU, qzX, zK, zL, zE, jp, zD, ze, zo, qr, yu, qS, zw, zu, zr, kg, ji, ku, qzM, zg, kS, kZ, kz, kc, zf, qn, ki, qzY, zq, h1, decide_true, kW, zm, zi, ↓reduceIte, kM, hix, kx, qzR, ko, e72, decide_false, zT, qAc, e88, kB, zB, qzL, qA, qG, qX, qaR, qcH, qz6, qzW, jz, e1, qT, kq, qO, qe, kV, zU, Nat.reduceLeDiff, jF, qz9, qz3, qAa, ky, qI, kv, qj, qt, je, zJ, jj, qct, ja, jR, z7, js, jq, Nat.max_self, zO, kG, tok]
              all_goals rfl
            · simp only [SyR, f_waferref11_number, jh, qm, qzP, Nat.reduceAdd, qp, qC, qD, qq, kC, qzN, qzT, qQ, zH, kN, ju, kT, qh, kQ, qP, ke, qd, qi, kO, Nat.reduceEqDiff, qK, reduceCtorEq, qJ, qF, qE, qw, zN, q9, zj, hl, zn, zz, kD, kY, qzS, qzV, Nat.reduceLT, jS, qzU, qzX, zK, zL, zE, jp, zD, ze, zo, qr, yu, qS, zw, zu, zr, kg, ji, ku, qzM, zg, kS, kZ, kz, kc, zf, qn, ki, qzY, zq, h1, decide_false, kW, zm, zi, qzL, ↓reduceIte, zl, qgd, kB, k9, yc, qA, qG, qX, qaR, qcH, qz6, qzW, zT, qAc, kx, qzR, jz, e1, decide_true, zB, qT, kq, qO, qe, kV, zU, Nat.reduceLeDiff, jF, qz9, qz3, qAa, ky, qI, kv, qj, qt, je, zJ, jj, qct, ja, jR, z7, js, jq, Nat.max_self, zO, kG, tok]
              all_goals rfl
      exact tail _ rfl
end W

set_option linter.unusedSimpArgs false
set_option linter.unusedVariables false
namespace W
open Go (IntKind BinOp UnOp)
set_option maxRecDepth 20000
theorem qn0 {s : List Nat} (hz : s.length ≤ 1000000000000) {v1 : Int} {v4 : List V} {H : List Obj} :
    ∀ (k j : Nat), s.length - j = k → j ≤ s.length → yd 1 [0, 1, 4, 7] (qbe pg (.d (.s s)) (.d (.i .i64 v1)) (.box v4) (.d (.i .i64 (j : Nat))) H H.length) = some (.nrm, ⟨[(0, .d (.s s)), (1, .d (.i .i64 v1)), (4, .box v4), (7, .d (.i .i64 ((j + run cNm (s.drop j) : Nat) : Int)))], H, H.length⟩) := by
  intro k
  induction k with
  | zero =>
    intro j hk hj
    obtain rfl : j = s.length := by omega
    have h1 : ((s.length : Int) < (s.length : Int)) = False := by simp
    rw [qcY]
    have hr : run cNm (s.drop s.length) = 0 := by simp [run]
    rw [hr]
    simp only [yF, q9, zj, qC, qD, qq, qh, kO, reduceCtorEq, qK, Nat.reduceEqDiff, qJ, qF, qE, qQ, ke, kc, zf, qr, qn, ki, qzY, zq, h1, decide_false, kW, zm, zi, qzL, ↓reduceIte, zl, qgd, kB, k9, kQ, yc, qd, qi, qA, qG, yO, jT, jC, qo, qs, qAg]
    all_goals rfl
  | succ k ih =>
    intro j hk hj
    have h1 : ((j : Int) < (s.length : Int)) = True := by rw [eq_iff_iff]; simp; omega
    have hlt : j < s.length := by omega
    have hdr := yR hlt
    have hix : ixV (.d (.s s)) (.d (.i .i64 (j : Int))) = some (.d (.i .u8 ((s[j] : Nat) : Int))) := ixA (qAf hlt)
    have hw : wr .i64 ((j : Int) + 1) = ((j + 1 : Nat) : Int) := by rw [jn (by omega) (by omega)]; omega
    rw [qcY, hdr]
    generalize s[j] = c at hix
    have hc1 := qh6 (c := c) (H := H)
    have hc2 := qgx (c := c) (H := H)
    have ih' := ih (j + 1) (by omega) (by omega)
    cases q1 : cLt c with
    | true =>
      rw [q1] at hc1
      have hr : j + run cNm (c :: s.drop (j + 1)) = j + 1 + run cNm (s.drop (j + 1)) := by simp [run, cNm, q1]; omega
      rw [hr]
      simp only [yF, q9, zj, qC, qD, qq, qh, kO, reduceCtorEq, qK, Nat.reduceEqDiff, qJ, qF, qE, qQ, ke, kc, zf, qr, qn, ki, qzY, zq, h1, decide_true, kW, zm, zi, ↓reduceIte, kM, hix, qy, qzN, qzT, qf, qN, ql, qzM, qY, hc1, qz, qg, qk, qAb, zk, za, kh, zT, qz6, qzL, zl, kB, kQ, k9, qbD, zB, qd, qi, qA, qG, qX, qw, kx, qzR, kF, hw, qU, qo, qs, yK]
      exact ih'
    | false =>
      rw [q1] at hc1
      cases q2 : cDg c with
      | true =>
        rw [q2] at hc2
        have hr : j + run cNm (c :: s.drop (j + 1)) = j + 1 + run cNm (s.drop (j + 1)) := by simp [run, cNm, q1, q2]; omega
        rw [hr]
        simp only [yF, q9, zj, qC, qD, qq, qh, kO, reduceCtorEq, qK, Nat.reduceEqDiff, qJ, qF, qE, qQ, ke, kc, zf, qr, qn, ki, qzY, zq, h1, decide_true, kW, zm, zi, ↓reduceIte, kM, hix, qy, qzN, qzT, qf, qN, ql, qzM, qY, hc1, qz, qg, qk, qAb, zk, za, kh, zT, qAc, hc2, kB, kQ, zB, qzL, qd, qi, qA, qG, qX, qw, kx, qzR, kF, hw, qU, qo, qs, yK]
        exact ih'
      | false =>
        rw [q2] at hc2
        have hr : run cNm (c :: s.drop (j + 1)) = 0 := by simp [run, cNm, q1, q2]
        rw [hr]
        simp only [yF, q9, zj, qC, qD, qq, qh, kO, reduceCtorEq, qK, Nat.reduceEqDiff, qJ, qF, qE, qQ, ke, kc, zf, qr, qn, ki, qzY, zq, h1, decide_true, kW, zm, zi, ↓reduceIte, kM, hix, qy, qzN, qzT, qf, qN, ql, qzM, qY, hc1, qz, qg, qk, qAb, zk, za, kh, zT, qAc, hc2, kB, kQ, zB, qzL, qd, qi, qA, qG, yO, jT, jC, qo, qs, qAg]
        all_goals rfl
theorem qmG {s : List Nat} (hz : s.length ≤ 1000000000000) {a : Nat} {H : List Obj} (ha : a < s.length) : SyR H a (qiT s a) (zF pg 26 [.d (.s s), .d (.i .i64 (a : Nat))] H) := by
  have hL := yR ha
  have hix : ixV (.d (.s s)) (.d (.i .i64 (a : Int))) = some (.d (.i .u8 ((s[a] : Nat) : Int))) := ixA (qAf ha)
  have hsym : qiT s a = if cLt s[a] = true then qi8 s a else if cDg s[a] = true then qk4 s a else if s[a] = 34 then qhm s a else qi4 s a s[a] := by
    unfold qiT; rw [hL]
  rw [hsym]
  generalize s[a] = c at hix hL
  have hc1 := qh6 (c := c) (H := H)
  have hc2 := qgx (c := c) (H := H)
  rw [kf (fn := f_waferref11_symbol) rfl rfl]
  cases q1 : cLt c with
  | true =>
    rw [q1] at hc1
    rw [if_pos rfl]
    have hl := fun v4 => qn0 hz (v1 := (a : Int)) (v4 := v4) (H := H) (s.length - a) a rfl (by omega)
    have hle := qe7 cNm (s.drop a)
    have hlen : ((s.drop a).take (run cNm (s.drop a))).length = run cNm (s.drop a) := by simp only [List.length_take]; omega
    simp only [List.length_drop] at hle
    unfold qi8
    have hmid := qiG (l := s) (a := a) (b := a + run cNm (s.drop a)) (by omega) (by omega)
    have hmm : (s.take (a + run cNm (s.drop a))).drop a = (s.drop a).take (run cNm (s.drop a)) := by
      rw [List.drop_take]; congr 1; omega
    rw [hmm] at hmid
    generalize run cNm (s.drop a) = k at *
    generalize (s.drop a).take k = t at *
    have hw1 : wr .i64 (((a + k : Nat) : Int) - (a : Int)) = (k : Int) := by rw [jn (by omega) (by omega)]; omega
    have hkw := qlE (t := t) (H := H)
    by_cases h32 : 32 < k
    · have e1 : ((32 : Int) < (k : Int)) = True := by rw [eq_iff_iff]; simp; omega
      rw [if_pos h32]
      simp only [SyR, f_waferref11_symbol, qbh, qm, qzP, Nat.reduceAdd, qp, qC, qD, qq, kC, qzN, qzT, qQ, zH, kN, ju, kT, qh, kQ, qP, ke, qd, qi, kO, reduceCtorEq, qK, qJ, qF, qE, Nat.reduceEqDiff, kM, hix, qr, qw, qy, qf, qN, ql, qzM, qY, hc1, qz, qg, qk, qAb, zk, za, kh, qA, qG, ↓reduceIte, yK, q9, zj, hl, qn, ki, qzY, zt, hw1, kx, qzR, jz, e1, decide_true, zn, zK, zL, zE, jp, zD, ze, zo, qS, zw, zu, zr, qzS, qzV, kg, kY, zz, ji, ku, zg, kS, kZ, kz, qT, kq, kK, qO, qe, kV, zU, Nat.reduceLeDiff, jF, qz9, qz3, qAa, ky, qI, kv, qj, qt, je, zJ, jj, qct, ja, jR, z7, js, jq, Nat.max_self, zO, kG, tok]
      all_goals rfl
    · have e1 : ((32 : Int) < (k : Int)) = False := by rw [eq_iff_iff]; simp; omega
      rw [if_neg h32]
      by_cases hk : t ∈ KW
      · rw [if_pos hk]
        rw [decide_eq_true hk] at hkw
        simp only [SyR, f_waferref11_symbol, qbh, qm, qzP, Nat.reduceAdd, qp, qC, qD, qq, kC, qzN, qzT, qQ, zH, kN, ju, kT, qh, kQ, qP, ke, qd, qi, kO, reduceCtorEq, qK, qJ, qF, qE, Nat.reduceEqDiff, kM, hix, qr, qw, qy, qf, qN, ql, qzM, qY, hc1, qz, qg, qk, qAb, zk, za, kh, qA, qG, ↓reduceIte, yK, q9, zj, hl, qn, ki, qzY, zt, hw1, kx, qzR, jz, e1, decide_false, qzL, qX, jA, jP, qcc, yx, hmid, zn, zz, kD, kY, qzS, qzV, Nat.reduceLT, jS, qzU, qzX, ji, zK, zL, zE, jp, zD, ze, zo, yu, qS, zw, zu, zr, kg, ku, zg, kS, kZ, kz, qB, qcC, qe5, qV, qaz, qa8, qiu, qzQ, qzO, qzW, ky, hkw, qAg, kw, Nat.reduceLeDiff, jF, qz9, qz3, qAa, qT, kK, kq, qO, qe, kV, zU, qI, kv, qj, qt, je, zJ, jj, qct, ja, jR, z7, js, jq, Nat.max_self, zO, kG, tok]
        all_goals rfl
      · rw [if_neg hk]
        rw [decide_eq_false hk] at hkw
        simp only [SyR, f_waferref11_symbol, qbh, qm, qzP, Nat.reduceAdd, qp, qC, qD, qq, kC, qzN, qzT, qQ, zH, kN, ju, kT, qh, kQ, qP, ke, qd, qi, kO, reduceCtorEq, qK, qJ, qF, qE, Nat.reduceEqDiff, kM, hix, qr, qw, qy, qf, qN, ql, qzM, qY, hc1, qz, qg, qk, qAb, zk, za, kh, qA, qG, ↓reduceIte, yK, q9, zj, hl, qn, ki, qzY, zt, hw1, kx, qzR, jz, e1, decide_false, qzL, qX, jA, jP, qcc, yx, hmid, zn, zz, kD, kY, qzS, qzV, Nat.reduceLT, jS, qzU, qzX, ji, zK, zL, zE, jp, zD, ze, zo, yu, qS, zw, zu, zr, kg, ku, zg, kS, kZ, kz, qB, qcC, qe5, qV, qaz, qa8, qiu, qzQ, qzO, qzW, ky, hkw, Nat.reduceLeDiff, jF, qz9, qz3, qAa, qT, kK, kq, qO, qe, kV, zU, qI, kv, qj, qt, je, zJ, jj, qct, ja, jR, z7, js, jq, Nat.max_self, zO, kG, tok]
        all_goals rfl
  | false =>
    rw [q1] at hc1
    rw [if_neg (by simp)]
    cases q2 : cDg c with
    | true =>
      rw [q2] at hc2
      rw [if_pos rfl]
      have hn := qmv hz (a := a) (H := H) (by omega)
      generalize qk4 s a = r at hn
      cases r with
      | ok k t n a' =>
        simp only [SyR, tok] at hn
        simp only [SyR, f_waferref11_symbol, qm, qzP, Nat.reduceAdd, qp, qC, qD, qq, kC, qzN, qzT, qQ, zH, kN, ju, kT, qh, kQ, qP, ke, qd, qi, kO, reduceCtorEq, qK, qJ, qF, qE, Nat.reduceEqDiff, kM, hix, qr, qw, qy, qf, qN, ql, qzM, qY, hc1, qz, qg, qk, qAb, zk, za, kh, qA, qG, qzL, ↓reduceIte, hc2, hn, zl, zV, qbi, qbg, qbk, qS, zw, zu, zr, qzS, qzV, kg, kY, zz, ji, ku, zg, kS, kZ, kz, qT, kK, kq, qO, qe, kV, zU, Nat.reduceLeDiff, jF, qz9, qz3, qAa, ky, zE, jp, zD, ze, zo, qI, kv, qj, qt, je, zJ, jj, qct, ja, jR, z7, js, jq, Nat.max_self, zO, kG, tok]
        all_goals rfl
      | bad e =>
        simp only [SyR, tok] at hn
        simp only [SyR, f_waferref11_symbol, qm, qzP, Nat.reduceAdd, qp, qC, qD, qq, kC, qzN, qzT, qQ, zH, kN, ju, kT, qh, kQ, qP, ke, qd, qi, kO, reduceCtorEq, qK, qJ, qF, qE, Nat.reduceEqDiff, kM, hix, qr, qw, qy, qf, qN, ql, qzM, qY, hc1, qz, qg, qk, qAb, zk, za, kh, qA, qG, qzL, ↓reduceIte, hc2, hn, zl, zV, qbi, qbg, qbk, qS, zw, zu, zr, qzS, qzV, kg, kY, zz, ji, ku, zg, kS, kZ, kz, qT, kK, kq, qO, qe, kV, zU, Nat.reduceLeDiff, jF, qz9, qz3, qAa, ky, zE, jp, zD, ze, zo, qI, kv, qj, qt, je, zJ, jj, qct, ja, jR, z7, js, jq, Nat.max_self, zO, kG, tok]
        all_goals rfl
    | false =>
      rw [q2] at hc2
      rw [if_neg (by simp)]
      by_cases h34 : c = 34
      · have e34 : ((c : Int) = 34) = True := by rw [eq_iff_iff]; simp; omega
        rw [if_pos h34]
        have hn := qnM hz (a := a) (H := H) ha
        generalize qhm s a = r at hn
        cases r with
        | ok k t n a' =>
          simp only [SyR, tok] at hn
          simp only [SyR, f_waferref11_symbol, qm, qzP, Nat.reduceAdd, qp, qC, qD, qq, kC, qzN, qzT, qQ, zH, kN, ju, kT, qh, kQ, qP, ke, qd, qi, kO, reduceCtorEq, qK, qJ, qF, qE, Nat.reduceEqDiff, kM, hix, qr, qw, qy, qf, qN, ql, qzM, qY, hc1, qz, qg, qk, qAb, zk, za, kh, qA, qG, qzL, ↓reduceIte, hc2, qn, ki, kx, qzR, ko, e34, decide_true, hn, zl, zV, qbi, qbg, qbk, qS, zw, zu, zr, qzS, qzV, kg, kY, zz, ji, ku, zg, kS, kZ, kz, qT, kK, kq, qO, qe, kV, zU, Nat.reduceLeDiff, jF, qz9, qz3, qAa, ky, zE, jp, zD, ze, zo, qI, kv, qj, qt, je, zJ, jj, qct, ja, jR, z7, js, jq, Nat.max_self, zO, kG, tok]
          all_goals rfl
        | bad e =>
          simp only [SyR, tok] at hn
          simp only [SyR, f_waferref11_symbol, qm, qzP, Nat.reduceAdd, qp, qC, qD, qq, kC, qzN, qzT, qQ, zH, kN, ju, kT, qh, kQ, qP, ke, qd, qi, kO, reduceCtorEq, qK, qJ, qF, qE, Nat.reduceEqDiff, kM, hix, qr, qw, qy, qf, qN, ql, qzM, qY, hc1, qz, qg, qk, qAb, zk, za, kh, qA, qG, qzL, ↓reduceIte, hc2, qn, ki, kx, qzR, ko, e34, decide_true, hn, zl, zV, qbi, qbg, qbk, qS, zw, zu, zr, qzS, qzV, kg, kY, zz, ji, ku, zg, kS, kZ, kz, qT, kK, kq, qO, qe, kV, zU, Nat.reduceLeDiff, jF, qz9, qz3, qAa, ky, zE, jp, zD, ze, zo, qI, kv, qj, qt, je, zJ, jj, qct, ja, jR, z7, js, jq, Nat.max_self, zO, kG, tok]
          all_goals rfl
      · have e34 : ((c : Int) = 34) = False := by rw [eq_iff_iff]; simp; omega
        rw [if_neg h34]
        have hw1 : wr .i64 ((a : Int) + 1) = ((a + 1 : Nat) : Int) := by rw [jn (by omega) (by omega)]; omega
        have hw2 : wr .i64 ((a : Int) + 2) = ((a + 2 : Nat) : Int) := by rw [jn (by omega) (by omega)]; omega
        have hmid1 := qiG (l := s) (a := a) (b := a + 1) (by omega) (by omega)
        have hmm1 : (s.take (a + 1)).drop a = [c] := by
          rw [List.drop_take, hL]; simp
        rw [hmm1] at hmid1
        have hsg := qpR (s := SG) (c := c) (by decide) (H := H)
        have hmem : (ixN c SG < 0) = (c ∉ SG) := qpq SG
        have fin : ∀ (w : List Nat), (((((a + 1 : Nat) : Int) < (s.length : Int)) = True ∧ (w = [60, 61]) = False ∧ (w = [62, 61]) = False ∧ (w = [58, 61]) = False ∧ (w = [46, 46]) = False ∧ qdO (.d (.s s)) (some (a : Int)) (some ((a + 2 : Nat) : Int)) = some (.d (.s w))) ∨ (((a + 1 : Nat) : Int) < (s.length : Int)) = False) →
            SyR H a (if ixN c SG < 0 then .bad 30 else .ok 5 [c] 0 (a + 1)) (qha H false [.cell 4 ⟨5, true⟩, .t 5] (exL pg f_waferref11_symbol.body ⟨ye 0 [.d (.s s), .d (.i .i64 (a : Nat))], H, H.length⟩)) := by
          intro w hw
          by_cases hm : c ∈ SG
          · rw [decide_eq_true hm] at hsg
            simp only [SG] at hsg
            rw [if_neg (by rw [hmem]; simpa using hm)]
            rcases hw with ⟨h1, w1, w2, w3, w4, hs2⟩ | h1
            · simp only [SyR, f_waferref11_symbol, jG, qm, qzP, Nat.reduceAdd, qp, qC, qD, qq, kC, qzN, qzT, qQ, zH, kN, ju, kT, qh, kQ, qP, ke, qd, qi, kO, reduceCtorEq, qK, qJ, qF, qE, Nat.reduceEqDiff, kM, hix, qr, qw, qy, qf, qN, ql, qzM, qY, hc1, qz, qg, qk, qAb, zk, za, kh, qA, qG, qzL, ↓reduceIte, hc2, qn, ki, kx, qzR, ko, e34, decide_false, qX, qU, qo, q9, zj, qs, kF, hw1, kc, zf, qzY, zq, h1, decide_true, hw2, jA, jP, qcc, yx, hs2, yM, w1, w2, w3, w4, hsg, hmid1, zn, zz, kD, kY, qzS, qzV, Nat.reduceLT, jS, qzU, qzX, ji, zK, zL, zE, jp, zD, ze, zo, qS, zw, zu, zr, kg, ku, zg, kS, kZ, kz, qT, kq, qO, qe, kV, zU, Nat.reduceLeDiff, jF, qz9, qz3, qAa, ky, qI, kv, qj, qt, je, zJ, jj, qct, ja, jR, z7, js, jq, Nat.max_self, zO, kG, tok]
              all_goals rfl
            · simp only [SyR, f_waferref11_symbol, jG, qm, qzP, Nat.reduceAdd, qp, qC, qD, qq, kC, qzN, qzT, qQ, zH, kN, ju, kT, qh, kQ, qP, ke, qd, qi, kO, reduceCtorEq, qK, qJ, qF, qE, Nat.reduceEqDiff, kM, hix, qr, qw, qy, qf, qN, ql, qzM, qY, hc1, qz, qg, qk, qAb, zk, za, kh, qA, qG, qzL, ↓reduceIte, hc2, qn, ki, kx, qzR, ko, e34, decide_false, qX, qU, qo, q9, zj, qs, kF, hw1, kc, zf, qzY, zq, h1, hsg, jA, jP, qcc, yx, hmid1, zn, zz, kD, kY, qzS, qzV, Nat.reduceLT, jS, qzU, qzX, ji, zK, zL, zE, jp, zD, ze, zo, qS, zw, zu, zr, kg, ku, zg, kS, kZ, kz, qT, kq, qO, qe, kV, zU, Nat.reduceLeDiff, jF, qz9, qz3, qAa, ky, qI, kv, qj, qt, je, zJ, jj, qct, ja, jR, z7, js, jq, Nat.max_self, zO, kG, tok]
              all_goals rfl
          · rw [decide_eq_false hm] at hsg
            simp only [SG] at hsg
            rw [if_pos (by rw [hmem]; exact hm)]
            rcases hw with ⟨h1, w1, w2, w3, w4, hs2⟩ | h1
            · simp only [SyR, f_waferref11_symbol, jG, qm, qzP, Nat.reduceAdd, qp, qC, qD, qq, kC, qzN, qzT, qQ, zH, kN, ju, kT, qh, kQ, qP, ke, qd, qi, kO, reduceCtorEq, qK, qJ, qF, qE, Nat.reduceEqDiff, kM, hix, qr, qw, qy, qf, qN, ql, qzM, qY, hc1, qz, qg, qk, qAb, zk, za, kh, qA, qG, qzL, ↓reduceIte, hc2, qn, ki, kx, qzR, ko, e34, decide_false, qX, qU, qo, q9, zj, qs, kF, hw1, kc, zf, qzY, zq, h1, decide_true, hw2, jA, jP, qcc, yx, hs2, yM, w1, w2, w3, w4, hsg, zn, zK, zL, zE, jp, zD, ze, zo, qS, zw, zu, zr, qzS, qzV, kg, kY, zz, ji, ku, zg, kS, kZ, kz, qT, qO, qe, kV, zU, Nat.reduceLeDiff, jF, qz9, qz3, qAa, ky, qI, kv, qj, qt, je, zJ, jj, qct, ja, jR, z7, js, jq, Nat.max_self, zO, kG, tok]
              all_goals rfl
            · simp only [SyR, f_waferref11_symbol, jG, qm, qzP, Nat.reduceAdd, qp, qC, qD, qq, kC, qzN, qzT, qQ, zH, kN, ju, kT, qh, kQ, qP, ke, qd, qi, kO, reduceCtorEq, qK, qJ, qF, qE, Nat.reduceEqDiff, kM, hix, qr, qw, qy, qf, qN, ql, qzM, qY, hc1, qz, qg, qk, qAb, zk, za, kh, qA, qG, qzL, ↓reduceIte, hc2, qn, ki, kx, qzR, ko, e34, decide_false, qX, qU, qo, q9, zj, qs, kF, hw1, kc, zf, qzY, zq, h1, hsg, zn, zK, zL, zE, jp, zD, ze, zo, qS, zw, zu, zr, qzS, qzV, kg, kY, zz, ji, ku, zg, kS, kZ, kz, qT, qO, qe, kV, zU, Nat.reduceLeDiff, jF, qz9, qz3, qAa, ky, qI, kv, qj, qt, je, zJ, jj, qct, ja, jR, z7, js, jq, Nat.max_self, zO, kG, tok]
              all_goals rfl
        unfold qi4
        by_cases hlt : a + 1 < s.length
        · have h1 : (((a + 1 : Nat) : Int) < (s.length : Int)) = True := by rw [eq_iff_iff]; simp; omega
          have hmid2 := qiG (l := s) (a := a) (b := a + 2) (by omega) (by omega)
          have hmm2 : (s.take (a + 2)).drop a = (s.drop a).take 2 := by
            rw [List.drop_take]; congr 1; omega
          rw [hmm2] at hmid2
          have hp : ∀ x y, (pre [x, y] (s.drop a) = true) = ((s.drop a).take 2 = [x, y]) := fun x y => by simp [pre]
          simp only [hp]
          generalize (s.drop a).take 2 = w at *
          by_cases w1 : w = [60, 61]
          · rw [if_pos w1]
            have e1 : (w = [60, 61]) = True := eq_true w1
            simp only [SyR, f_waferref11_symbol, jG, qm, qzP, Nat.reduceAdd, qp, qC, qD, qq, kC, qzN, qzT, qQ, zH, kN, ju, kT, qh, kQ, qP, ke, qd, qi, kO, reduceCtorEq, qK, qJ, qF, qE, Nat.reduceEqDiff, kM, hix, qr, qw, qy, qf, qN, ql, qzM, qY, hc1, qz, qg, qk, qAb, zk, za, kh, qA, qG, qzL, ↓reduceIte, hc2, qn, ki, kx, qzR, ko, e34, decide_false, qX, qU, qo, q9, zj, qs, kF, hw1, kc, zf, qzY, zq, h1, decide_true, hw2, jA, jP, qcc, yx, hmid2, yM, e1, zn, zz, kD, kY, qzS, qzV, Nat.reduceLT, jS, qzU, qzX, ji, zK, zL, zE, jp, zD, ze, zo, qS, zw, zu, zr, kg, ku, zg, kS, kZ, kz, qT, kK, kq, qO, qe, kV, zU, Nat.reduceLeDiff, jF, qz9, qz3, qAa, ky, qI, kv, qj, qt, je, zJ, jj, qct, ja, jR, z7, js, jq, Nat.max_self, zO, kG, tok]
            all_goals rw [w1]
          · rw [if_neg w1]
            have e1 : (w = [60, 61]) = False := eq_false w1
            by_cases w2 : w = [62, 61]
            · rw [if_pos w2]
              have e2 : (w = [62, 61]) = True := eq_true w2
              simp only [SyR, f_waferref11_symbol, jG, qm, qzP, Nat.reduceAdd, qp, qC, qD, qq, kC, qzN, qzT, qQ, zH, kN, ju, kT, qh, kQ, qP, ke, qd, qi, kO, reduceCtorEq, qK, qJ, qF, qE, Nat.reduceEqDiff, kM, hix, qr, qw, qy, qf, qN, ql, qzM, qY, hc1, qz, qg, qk, qAb, zk, za, kh, qA, qG, qzL, ↓reduceIte, hc2, qn, ki, kx, qzR, ko, e34, decide_false, qX, qU, qo, q9, zj, qs, kF, hw1, kc, zf, qzY, zq, h1, decide_true, hw2, jA, jP, qcc, yx, hmid2, yM, e1, e2, zn, zz, kD, kY, qzS, qzV, Nat.reduceLT, jS, qzU, qzX, ji, zK, zL, zE, jp, zD, ze, zo, qS, zw, zu, zr, kg, ku, zg, kS, kZ, kz, qT, kK, kq, qO, qe, kV, zU, Nat.reduceLeDiff, jF, qz9, qz3, qAa, ky, qI, kv, qj, qt, je, zJ, jj, qct, ja, jR, z7, js, jq, Nat.max_self, zO, kG, tok]
              all_goals rw [w2]
            · rw [if_neg w2]
              have e2 : (w = [62, 61]) = False := eq_false w2
              by_cases w3 : w = [58, 61]
              · rw [if_pos w3]
                have e3 : (w = [58, 61]) = True := eq_true w3
                simp only [SyR, f_waferref11_symbol, jG, qm, qzP, Nat.reduceAdd, qp, qC, qD, qq, kC, qzN, qzT, qQ, zH, kN, ju, kT, qh, kQ, qP, ke, qd, qi, kO, reduceCtorEq, qK, qJ, qF, qE, Nat.reduceEqDiff, kM, hix, qr, qw, qy, qf, qN, ql, qzM, qY, hc1, qz, qg, qk, qAb, zk, za, kh, qA, qG, qzL, ↓reduceIte, hc2, qn, ki, kx, qzR, ko, e34, decide_false, qX, qU, qo, q9, zj, qs, kF, hw1, kc, zf, qzY, zq, h1, decide_true, hw2, jA, jP, qcc, yx, hmid2, yM, e1, e2, e3, zn, zz, kD, kY, qzS, qzV, Nat.reduceLT, jS, qzU, qzX, ji, zK, zL, zE, jp, zD, ze, zo, qS, zw, zu, zr, kg, ku, zg, kS, kZ, kz, qT, kK, kq, qO, qe, kV, zU, Nat.reduceLeDiff, jF, qz9, qz3, qAa, ky, qI, kv, qj, qt, je, zJ, jj, qct, ja, jR, z7, js, jq, Nat.max_self, zO, kG, tok]
                all_goals rw [w3]
              · rw [if_neg w3]
                have e3 : (w = [58, 61]) = False := eq_false w3
                by_cases w4 : w = [46, 46]
                · rw [if_pos w4]
                  have e4 : (w = [46, 46]) = True := eq_true w4
                  simp only [SyR, f_waferref11_symbol, jG, qm, qzP, Nat.reduceAdd, qp, qC, qD, qq, kC, qzN, qzT, qQ, zH, kN, ju, kT, qh, kQ, qP, ke, qd, qi, kO, reduceCtorEq, qK, qJ, qF, qE, Nat.reduceEqDiff, kM, hix, qr, qw, qy, qf, qN, ql, qzM, qY, hc1, qz, qg, qk, qAb, zk, za, kh, qA, qG, qzL, ↓reduceIte, hc2, qn, ki, kx, qzR, ko, e34, decide_false, qX, qU, qo, q9, zj, qs, kF, hw1, kc, zf, qzY, zq, h1, decide_true, hw2, jA, jP, qcc, yx, hmid2, yM, e1, e2, e3, e4, zn, zz, kD, kY, qzS, qzV, Nat.reduceLT, jS, qzU, qzX, ji, zK, zL, zE, jp, zD, ze, zo, qS, zw, zu, zr, kg, ku, zg, kS, kZ, kz, qT, kK, kq, qO, qe, kV, zU, Nat.reduceLeDiff, jF, qz9, qz3, qAa, ky, qI, kv, qj, qt, je, zJ, jj, qct, ja, jR, z7, js, jq, Nat.max_self, zO, kG, tok]
                  all_goals rw [w4]
                · rw [if_neg w4]
                  exact fin w (.inl ⟨h1, e1, e2, e3, eq_false w4, hmid2⟩)
        · have h1 : (((a + 1 : Nat) : Int) < (s.length : Int)) = False := by rw [eq_iff_iff]; simp; omega
          have hnil : s.drop (a + 1) = [] := List.drop_eq_nil_of_le (by omega)
          rw [hL, hnil]
          simp only [qqY, qzL, if_false]
          exact fin [] (.inr h1)
end W

set_option linter.unusedSimpArgs false
set_option linter.unusedVariables false
namespace W
open Go (IntKind BinOp UnOp)
set_option maxRecDepth 20000
theorem qiY {s : List Nat} (hz : s.length ≤ 1000000000000) {H : List Obj} :
    ∀ (k j : Nat), s.length - j = k → j ≤ s.length → yd 2 [0, 1] (qbQ pg (.d (.s s)) (.d (.i .i64 (j : Nat))) H H.length) = some (.nrm, ⟨[(0, .d (.s s)), (1, .d (.i .i64 ((j + run blk (s.drop j) : Nat) : Int)))], H, H.length⟩) := by
  intro k
  induction k with
  | zero =>
    intro j hk hj
    obtain rfl : j = s.length := by omega
    have h1 : ((s.length : Int) < (s.length : Int)) = False := by simp
    rw [qdt]
    have hr : run blk (s.drop s.length) = 0 := by simp [run]
    rw [hr]
    simp only [qaM, q9, qC, qD, qq, qh, kO, reduceCtorEq, qK, qJ, qF, qE, qQ, ke, kc, zf, qr, qn, ki, qzY, Nat.reduceEqDiff, zq, h1, decide_false, kW, zm, zi, qzL, ↓reduceIte, zl, kB, k9, kQ, yc, qd, qi, qA, qG, yO, jT, jC, qo, qs, qAg]
    all_goals rfl
  | succ k ih =>
    intro j hk hj
    have h1 : ((j : Int) < (s.length : Int)) = True := by rw [eq_iff_iff]; simp; omega
    have hlt : j < s.length := by omega
    have hdr := yR hlt
    have hix : ixV (.d (.s s)) (.d (.i .i64 (j : Int))) = some (.d (.i .u8 ((s[j] : Nat) : Int))) := ixA (qAf hlt)
    have hw : wr .i64 ((j : Int) + 1) = ((j + 1 : Nat) : Int) := by rw [jn (by omega) (by omega)]; omega
    rw [qdt, hdr]
    generalize s[j] = c at hix
    have hc := qn2 (c := c) (H := H)
    have ih' := ih (j + 1) (by omega) (by omega)
    cases q1 : blk c with
    | true =>
      rw [q1] at hc
      have hr : j + run blk (c :: s.drop (j + 1)) = j + 1 + run blk (s.drop (j + 1)) := by simp [run, q1]; omega
      rw [hr]
      simp only [qaM, q9, qC, qD, qq, qh, kO, reduceCtorEq, qK, qJ, qF, qE, qQ, ke, kc, zf, qr, qn, ki, qzY, Nat.reduceEqDiff, zq, h1, decide_true, kW, zm, zi, ↓reduceIte, kM, hix, qy, qzN, qzT, qf, qN, ql, qzM, qY, hc, qz, qg, qk, qAb, kB, kQ, zB, qd, qi, qA, qG, qX, qw, kx, qzR, kF, hw, qU, qo, qs, j9]
      exact ih'
    | false =>
      rw [q1] at hc
      have hr : run blk (c :: s.drop (j + 1)) = 0 := by simp [run, q1]
      rw [hr]
      simp only [qaM, q9, qC, qD, qq, qh, kO, reduceCtorEq, qK, qJ, qF, qE, qQ, ke, kc, zf, qr, qn, ki, qzY, Nat.reduceEqDiff, zq, h1, decide_true, kW, zm, zi, ↓reduceIte, kM, hix, qy, qzN, qzT, qf, qN, ql, qzM, qY, hc, qz, qg, qk, qAb, kB, kQ, zB, qd, qi, qA, qG, qzL, yO, jT, jC, qo, qs, qAg]
      all_goals rfl
theorem qpa : ∀ (n : Nat) (l : List Nat) (f f' a : Nat), l.length ≤ n → sk 0 f a l = sk 0 f' a l := by
  intro n
  induction n with
  | zero =>
    intro l f f' a h
    obtain rfl : l = [] := List.length_eq_zero_iff.1 (by omega)
    simp [sk]
  | succ n ih =>
    intro l f f' a h
    match l, h with
    | [], _ => simp [sk]
    | [c], _ => simp [sk]
    | c :: d :: l, h =>
      simp only [qzS] at h
      rw [sk, sk]
      simp only [if_true, Nat.lt_irrefl, false_and, if_false, false_or]
      rw [ih (d :: l) f f' (a + 1) (by simp only [qzS]; omega)]
theorem qs2 {c a f : Nat} {l : List Nat} (h : blk c = true) : sk 0 f a (c :: l) = sk 0 f (a + 1) l := by
  match l with
  | [] => simp [sk, h]
  | d :: l =>
    have h40 : c ≠ 40 := by intro e; subst e; exact absurd h (by decide)
    rw [sk]
    simp [h40, h]
theorem qr9 (f : Nat) : ∀ (l : List Nat) (a : Nat), sk 0 f a l = sk 0 f (a + run blk l) (l.drop (run blk l))
  | [], a => by simp [run]
  | c :: l, a => by
    cases h : blk c with
    | true =>
      rw [qs2 h, qr9 f l (a + 1)]
      simp only [run, h, cond_true, List.drop_succ_cons]
      congr 1; omega
    | false => simp [run, h]
theorem qm2 (P : Nat → Bool) : ∀ (l : List Nat) (c : Nat) (r : List Nat), l.drop (run P l) = c :: r → P c = false
  | [], c, r, h => by simp [run] at h
  | x :: l, c, r, h => by
    cases hp : P x with
    | true =>
      simp only [run, hp, cond_true, List.drop_succ_cons] at h
      exact qm2 P l c r h
    | false =>
      simp only [run, hp, cond_false, qz9] at h
      injection h with h1 _
      rw [← h1]; exact hp
theorem qrY {f a c : Nat} {l : List Nat} (hb : blk c = false) (hn : ∀ d r, l = d :: r → ¬ (c = 40 ∧ d = 42)) : sk 0 f a (c :: l) = (true, a) := by
  match l, hn with
  | [], _ => simp [sk, hb]
  | d :: r, hn =>
    rw [sk, if_neg (hn d r rfl)]
    simp [hb]
theorem qrQ {s : List Nat} (hz : s.length ≤ 1000000000000) {frm : Nat} {H : List Obj} :
    ∀ (k i deep : Nat), s.length - i ≤ k → i ≤ s.length → 0 < deep → deep ≤ i →
      (sk deep frm i (s.drop i) = (false, frm) ∧ ∃ e, get 4 e = .d (.i .i64 (frm : Nat)) ∧ get 5 e = .d (.b false) ∧ yd 4 [0, 1] (jb pg (.d (.s s)) (.d (.i .i64 (i : Nat))) (.d (.i .i64 (frm : Nat))) (.d (.i .i64 (deep : Nat))) H H.length) = some (.ret, ⟨e, H, H.length⟩)) ∨
      (∃ i', i < i' ∧ i' ≤ s.length ∧ sk deep frm i (s.drop i) = sk 0 frm i' (s.drop i') ∧ yd 4 [0, 1] (jb pg (.d (.s s)) (.d (.i .i64 (i : Nat))) (.d (.i .i64 (frm : Nat))) (.d (.i .i64 (deep : Nat))) H H.length) = some (.nrm, ⟨[(0, .d (.s s)), (1, .d (.i .i64 (i' : Nat)))], H, H.length⟩)) := by
  intro k
  induction k with
  | zero =>
    intro i deep hk hi hd hdi
    obtain rfl : i = s.length := by omega
    have hw1 : wr .i64 ((s.length : Int) + 1) = ((s.length + 1 : Nat) : Int) := by rw [jn (by omega) (by omega)]; omega
    have h1 : ((s.length : Int) ≤ ((s.length + 1 : Nat) : Int)) = True := by rw [eq_iff_iff]; simp; omega
    left
    refine ⟨by rw [List.drop_length]; simp only [sk]; rw [if_neg (by omega)], ?_⟩
    rw [ya]
    simp only [jv, q9, qw, qC, qD, qq, qh, kO, reduceCtorEq, qK, qJ, qF, qE, qQ, ke, qn, ki, kx, qzR, kQ, kF, hw1, qr, kc, zf, qzY, Nat.reduceEqDiff, jd, h1, decide_true, qd, qi, qA, qG, ↓reduceIte, qP, qT, kK, kq]
    exact ⟨_, rfl, rfl, rfl⟩
  | succ k ih =>
    intro i deep hk hi hd hdi
    have hw1 : wr .i64 ((i : Int) + 1) = ((i + 1 : Nat) : Int) := by rw [jn (by omega) (by omega)]; omega
    have hw2 : wr .i64 ((i : Int) + 2) = ((i + 2 : Nat) : Int) := by rw [jn (by omega) (by omega)]; omega
    by_cases hend : s.length ≤ i + 1
    · have h1 : ((s.length : Int) ≤ ((i + 1 : Nat) : Int)) = True := by rw [eq_iff_iff]; simp; omega
      left
      refine ⟨?_, ?_⟩
      · match hL : s.drop i with
        | [] => simp only [sk]; rw [if_neg (by omega)]
        | [c] => simp only [sk]; rw [if_neg (by omega)]
        | c :: d :: l =>
          have := congrArg List.length hL
          simp only [List.length_drop, qzS] at this
          omega
      · rw [ya]
        simp only [jv, q9, qw, qC, qD, qq, qh, kO, reduceCtorEq, qK, qJ, qF, qE, qQ, ke, qn, ki, kx, qzR, kQ, kF, hw1, qr, kc, zf, qzY, Nat.reduceEqDiff, jd, h1, decide_true, qd, qi, qA, qG, ↓reduceIte, qP, qT, kK, kq]
        exact ⟨_, rfl, rfl, rfl⟩
    · have h1 : ((s.length : Int) ≤ ((i + 1 : Nat) : Int)) = False := by rw [eq_iff_iff]; simp; omega
      have hlt : i < s.length := by omega
      have hlt1 : i + 1 < s.length := by omega
      have hL : s.drop i = s[i] :: s[i + 1] :: s.drop (i + 2) := by rw [yR hlt, yR hlt1]
      have hL1 : s.drop (i + 1) = s[i + 1] :: s.drop (i + 2) := yR hlt1
      have hix : ixV (.d (.s s)) (.d (.i .i64 (i : Int))) = some (.d (.i .u8 ((s[i] : Nat) : Int))) := ixA (qAf hlt)
      have hix1 : ixV (.d (.s s)) (.d (.i .i64 ((i + 1 : Nat) : Int))) = some (.d (.i .u8 ((s[i + 1] : Nat) : Int))) := ixA (qAf hlt1)
      rw [hL]
      generalize s[i] = c at hix hL
      generalize s[i + 1] = d at hix1 hL hL1
      have e1 : ((c : Int) = 40) = (c = 40) := by rw [eq_iff_iff]; omega
      have e2 : ((d : Int) = 42) = (d = 42) := by rw [eq_iff_iff]; omega
      have e3 : ((c : Int) = 42) = (c = 42) := by rw [eq_iff_iff]; omega
      have e4 : ((d : Int) = 41) = (d = 41) := by rw [eq_iff_iff]; omega
      have hdn : ((deep : Int) = 0) = False := by rw [eq_iff_iff]; simp; omega
      have go1 : (¬ (c = 40 ∧ d = 42)) → (¬ (c = 42 ∧ d = 41)) → yd 4 [0, 1] (jb pg (.d (.s s)) (.d (.i .i64 (i : Nat))) (.d (.i .i64 (frm : Nat))) (.d (.i .i64 (deep : Nat))) H H.length) = yd 4 [0, 1] (jb pg (.d (.s s)) (.d (.i .i64 ((i + 1 : Nat) : Int))) (.d (.i .i64 (frm : Nat))) (.d (.i .i64 (deep : Nat))) H H.length) := by
        intro n1 n2
        rw [ya]
        by_cases q1 : c = 40
        · have q2 : (d = 42) = False := eq_false (fun h => n1 ⟨q1, h⟩)
          have q3 : (c = 42) = False := eq_false (by omega)
          have q1 : (c = 40) = True := eq_true q1
          simp only [jv, q9, qw, qC, qD, qq, qh, kO, reduceCtorEq, qK, qJ, qF, qE, qQ, ke, qn, ki, kx, qzR, kQ, kF, hw1, qr, kc, zf, qzY, Nat.reduceEqDiff, jd, h1, decide_false, qd, qi, qA, qG, qzL, ↓reduceIte, kM, hix, ko, e1, q1, decide_true, kW, zm, zi, hix1, e2, q2, kB, zB, e3, q3, zl, k9, yc, qU, qo, qs, hdn, qX, jO]
          all_goals rfl
        · by_cases q3 : c = 42
          · have q4 : (d = 41) = False := eq_false (fun h => n2 ⟨q3, h⟩)
            have q3 : (c = 42) = True := eq_true q3
            simp only [jv, q9, qw, qC, qD, qq, qh, kO, reduceCtorEq, qK, qJ, qF, qE, qQ, ke, qn, ki, kx, qzR, kQ, kF, hw1, qr, kc, zf, qzY, Nat.reduceEqDiff, jd, h1, decide_false, qd, qi, qA, qG, qzL, ↓reduceIte, kM, hix, ko, e1, q1, kW, zm, zi, zl, kB, k9, yc, e3, q3, decide_true, hix1, e4, q4, zB, qU, qo, qs, hdn, qX, jO]
            all_goals rfl
          · simp only [jv, q9, qw, qC, qD, qq, qh, kO, reduceCtorEq, qK, qJ, qF, qE, qQ, ke, qn, ki, kx, qzR, kQ, kF, hw1, qr, kc, zf, qzY, Nat.reduceEqDiff, jd, h1, decide_false, qd, qi, qA, qG, qzL, ↓reduceIte, kM, hix, ko, e1, q1, kW, zm, zi, zl, kB, k9, yc, e3, q3, qU, qo, qs, hdn, qX, jO]
            all_goals rfl
      by_cases c1 : c = 40 ∧ d = 42
      · have hd1 : wr .i64 ((deep : Int) + 1) = ((deep + 1 : Nat) : Int) := by rw [jn (by omega) (by omega)]; omega
        have hdn1 : (((deep + 1 : Nat) : Int) = 0) = False := by rw [eq_iff_iff]; simp; omega
        rw [sk, if_pos c1, if_neg (by omega)]
        have go2 : yd 4 [0, 1] (jb pg (.d (.s s)) (.d (.i .i64 (i : Nat))) (.d (.i .i64 (frm : Nat))) (.d (.i .i64 (deep : Nat))) H H.length) = yd 4 [0, 1] (jb pg (.d (.s s)) (.d (.i .i64 ((i + 2 : Nat) : Int))) (.d (.i .i64 (frm : Nat))) (.d (.i .i64 ((deep + 1 : Nat) : Int))) H H.length) := by
          rw [ya]
          simp only [jv, q9, qw, qC, qD, qq, qh, kO, reduceCtorEq, qK, qJ, qF, qE, qQ, ke, qn, ki, kx, qzR, kQ, kF, hw1, qr, kc, zf, qzY, Nat.reduceEqDiff, jd, h1, decide_false, qd, qi, qA, qG, qzL, ↓reduceIte, kM, hix, c1.1, qAe, ko, decide_true, kW, zm, zi, hix1, c1.2, kB, zB, hd1, hw2, qU, qo, qs, hdn1, qX, jO]
          all_goals rfl
        rw [go2]
        rcases ih (i + 2) (deep + 1) (by omega) (by omega) (by omega) (by omega) with h | ⟨i', h2, h3, h4, h5⟩
        · exact .inl h
        · exact .inr ⟨i', by omega, h3, h4, h5⟩
      · by_cases c2 : c = 42 ∧ d = 41
        · have hd1 : wr .i64 ((deep : Int) - 1) = ((deep - 1 : Nat) : Int) := by rw [jn (by omega) (by omega)]; omega
          have c40 : (c = 40) = False := eq_false (by omega)
          rw [sk, if_neg c1, if_pos ⟨hd, c2⟩]
          by_cases hd0 : deep = 1
          · have hdn1 : (((deep - 1 : Nat) : Int) = 0) = True := by rw [eq_iff_iff]; simp; omega
            right
            refine ⟨i + 2, by omega, by omega, by rw [hd0], ?_⟩
            rw [ya]
            simp only [jv, q9, qw, qC, qD, qq, qh, kO, reduceCtorEq, qK, qJ, qF, qE, qQ, ke, qn, ki, kx, qzR, kQ, kF, hw1, qr, kc, zf, qzY, Nat.reduceEqDiff, jd, h1, decide_false, qd, qi, qA, qG, qzL, ↓reduceIte, kM, hix, c2.1, qAe, ko, Int.reduceEq, kW, zm, zi, zl, kB, k9, yc, decide_true, hix1, c2.2, zB, zt, hd1, hw2, qU, qo, qs, hdn1, yO, jC, jT]
            all_goals rfl
          · have hdn1 : (((deep - 1 : Nat) : Int) = 0) = False := by rw [eq_iff_iff]; simp; omega
            have go2 : yd 4 [0, 1] (jb pg (.d (.s s)) (.d (.i .i64 (i : Nat))) (.d (.i .i64 (frm : Nat))) (.d (.i .i64 (deep : Nat))) H H.length) = yd 4 [0, 1] (jb pg (.d (.s s)) (.d (.i .i64 ((i + 2 : Nat) : Int))) (.d (.i .i64 (frm : Nat))) (.d (.i .i64 ((deep - 1 : Nat) : Int))) H H.length) := by
              rw [ya]
              simp only [jv, q9, qw, qC, qD, qq, qh, kO, reduceCtorEq, qK, qJ, qF, qE, qQ, ke, qn, ki, kx, qzR, kQ, kF, hw1, qr, kc, zf, qzY, Nat.reduceEqDiff, jd, h1, decide_false, qd, qi, qA, qG, qzL, ↓reduceIte, kM, hix, c2.1, qAe, ko, Int.reduceEq, kW, zm, zi, zl, kB, k9, yc, decide_true, hix1, c2.2, zB, zt, hd1, hw2, qU, qo, qs, hdn1, qX, jO]
              all_goals rfl
            rw [go2]
            rcases ih (i + 2) (deep - 1) (by omega) (by omega) (by omega) (by omega) with h | ⟨i', h2, h3, h4, h5⟩
            · exact .inl h
            · exact .inr ⟨i', by omega, h3, h4, h5⟩
        · rw [sk, if_neg c1, if_neg (fun h => c2 h.2), if_pos (.inl hd), go1 c1 c2, ← hL1]
          rcases ih (i + 1) deep (by omega) (by omega) hd (by omega) with h | ⟨i', h2, h3, h4, h5⟩
          · exact .inl h
          · exact .inr ⟨i', by omega, h3, h4, h5⟩
def RkR (H : List Obj) (r : Bool × Nat) (X : Option (Ex × St)) : Prop := ∃ e, get 4 e = .d (.i .i64 (r.2 : Nat)) ∧ get 5 e = .d (.b r.1) ∧ X = some (.ret, ⟨e, H, H.length⟩)
theorem qoq {s : List Nat} (hz : s.length ≤ 1000000000000) {H : List Obj} :
    ∀ (k i : Nat), s.length - i ≤ k → i ≤ s.length → RkR H (sk 0 0 i (s.drop i)) (yd 0 [4, 5] (qbU pg (.d (.s s)) (.d (.i .i64 (i : Nat))) H H.length)) := by
  intro k
  induction k with
  | zero =>
    intro i hk hi
    obtain rfl : i = s.length := by omega
    have hl := qiY hz (H := H) (s.length - s.length) s.length rfl (by omega)
    have hr : run blk (s.drop s.length) = 0 := by simp [run]
    rw [hr] at hl
    have hw1 : wr .i64 ((s.length : Int) + 1) = ((s.length + 1 : Nat) : Int) := by rw [jn (by omega) (by omega)]; omega
    have h1 : ((s.length : Int) ≤ ((s.length + 1 : Nat) : Int)) = True := by rw [eq_iff_iff]; simp; omega
    rw [qdw, List.drop_length]
    simp only [sk, ↓reduceIte, yg, yD, q9, qw, qC, j9, qJ, reduceCtorEq, qK, hl, qAg, qi, qD, qq, qh, kO, qF, qE, qQ, ke, qn, ki, kx, qzR, kQ, kF, hw1, qr, kc, zf, qzY, Nat.reduceEqDiff, jd, h1, decide_true, kW, zT, qz6, zi, qzL, zl, kB, k9, qbD, qd, qA, qG, qP, qT, kq, kK]
    exact ⟨_, rfl, rfl, rfl⟩
  | succ k ih =>
    intro i hk hi
    have hl := qiY hz (H := H) (s.length - i) i rfl (by omega)
    have hle := qe7 blk (s.drop i)
    simp only [List.length_drop] at hle
    have hst := qm2 blk (s.drop i)
    rw [qdw, qr9]
    rw [List.drop_drop] at *
    generalize run blk (s.drop i) = n at *
    have hw1 : wr .i64 (((i + n : Nat) : Int) + 1) = ((i + n + 1 : Nat) : Int) := by rw [jn (by omega) (by omega)]; omega
    have hw2 : wr .i64 (((i + n : Nat) : Int) + 2) = ((i + n + 2 : Nat) : Int) := by rw [jn (by omega) (by omega)]; omega
    generalize hj : i + n = j at *
    by_cases hend : s.length ≤ j + 1
    · have h1 : ((s.length : Int) ≤ ((j + 1 : Nat) : Int)) = True := by rw [eq_iff_iff]; simp; omega
      have hs : sk 0 0 j (s.drop j) = (true, j) := by
        match hL : s.drop j with
        | [] => simp [sk]
        | [c] => exact qrY (hst c [] hL) (fun d r h => by cases h)
        | c :: d :: l =>
          have := congrArg List.length hL
          simp only [List.length_drop, qzS] at this
          omega
      rw [hs]
      simp only [yg, yD, q9, qw, qC, j9, qJ, reduceCtorEq, qK, hl, qi, qD, qq, qh, kO, qF, qE, qQ, ke, qn, ki, kx, qzR, kQ, kF, hw1, qr, kc, zf, qzY, Nat.reduceEqDiff, jd, h1, decide_true, kW, zT, qz6, zi, qzL, ↓reduceIte, zl, kB, k9, qbD, qd, qA, qG, qP, qT, kq, kK]
      exact ⟨_, rfl, rfl, rfl⟩
    · have h1 : ((s.length : Int) ≤ ((j + 1 : Nat) : Int)) = False := by rw [eq_iff_iff]; simp; omega
      have hlt : j < s.length := by omega
      have hlt1 : j + 1 < s.length := by omega
      have hL : s.drop j = s[j] :: s[j + 1] :: s.drop (j + 2) := by rw [yR hlt, yR hlt1]
      have hix : ixV (.d (.s s)) (.d (.i .i64 (j : Int))) = some (.d (.i .u8 ((s[j] : Nat) : Int))) := ixA (qAf hlt)
      have hix1 : ixV (.d (.s s)) (.d (.i .i64 ((j + 1 : Nat) : Int))) = some (.d (.i .u8 ((s[j + 1] : Nat) : Int))) := ixA (qAf hlt1)
      rw [hL]
      generalize s[j] = c at hix hL
      generalize s[j + 1] = d at hix1 hL
      have hbc := hst c _ hL
      have e1 : ((c : Int) = 40) = (c = 40) := by rw [eq_iff_iff]; omega
      have e2 : ((d : Int) = 42) = (d = 42) := by rw [eq_iff_iff]; omega
      by_cases q1 : c = 40
      · by_cases q2 : d = 42
        · have hc := qrQ hz (frm := j) (H := H) (s.length - (j + 2)) (j + 2) 1 (qzZ _) (by omega) (by omega) (by omega)
          have hsk : sk 0 0 j (c :: d :: s.drop (j + 2)) = sk 1 j (j + 2) (s.drop (j + 2)) := by
            rw [sk, if_pos ⟨q1, q2⟩, if_pos rfl]
          rw [hsk]
          have w01 : wr .i64 (0 + 1) = ((1 : Nat) : Int) := rfl
          have w01' : wr .i64 1 = ((1 : Nat) : Int) := rfl
          have q3 : (((1 : Nat) : Int) = 0) = False := by simp
          have step : yd 4 [0, 1] (jb pg (.d (.s s)) (.d (.i .i64 (j : Nat))) (.d (.i .i64 (j : Nat))) (.d (.i .i64 0)) H H.length) = yd 4 [0, 1] (jb pg (.d (.s s)) (.d (.i .i64 ((j + 2 : Nat) : Int))) (.d (.i .i64 (j : Nat))) (.d (.i .i64 ((1 : Nat) : Int))) H H.length) := by
            rw [ya]
            simp only [jv, q9, qw, qC, qD, qq, qh, kO, reduceCtorEq, qK, qJ, qF, qE, qQ, ke, qn, ki, kx, qzR, kQ, kF, hw1, qr, kc, zf, qzY, Nat.reduceEqDiff, jd, h1, decide_false, qd, qi, qA, qG, qzL, ↓reduceIte, kM, hix, q1, qAe, ko, decide_true, kW, zm, zi, hix1, q2, kB, zB, Int.reduceAdd, w01', hw2, qU, qo, qs, Int.reduceEq, qX, jO]
            all_goals rfl
          rcases hc with ⟨g1, e, g2, g3, g4⟩ | ⟨i', g1, g2, g3, g4⟩
          · rw [g1]
            rw [g4] at step
            simp only [yg, yD, q9, qw, qC, j9, qJ, reduceCtorEq, qK, hl, qi, qD, qq, qh, kO, qF, qE, qQ, ke, qn, ki, kx, qzR, kQ, kF, hw1, qr, kc, zf, qzY, Nat.reduceEqDiff, jd, h1, decide_false, kW, zT, qAc, zi, ↓reduceIte, kM, hix, q1, qAe, qaJ, decide_true, qz6, kB, zB, qzL, hix1, q2, qd, qA, qG, qX, qP, jO, step, kK, kq]
            exact ⟨e, g2, g3, rfl⟩
          · rw [g3, qpa (s.drop i').length _ j 0 i' (qzZ _)]
            rw [g4] at step
            have ih' := ih i' (by omega) g2
            simp only [yg, yD, q9, qw, qC, j9, qJ, reduceCtorEq, qK, hl, qi, qD, qq, qh, kO, qF, qE, qQ, ke, qn, ki, kx, qzR, kQ, kF, hw1, qr, kc, zf, qzY, Nat.reduceEqDiff, jd, h1, decide_false, kW, zT, qAc, zi, ↓reduceIte, kM, hix, q1, qAe, qaJ, decide_true, qz6, kB, zB, qzL, hix1, q2, qd, qA, qG, qX, qP, jO, step, qU, qo, qs, qds]
            exact ih'
        · rw [qrY hbc (fun d' r h => by injection h with h' _; subst h'; exact fun h => q2 h.2)]
          simp only [yg, yD, q9, qw, qC, j9, qJ, reduceCtorEq, qK, hl, qi, qD, qq, qh, kO, qF, qE, qQ, ke, qn, ki, kx, qzR, kQ, kF, hw1, qr, kc, zf, qzY, Nat.reduceEqDiff, jd, h1, decide_false, kW, zT, qAc, zi, ↓reduceIte, kM, hix, q1, qAe, qaJ, decide_true, qz6, kB, zB, qzL, hix1, e2, q2, qd, qA, qG, qP, qT, kq, kK]
          exact ⟨_, rfl, rfl, rfl⟩
      · rw [qrY hbc (fun d' r h => fun h => q1 h.1)]
        simp only [yg, yD, q9, qw, qC, j9, qJ, reduceCtorEq, qK, hl, qi, qD, qq, qh, kO, qF, qE, qQ, ke, qn, ki, kx, qzR, kQ, kF, hw1, qr, kc, zf, qzY, Nat.reduceEqDiff, jd, h1, decide_false, kW, zT, qAc, zi, ↓reduceIte, kM, hix, qaJ, e1, q1, kB, zB, qzL, qz6, zl, k9, qbD, qd, qA, qG, qP, qT, kq, kK]
        exact ⟨_, rfl, rfl, rfl⟩
theorem qn7 {s : List Nat} (hz : s.length ≤ 1000000000000) {i : Nat} {H : List Obj} (hi : i ≤ s.length) : zF pg 25 [.d (.s s), .d (.i .i64 (i : Nat))] H = some ⟨false, true, .tup [.d (.i .i64 ((sk 0 i i (s.drop i)).2 : Nat)), .d (.b (sk 0 i i (s.drop i)).1)], H, H.length⟩ := by
  obtain ⟨e, g1, g2, g3⟩ := qoq hz (H := H) (s.length - i) i (qzZ _) hi
  rw [qpa (s.drop i).length _ i 0 i (qzZ _)]
  rw [kf (fn := qcE) rfl rfl]
  simp only [qcE, qm, qzP, Nat.reduceAdd, qp, qC, qD, qq, qh, kQ, qP, qQ, ke, qd, qi, qw, qds, reduceCtorEq, qK, qJ, q9, Nat.reduceEqDiff]
  rw [g3]
  simp only [qO, qe, qI, g1, kv, g2, qj, qt, je, zJ, jj, qct, ja, qzM, jR, z7, js, jq, Nat.max_self, zO, kG]
  all_goals rfl
end W

set_option linter.unusedSimpArgs false
set_option linter.unusedVariables false
namespace W
open Go (IntKind BinOp UnOp)
set_option maxRecDepth 20000
theorem qsB {s : List Nat} {j : Nat} (hj : j < s.length) {e : Int} (h : qiT s j = .bad e) : e = 30 ∨ e = 34 := by
  unfold qiT at h
  rw [yR hj] at h
  simp only at h
  split at h
  · unfold qi8 at h
    split at h
    · cases h; exact .inr rfl
    · split at h <;> cases h
  · split at h
    · unfold qk4 at h
      split at h
      · unfold qiP at h; split at h <;> cases h; exact .inl rfl
      · split at h
        · unfold qiP at h; split at h <;> cases h; exact .inl rfl
        · unfold qiP at h; split at h <;> cases h; exact .inl rfl
    · split at h
      · unfold qhm at h
        split at h
        · split at h <;> cases h; exact .inr rfl
        · cases h; exact .inl rfl
      · unfold qi4 at h
        split at h
        · cases h
        · split at h
          · cases h
          · split at h
            · cases h
            · split at h
              · cases h
              · split at h <;> cases h; exact .inl rfl
def RcR (H : List Obj) (r : Sum (Nat × Int) (List Tk)) (X : Option (Ex × St)) : Prop :=
  match r with
  | .inr L' => ∃ e, get 2 e = slV eTk L' ∧ get 3 e = .d (.i .i64 0) ∧ get 4 e = .d (.i .i64 0) ∧ X = some (.ret, ⟨e, H, H.length⟩)
  | .inl (p, x) => x ≠ 0 ∧ ∃ e, get 2 e = .d .nil ∧ get 3 e = .d (.i .i64 (p : Nat)) ∧ get 4 e = .d (.i .i64 x) ∧ X = some (.ret, ⟨e, H, H.length⟩)
theorem qoy {s : List Nat} (hz : s.length ≤ 1000000000000) {H : List Obj} :
    ∀ (f a : Nat) (L : List Tk), s.length - a < f → a ≤ s.length → L.length ≤ a →
      RcR H (qet s f a L) (yd 0 [2, 3, 4] (qbY pg (.d (.s s)) (slV eTk L) (.d (.i .i64 (a : Nat))) H H.length)) := by
  intro f
  induction f with
  | zero => intro a L h; omega
  | succ f ih =>
    intro a L hf ha hLa
    have hk := qn7 hz (i := a) (H := H) ha
    have hjl := fun j => qrb (s.drop a).length 0 a a (s.drop a) j (qzZ _)
    rw [qfT, qet]
    have hnx : qj5 s a = match sk 0 a a (s.drop a) with
      | (false, p) => .bad p 30
      | (true, j) => if j = s.length then .ok 0 j j [] 0 else qos j (qiT s j) := rfl
    have hpr := fun k p e t n => qiM ha (k := k) (p := p) (e := e) (t := t) (n := n)
    generalize sk 0 a a (s.drop a) = r at hk hjl hnx
    obtain ⟨b, j⟩ := r
    cases b with
    | false =>
      simp only at hnx
      rw [hnx]
      simp only [RcR, ne_eq, Int.reduceEq, not_false_eq_true, yY, q9, yQ, qw, qC, qD, qq, qh, kO, qJ, qF, qE, qQ, ke, zk, Nat.reduceEqDiff, qK, reduceCtorEq, za, kh, qy, qzN, qzT, qf, qN, ql, qzM, qY, hk, qz, qg, qk, qAb, zl, k9, zV, qbi, qbg, qr, qbk, qd, qi, qaR, qcH, qAc, qzW, qA, qG, ↓reduceIte, kQ, qP, qT, kq, kK]
      exact ⟨by decide, _, rfl, rfl, rfl, rfl⟩
    | true =>
      have hjr := hjl j rfl
      simp only [List.length_drop] at hjr
      simp only at hnx
      by_cases hj : j = s.length
      · have e1 : ((s.length : Int) ≤ (j : Int)) = True := by rw [eq_iff_iff]; simp; omega
        rw [if_pos hj] at hnx
        rw [hnx]
        have happ : qaU 5 48 (slV eTk L) (.d (.sl [.agg [.i .i64 0, .i .i64 (s.length : Nat), .i .i64 (s.length : Nat), .s [], .i .i32 0]])) = some (slV eTk (L ++ [⟨0, j, j, [], 0⟩])) := by
          rw [hj]
          exact qki (x := (⟨0, s.length, s.length, [], 0⟩ : Tk)) (fun _ => rfl) (qkj (by omega) (by omega))
        simp only [RcR, ↓reduceIte, yY, q9, yQ, qw, qC, qD, qq, qh, kO, qJ, qF, qE, qQ, ke, zk, Nat.reduceEqDiff, qK, reduceCtorEq, za, kh, qy, qzN, qzT, qf, qN, ql, qzM, qY, hk, qz, qg, qk, qAb, zl, k9, zV, qbi, qbg, qr, qbk, qd, qi, qaR, qcH, qz6, qzW, qA, qG, qzL, qX, kc, zf, qn, ki, qzY, jd, e1, decide_true, qfJ, qfm, zn, zz, kD, kY, qzS, qzV, qzP, Nat.reduceAdd, Nat.reduceLT, jS, qzX, qzU, zK, zL, zE, jp, zD, ze, zo, kP, qdZ, List.reduceReplicate, zI, zW, jk, qiE, qdo, ji, qd1, jI, jl, yz, qeP, jc, happ, qgV, kQ, qP, qT, kq, kK]
        exact ⟨_, rfl, rfl, rfl, rfl⟩
      · have e1 : ((s.length : Int) ≤ (j : Int)) = False := by rw [eq_iff_iff]; simp; omega
        rw [if_neg hj] at hnx
        have hjlt : j < s.length := by omega
        have hs := qmG hz (a := j) (H := H) hjlt
        have hsp := fun k t n a' => qnN (s := s) (j := j) (k := k) (t := t) (n := n) (a' := a')
        have hsb := fun e => qsB (s := s) (j := j) hjlt (e := e)
        rw [hnx]
        generalize qiT s j = r at hs hsp hsb
        cases r with
        | bad x =>
          have hx := hsb x rfl
          have x0 : (x = 0) = False := by rw [eq_iff_iff]; simp; omega
          simp only [SyR, tok] at hs
          simp only [RcR, qos, ne_eq, x0, not_false_eq_true, yY, q9, yQ, qw, qC, qD, qq, qh, kO, qJ, qF, qE, qQ, ke, zk, Nat.reduceEqDiff, qK, reduceCtorEq, za, kh, qy, qzN, qzT, qf, qN, ql, qzM, qY, hk, qz, qg, qk, qAb, zl, k9, zV, qbi, qbg, qr, qbk, qd, qi, qaR, qcH, qz6, qzW, qA, qG, qzL, ↓reduceIte, qX, kc, zf, qn, ki, qzY, jd, e1, decide_false, hs, kC, zH, kN, ju, qbK, qjd, qln, kT, qS, zw, zu, zr, qzS, qzV, qzP, Nat.reduceAdd, kg, kY, zz, ji, ku, zg, kS, kZ, kz, kx, qzR, kQ, qaJ, qAc, qP, qT, kq, kK]
          exact ⟨by simp, _, rfl, rfl, rfl, rfl⟩
        | ok k t n a' =>
          obtain ⟨g1, g2, g3⟩ := hsp k t n a' rfl
          simp only [SyR, tok] at hs
          have happ : qaU 5 48 (slV eTk L) (.d (.sl [.agg [.i .i64 k, .i .i64 (j : Nat), .i .i64 (a' : Nat), .s t, .i .i32 n]])) = some (slV eTk (L ++ [⟨k, j, a', t, n⟩])) :=
            qki (x := (⟨k, j, a', t, n⟩ : Tk)) (fun _ => rfl) (qkj (by omega) (by omega))
          have ih' := ih a' (L ++ [⟨k, j, a', t, n⟩]) (by omega) (by omega) (by simp only [List.length_append, qzS, qzV]; omega)
          simp only [qos, g3, if_false]
          simp only [yY, q9, yQ, qw, qC, qD, qq, qh, kO, qJ, qF, qE, qQ, ke, zk, Nat.reduceEqDiff, qK, reduceCtorEq, za, kh, qy, qzN, qzT, qf, qN, ql, qzM, qY, hk, qz, qg, qk, qAb, zl, k9, zV, qbi, qbg, qr, qbk, qd, qi, qaR, qcH, qz6, qzW, qA, qG, qzL, ↓reduceIte, qX, kc, zf, qn, ki, qzY, jd, e1, decide_false, hs, kC, zH, kN, ju, qbK, qjd, qln, kT, qS, zw, zu, zr, qzS, qzV, qzP, Nat.reduceAdd, kg, kY, zz, ji, ku, zg, kS, kZ, kz, kx, qzR, kQ, qaJ, decide_true, qfJ, qfm, qV, qa8, Nat.reduceLeDiff, jF, qz9, qz3, qAa, ky, zE, jp, zD, ze, zo, kP, qdZ, List.reduceReplicate, Nat.reduceLT, zI, qzU, zW, jk, qiE, qdo, qd1, jI, jl, yz, qeP, jc, happ, qgV, qB, qcC, qe5, qaz, qiu, qzQ, qzO, qU, qo, qs, qb8]
          exact ih'
theorem qkd {s : List Nat} (hz : s.length ≤ 1000000000000) {H : List Obj} : (∀ p x, 20000 < s.length ∨ qet s (s.length + 1) 0 [] = .inl (p, x) → 20000 < s.length ∨ x ≠ 0) ∧ zF pg 15 [.d (.s s)] H = some ⟨false, true, (if 20000 < s.length then .tup [.d .nil, .d (.i .i64 20000), .d (.i .i64 34)] else match qet s (s.length + 1) 0 [] with
      | .inr L => .tup [.d (slD eTk L), .d (.i .i64 0), .d (.i .i64 0)]
      | .inl (p, x) => .tup [.d .nil, .d (.i .i64 (p : Nat)), .d (.i .i64 x)]), H, H.length⟩ := by
  have hl := qoy hz (H := H) (s.length + 1) 0 [] (by omega) (by omega) (by simp)
  have hz0 : ((0 : Nat) : Int) = 0 := rfl
  have hs0 : slV eTk [] = .d .nil := rfl
  rw [hz0, hs0] at hl
  rw [kf (fn := qaW) rfl rfl]
  by_cases h1 : 20000 < s.length
  · have e1 : ((20000 : Int) < (s.length : Int)) = True := by rw [eq_iff_iff]; simp; omega
    refine ⟨fun _ _ _ => .inl h1, ?_⟩
    rw [if_pos h1]
    simp only [qaW, qm, qzP, qp, qC, qD, qq, qh, kQ, qP, qQ, ke, qd, qi, kO, reduceCtorEq, qK, qJ, qF, qE, kc, zf, qr, qn, ki, kx, qzR, jz, e1, decide_true, qA, qG, ↓reduceIte, qT, kq, qO, qe, qI, Nat.reduceEqDiff, kv, qj, qt, je, zJ, jj, qct, ja, qzM, jR, z7, js, jq, Nat.max_self, zO, kG]
    all_goals rfl
  · have e1 : ((20000 : Int) < (s.length : Int)) = False := by rw [eq_iff_iff]; simp; omega
    rw [if_neg h1]
    generalize qet s (s.length + 1) 0 [] = r at hl
    cases r with
    | inr L =>
      obtain ⟨e, g1, g2, g3, g4⟩ := hl
      refine ⟨(fun p x h => h.elim .inl (fun h => nomatch h)), ?_⟩
      simp only [qaW, qm, qzP, qp, qC, qD, qq, qh, kQ, qP, qQ, ke, qd, qi, kO, reduceCtorEq, qK, qJ, qF, qE, kc, zf, qr, qn, ki, kx, qzR, jz, e1, decide_false, qA, qG, qzL, ↓reduceIte, qX, qw, qb8, q9, Nat.reduceEqDiff]
      rw [g4]
      simp only [qO, qe, qI, g1, qq2, g2, kv, g3, qj, qt, je, zJ, jj, qct, ja, qzM, jR, z7, js, jq, Nat.max_self, zO, kG]
      all_goals rfl
    | inl q =>
      obtain ⟨p, x⟩ := q
      obtain ⟨hx, e, g1, g2, g3, g4⟩ := hl
      refine ⟨fun p' x' h => by
        rcases h with h | h
        · exact .inl h
        · cases h; exact .inr hx, ?_⟩
      simp only [qaW, qm, qzP, qp, qC, qD, qq, qh, kQ, qP, qQ, ke, qd, qi, kO, reduceCtorEq, qK, qJ, qF, qE, kc, zf, qr, qn, ki, kx, qzR, jz, e1, decide_false, qA, qG, qzL, ↓reduceIte, qX, qw, qb8, q9, Nat.reduceEqDiff]
      rw [g4]
      simp only [qO, qe, qI, g1, kv, g2, g3, qj, qt, je, zJ, jj, qct, ja, qzM, jR, z7, js, jq, Nat.max_self, zO, kG]
      all_goals rfl
theorem quS {x : Tk} {c : Bool} : qaT .neq (.agg [1, 1, 1, 2, 1]) c (.d (eTk x)) (.d (eTk x)) = some (.d (.b false)) := by
  have he : ∀ k : IntKind, eqK k k = true := fun k => by cases k <;> rfl
  have hi : ∀ n : Int, eqI n n = true := fun n => by rw [qj6]; simp
  have ht : ∀ t : List Nat, eqT t t = true := fun t => by rw [qpt]; simp
  simp [qaT, qi3, eTk, D.scalarSame, he, hi, ht]
theorem qm8 {L : List Tk} (hz : L.length ≤ 1000001) {H : List Obj} :
    ∀ (k i : Nat), L.length - i = k → i ≤ L.length → ∃ e, get 4 e = .d (.b true) ∧
      yT pg (yd 0 [] (qbH pg (.d (slD eTk L)) (.d (slD eTk L)) (.d (.i .i64 (i : Nat))) H H.length)) qcB = some (.ret, ⟨e, H, H.length⟩) := by
  intro k
  induction k with
  | zero =>
    intro i hk hi
    obtain rfl : i = L.length := by omega
    have h1 : ((L.length : Int) < (L.length : Int)) = False := by simp
    rw [qda]
    simp only [qbG, q9, qC, qD, qq, qh, kO, reduceCtorEq, qK, Nat.reduceEqDiff, qJ, qF, qE, qQ, ke, jB, qde, qr, qn, ki, qzY, zq, h1, decide_false, qd, qi, qA, qG, qzL, ↓reduceIte, yO, jT, jC, qs, qcB, kQ, qP, qT]
    exact ⟨_, rfl, rfl⟩
  | succ k ih =>
    intro i hk hi
    have h1 : ((i : Int) < (L.length : Int)) = True := by rw [eq_iff_iff]; simp; omega
    have hlt : i < L.length := by omega
    have hia : iaV (.d (slD eTk L)) (.d (.i .i64 (i : Int))) 5 none = some (.cp (eTk L[i])) := qg7 (fun _ => rfl) (by omega) (by simp)
    have hld : ∀ st, qdJ none ⟨5, true⟩ st (.cp (eTk L[i])) = some (.d (eTk L[i])) := fun st => rfl
    have hw : wr .i64 ((i : Int) + 1) = ((i + 1 : Nat) : Int) := by rw [jn (by omega) (by omega)]; omega
    have hn : ∀ c, qaT .neq (.agg [1, 1, 1, 2, 1]) c (.d (eTk L[i])) (.d (eTk L[i])) = some (.d (.b false)) := fun c => quS
    have ih' := ih (i + 1) (by omega) (by omega)
    rw [qda]
    generalize eTk L[i] = x at hia hld hn
    simp only [qbG, q9, qC, qD, qq, qh, kO, reduceCtorEq, qK, Nat.reduceEqDiff, qJ, qF, qE, qQ, ke, jB, qde, qr, qn, ki, qzY, zq, h1, decide_true, qd, qi, qA, qG, ↓reduceIte, qX, qw, jg, zS, zQ, yp, zR, kI, hia, qef, qV, zY, hld, hn, zx, zy, qzL, qU, qo, qs, kx, qzR, kQ, kF, hw, qc9]
    exact ih'
theorem qmR {L : List Tk} (hz : L.length ≤ 1000001) {H : List Obj} : zF pg 24 [.d (slD eTk L), .d (slD eTk L)] H = some ⟨false, true, .d (.b true), H, H.length⟩ := by
  obtain ⟨e, g1, g2⟩ := qm8 hz (H := H) L.length 0 rfl (by omega)
  have hz0 : ((0 : Nat) : Int) = 0 := rfl
  rw [hz0] at g2
  rw [kf (fn := qck) rfl rfl]
  simp only [qck, qm, qzP, Nat.reduceAdd, qp, qC, qD, qq, qh, kQ, qP, qQ, ke, qd, qi, kO, reduceCtorEq, qK, qJ, qF, qE, jB, qde, qr, Nat.reduceEqDiff, qn, ki, qzY, qaJ, decide_true, qz6, qA, qG, qzL, ↓reduceIte, qX, qw, qc9, q9]
  rw [g2]
  simp only [qO, qe, qI, g1, kv, qj, qt, qZ, qN, js, jr, kG]
  all_goals rfl
theorem qiB {s : List Nat} : ∀ (f a : Nat) (L L' : List Tk), qet s f a L = .inr L' → L'.length ≤ L.length + f
  | 0, _, _, _, h => by cases h
  | f + 1, a, L, L', h => by
    rw [qet] at h
    split at h
    · cases h
    · split at h
      · cases h; simp
      · have := qiB f _ _ L' h
        simp only [List.length_append, qzS, qzV] at this
        omega
theorem qgW {s : List Nat} (hs : ∀ c ∈ s, c < 256) (hz : s.length ≤ 1000000000000) {H : List Obj} : zF pg 13 [.d (.s s)] H = some ⟨false, true, .d (.b true), H, H.length⟩ := by
  obtain ⟨lo, hlo, ha⟩ := qrA hs hz (H := H)
  obtain ⟨hx, hr⟩ := qkd hz (H := H)
  have hm : min H.length lo = H.length := by omega
  rw [kf (fn := qa1) rfl rfl]
  by_cases h1 : 20000 < s.length
  · rw [if_pos h1] at ha hr
    have i0 : iaV (.d (.sl [.agg [.i .i64 20000, .i .i64 34]])) (.d (.i .i64 0)) 2 none = some (.cp (.agg [.i .i64 20000, .i .i64 34])) := rfl
    simp only [qa1, qm, qzP, qp, qC, qD, qq, qh, kQ, qP, qQ, ke, qd, qi, kO, reduceCtorEq, qK, qJ, qF, qE, qy, qzN, qzT, qf, qN, ql, qzM, qY, ha, qz, qg, qk, hm, zl, k9, zV, qbi, qbg, qr, Nat.reduceEqDiff, qbk, zk, za, kh, hr, qAb, qht, qn, ki, kx, qzR, qaJ, Int.reduceEq, decide_false, qAc, qA, qG, ↓reduceIte, jB, qkk, ko, decide_true, kW, zm, zi, qft, qzS, qzV, qAe, kB, zB, kI, i0, yJ, qB, zY, qo1, qzO, qtF, qV, qch, qzY, qzQ, qT, kq, qO, qe, qI, kv, qj, qt, qZ, js, jr, kG]
    all_goals rfl
  · rw [if_neg h1] at ha hr
    have hlen := qiB (s := s) (s.length + 1) 0 []
    generalize qet s (s.length + 1) 0 [] = r at ha hr hx hlen
    cases r with
    | inr L =>
      have hL := hlen L rfl
      simp only [qzV] at hL
      have ht := qmR (L := L) (by omega) (H := H)
      simp only at ha hr
      simp only [qa1, qm, qzP, qp, qC, qD, qq, qh, kQ, qP, qQ, ke, qd, qi, kO, reduceCtorEq, qK, qJ, qF, qE, qy, qzN, qzT, qf, qN, ql, qzM, qY, ha, qz, qg, qk, hm, zl, k9, zV, qbi, qbg, qr, Nat.reduceEqDiff, qbk, zk, za, kh, hr, qAb, qht, qn, ki, kx, qzR, qaJ, decide_true, qz6, qA, qG, qzL, ↓reduceIte, qX, jB, qkk, ko, kW, zm, zi, ht, kB, zB, qT, qO, qe, qI, kv, qj, qt, qZ, js, jr, kG]
      all_goals rfl
    | inl q =>
      obtain ⟨p, x⟩ := q
      have hx0 : x ≠ 0 := (hx p x (.inr rfl)).resolve_left h1
      have x0 : (x = 0) = False := eq_false hx0
      have i0 : iaV (.d (.sl [.agg [.i .i64 (p : Nat), .i .i64 x]])) (.d (.i .i64 0)) 2 none = some (.cp (.agg [.i .i64 (p : Nat), .i .i64 x])) := rfl
      simp only at ha hr
      simp only [qa1, qm, qzP, qp, qC, qD, qq, qh, kQ, qP, qQ, ke, qd, qi, kO, reduceCtorEq, qK, qJ, qF, qE, qy, qzN, qzT, qf, qN, ql, qzM, qY, ha, qz, qg, qk, hm, zl, k9, zV, qbi, qbg, qr, Nat.reduceEqDiff, qbk, zk, za, kh, hr, qAb, qht, qn, ki, kx, qzR, qaJ, x0, decide_false, qAc, qA, qG, ↓reduceIte, jB, qkk, ko, decide_true, kW, zm, zi, qft, qzS, qzV, qAe, kB, zB, kI, i0, yJ, qB, zY, qo1, qzO, qtF, qV, qch, qzY, qzQ, qT, kq, qO, qe, qI, kv, qj, qt, qZ, js, jr, kG]
      all_goals rfl
end W

set_option linter.unusedSimpArgs false
set_option linter.unusedVariables false
namespace W
open Go (IntKind BinOp UnOp)
set_option maxRecDepth 20000
def Tx (k : Nat) (t : List Nat) : Prop := t.length ≤ k ∧ ∀ b ∈ t, b < 256
theorem Tx.le {k m : Nat} {t : List Nat} (h : Tx k t) (hk : k ≤ m) : Tx m t := ⟨Nat.le_trans h.1 hk, h.2⟩
def txB (k : Nat) (t : List Nat) : Bool := Nat.ble t.length k && t.all fun b => Nat.blt b 256
theorem txl (k : Nat) (t : List Nat) (h : txB k t = true) : Tx k t := by
  simp only [txB, qz0, List.all_eq_true] at h
  exact ⟨Nat.le_of_ble_eq_true h.1, fun b hb => Nat.le_of_ble_eq_true (h.2 b hb)⟩
theorem cat {k m : Nat} {t u : List Nat} (ht : Tx k t) (hu : Tx m u) (h : k + m ≤ 1000000000000000) : ∃ r, Tx (k + m) r ∧ u.length ≤ r.length ∧ ∀ c, qaT .add .num c (.d (.s t)) (.d (.s u)) = some (.d (.s r)) :=
  ⟨t ++ u, ⟨by simp; have := ht.1; have := hu.1; omega, fun b hb => by
    rw [List.mem_append] at hb
    rcases hb with hb | hb
    · exact ht.2 b hb
    · exact hu.2 b hb⟩, by simp, fun c => qrx (by have := ht.1; have := hu.1; omega)⟩
theorem qbl (L : List (List Nat)) (k : Nat) (hL : (L.all fun t => txB k t) = true) {v : Int} (h0 : 0 ≤ v) (h1 : v < (L.length : Nat)) : ∃ t, Tx k t ∧ iaV (.d (.sl (L.map D.s))) (.d (.i .i64 v)) 1 none = some (.cp (.s t)) := by
  have hv : v.toNat < L.length := by omega
  refine ⟨L[v.toNat], txl k _ ?_, qoM h0 (by simp [hv]) (by simp [D.cells])⟩
  exact (List.all_eq_true.1 hL) _ (List.getElem_mem hv)
structure GL (Ld : D) (n : Nat) : Prop where
  len : ∀ H, qhb .lenL (.d Ld) H = some (.d (.i .i64 (n : Nat)))
  ix : ∀ i, i < n → ∃ v : Int, 0 ≤ v ∧ v < 65536 ∧ iaV (.d Ld) (.d (.i .i64 (i : Nat))) 1 none = some (.cp (.i .u16 v))
  ok : Ld.one = true
  n : n ≤ 1000
abbrev G (H : List Obj) (id : Nat) (Ld : D) (i : Nat) (d : Int) : List Obj := zp H id (.cells [.d Ld, .d (.i .i64 (i : Nat)), .d (.i .i64 d)])
theorem qip {H : List Obj} {id : Nat} (hid : id < H.length) (o : Obj) : (zp H id o)[id]? = some o := yi (o' := H[id]) (qAf hid)
theorem kX {H : List Obj} {id : Nat} (hid : id < H.length) {Ld : D} {i i' : Nat} {d : Int} {x : D} {e : Env} {lo : Nat} (h1 : id ≤ lo) (h2 : H.length ≤ lo → i' = i) :
    ∃ sm lo2, id ≤ lo2 ∧ (H.length ≤ lo2 → i' = i) ∧ leave (G H id Ld i d) false (.d x) ⟨e, G H id Ld i' d, lo⟩ = some ⟨false, sm, .d x, G H id Ld i' d, lo2⟩ := by
  by_cases hl : lo < H.length
  · exact ⟨false, lo, h1, h2, qlo rfl (.inr (by simp [zp]; omega)) rfl⟩
  · have e1 := h2 (by omega)
    subst e1
    exact ⟨true, lo, h1, h2, qd4 rfl (by simp [V.ref]) (by simp [zp]; omega) rfl⟩
theorem qr0 {H : List Obj} {id : Nat} (hid : id < H.length) {Ld : D} {i : Nat} {d : Int} {x : D} {e : Env} {lo : Nat} (h1 : id ≤ lo) :
    ∃ sm lo2, id ≤ lo2 ∧ (H.length ≤ lo2 → True) ∧ leave (G H id Ld i d) false (.d x) ⟨e, G H id Ld i d, lo⟩ = some ⟨false, sm, .d x, G H id Ld i d, lo2⟩ := by
  obtain ⟨sm, lo2, a, _, c⟩ := kX hid (Ld := Ld) (d := d) (x := x) (e := e) h1 (fun _ => rfl : H.length ≤ lo → i = i)
  exact ⟨sm, lo2, a, fun _ => trivial, c⟩
def GC (f : Nat) (xs : List V) (B : Nat) (Ld : D) (n : Nat) (H : List Obj) (id : Nat) (d : Int) : Prop :=
  ∀ i, i ≤ n → ∃ t i', Tx B t ∧ i' ≤ n ∧ ∃ sm lo, id ≤ lo ∧ (H.length ≤ lo → i' = i) ∧ zF pg f (.ptr id 0 :: xs) (G H id Ld i d) = some ⟨false, sm, .d (.s t), G H id Ld i' d, lo⟩
theorem GC.le {f : Nat} {xs : List V} {B B' : Nat} {Ld : D} {n : Nat} {H : List Obj} {id : Nat} {d : Int} (h : GC f xs B Ld n H id d) (hB : B ≤ B') : GC f xs B' Ld n H id d := fun i hi => by
  obtain ⟨t, i', h1, h2⟩ := h i hi
  exact ⟨t, i', h1.le hB, h2⟩
theorem jm {Ld : D} {n0 : Nat} (hL : GL Ld n0) {H : List Obj} {id : Nat} (hid : id < H.length) {d n : Int} (hn : 0 < n) (hn2 : n < 100000) {i : Nat} (hi : i ≤ n0) :
    ∃ (v : Int) (i' : Nat), 0 ≤ v ∧ v < n ∧ i' ≤ n0 ∧ ∃ sm lo, id ≤ lo ∧ (H.length ≤ lo → i' = i) ∧ zF pg 32 [.ptr id 0, .d (.i .i64 n)] (G H id Ld i d) = some ⟨false, sm, .d (.i .i64 v), G H id Ld i' d, lo⟩ := by
  have hg : ∀ o, (zp H id o)[id]? = some o := qip hid
  have hlen := hL.len
  have hn0 := hL.n
  by_cases h : n0 ≤ i
  · have hge : ((n0 : Nat) : Int) ≤ (i : Nat) := by omega
    refine ⟨0, i, by omega, hn, hi, ?_⟩
    rw [kf (fn := yW) rfl rfl]
    simp only [yW, qm, qzP, Nat.reduceAdd, qp, qH, qC, qD, qq, qh, kQ, qP, qQ, ke, qd, qi, jg, zS, kO, reduceCtorEq, qK, qJ, qW, qE, zQ, jE, zR, qL, qr, qB, kU, qV, kp, hg, kR, qzQ, qzO, qzW, ky, yp, qAg, jB, qF, hlen, qn, ki, qzY, Nat.reduceEqDiff, jd, eq_true hge, decide_true, zx, zy, qA, qG, ↓reduceIte, qT, kq, qO, qe, qI, kv, qj, qt, qZ]
    refine qr0 hid ?_; omega
  · have hge : ¬ ((n0 : Nat) : Int) ≤ (i : Nat) := by omega
    obtain ⟨v, h0, h1, hx⟩ := hL.ix i (by omega)
    have hnz : (n = 0) = False := eq_false (by omega)
    have hc : wr .i64 v = v := jn (by omega) (by omega)
    have hw : wr .i64 ((i : Nat) + 1 : Int) = ((i + 1 : Nat) : Int) := by rw [jn (by omega) (by omega)]; omega
    have e1 := Int.tmod_eq_emod_of_nonneg (b := n) h0
    have e2 := Int.emod_nonneg v (show n ≠ 0 by omega)
    have e3 := Int.emod_lt_of_pos v hn
    refine ⟨v.tmod n, i + 1, by omega, by omega, by omega, ?_⟩
    rw [kf (fn := yW) rfl rfl]
    simp only [yW, qm, qzP, Nat.reduceAdd, qp, qH, qC, qD, qq, qh, kQ, qP, qQ, ke, qd, qi, jg, zS, kO, reduceCtorEq, qK, qJ, qW, qE, zQ, jE, zR, qL, qr, qB, kU, qV, kp, hg, kR, qzQ, qzO, qzW, ky, yp, qAg, jB, qF, hlen, qn, ki, qzY, Nat.reduceEqDiff, jd, eq_false hge, decide_false, zx, zy, qA, qG, qzL, ↓reduceIte, qX, kI, hx, qef, zY, qch, z8, hc, hnz, qek, kr, kx, qzR, kF, hw, qS, zc, zz, kD, qzS, qzV, kg, kY, ku, qzM, kl, Nat.reduceLT, kw, qzX, qzU, kn, kJ, kz, qT, qO, qe, qI, kv, qj, qt, qZ]
    refine kX hid ?_ ?_ <;> omega
end W

set_option linter.unusedSimpArgs false
set_option linter.unusedVariables false
namespace W
open Go (IntKind BinOp UnOp)
set_option maxRecDepth 20000
theorem qgX {Ld : D} {n : Nat} (hL : GL Ld n) {H : List Obj} {id : Nat} (hid : id < H.length) {d : Int} : GC 72 [] 9 Ld n H id d := by
  intro i0 n0
  have hg : ∀ o, (zp H id o)[id]? = some o := qip hid
  obtain ⟨v, i1, z0, w0, n1, s0, l0, m0, u0, c0⟩ := jm hL hid (d := d) (n := 15) (by omega) (by omega) n0
  obtain ⟨t1, q1, x1⟩ : ∃ t, Tx 9 t ∧ iaV (.d (.sl [D.s [49], D.s [105], D.s [106], D.s [110], D.s [107], D.s [48], D.s [50], D.s [55, 70, 70, 70, 70, 70, 70, 70, 72], D.s [97, 91, 49, 93], D.s [114, 46, 120], D.s [76, 69, 78, 40, 97, 41], D.s [51], D.s [56, 48, 48, 48, 48, 48, 48, 48, 72], D.s [114, 46, 121], D.s [49, 48, 48]])) (.d (.i .i64 v)) 1 none = some (.cp (.s t)) := qbl [[49], [105], [106], [110], [107], [48], [50], [55, 70, 70, 70, 70, 70, 70, 70, 72], [97, 91, 49, 93], [114, 46, 120], [76, 69, 78, 40, 97, 41], [51], [56, 48, 48, 48, 48, 48, 48, 48, 72], [114, 46, 121], [49, 48, 48]] 9 rfl z0 w0
  refine ⟨t1, i1, q1, n1, ?_⟩
  rw [kf (fn := qbW) rfl rfl]
  simp only [qbW, qm, qzP, qp, qH, qC, qD, qq, qh, kQ, qP, qQ, ke, qd, qi, kP, jQ, qzS, qzV, List.reduceReplicate, qzN, qzT, Nat.reduceAdd, Nat.reduceLT, zI, qzU, qzX, zW, jk, ji, yS, jI, qzM, jl, qr, yz, zk, reduceCtorEq, qK, qJ, zM, kh, kr, qy, qf, qR, qN, ql, qY, c0, qz, qg, qk, kI, kO, Nat.reduceEqDiff, jc, qF, x1, yJ, zZ, zY, qam, zX, qE, qT, qO, qe, qI, kv, qj, qt, qZ]
  refine kX hid ?_ ?_ <;> omega
theorem qk1 {Ld : D} {n : Nat} (hL : GL Ld n) {H : List Obj} {id : Nat} (hid : id < H.length) {d : Int} : GC 69 [] 10 Ld n H id d := by
  intro i0 n0
  have hg : ∀ o, (zp H id o)[id]? = some o := qip hid
  obtain ⟨v, i1, z0, w0, n1, s0, l0, m0, u0, c0⟩ := jm hL hid (d := d) (n := 10) (by omega) (by omega) n0
  obtain ⟨t1, q1, x1⟩ : ∃ t, Tx 10 t ∧ iaV (.d (.sl [D.s [105], D.s [106], D.s [110], D.s [97, 91, 48, 93], D.s [97, 91, 105, 32, 77, 79, 68, 32, 52, 93], D.s [114, 46, 120], D.s [114, 46, 121], D.s [112, 46, 120], D.s [97, 91, 106, 93], D.s [117, 46, 121]])) (.d (.i .i64 v)) 1 none = some (.cp (.s t)) := qbl [[105], [106], [110], [97, 91, 48, 93], [97, 91, 105, 32, 77, 79, 68, 32, 52, 93], [114, 46, 120], [114, 46, 121], [112, 46, 120], [97, 91, 106, 93], [117, 46, 121]] 10 rfl z0 w0
  refine ⟨t1, i1, q1, n1, ?_⟩
  rw [kf (fn := qaI) rfl rfl]
  simp only [qaI, qm, qzP, qp, qH, qC, qD, qq, qh, kQ, qP, qQ, ke, qd, qi, kP, jQ, qzS, qzV, List.reduceReplicate, qzN, qzT, Nat.reduceAdd, Nat.reduceLT, zI, qzU, qzX, zW, jk, ji, yS, jI, qzM, jl, qr, yz, zk, reduceCtorEq, qK, qJ, zM, kh, kr, qy, qf, qR, qN, ql, qY, c0, qz, qg, qk, kI, kO, Nat.reduceEqDiff, jc, qF, x1, yJ, zZ, zY, qam, zX, qE, qT, qO, qe, qI, kv, qj, qt, qZ]
  refine kX hid ?_ ?_ <;> omega
theorem qjR {Ld : D} {n : Nat} (hL : GL Ld n) {H : List Obj} {id : Nat} (hid : id < H.length) {d : Int} 
     : GC 71 [] (40) Ld n H id d := by
  intro i0 n0
  have hg : ∀ o, (zp H id o)[id]? = some o := qip hid
  obtain ⟨v, i1, z0, w0, n1, s0, l0, m0, u0, c0⟩ := jm hL hid (d := d) (n := 8) (by omega) (by omega) n0
  have hv : v = 0 ∨ v = 1 ∨ v = 2 ∨ v = 3 ∨ v = 4 ∨ v = 5 ∨ v = 6 ∨ v = 7 := by omega
  rcases hv with rfl | rfl | rfl | rfl | rfl | rfl | rfl | rfl
  · skip
    refine ⟨[115], i1, (txl 1 [115] rfl).le (by omega), n1, ?_⟩
    rw [kf (fn := zG) rfl rfl]
    simp only [zG, qm, qzP, qp, qH, qC, qD, qq, qh, kQ, qP, qQ, ke, qd, qi, zk, reduceCtorEq, qK, qJ, zM, kh, kr, qy, qzN, qzT, qf, qR, qN, ql, qzM, qY, c0, qz, qg, qk, qw, qn, ki, kx, qzR, kO, qF, ko, decide_true, qr, qE, qA, qG, ↓reduceIte, qT, kK, kq, qO, qe, qI, kv, qj, qt, qZ]
    refine kX hid ?_ ?_ <;> omega
  · skip
    refine ⟨[123, 49, 44, 32, 51, 32, 46, 46, 32, 53, 125], i1, (txl 11 [123, 49, 44, 32, 51, 32, 46, 46, 32, 53, 125] rfl).le (by omega), n1, ?_⟩
    rw [kf (fn := zG) rfl rfl]
    simp only [zG, qm, qzP, qp, qH, qC, qD, qq, qh, kQ, qP, qQ, ke, qd, qi, zk, reduceCtorEq, qK, qJ, zM, kh, kr, qy, qzN, qzT, qf, qR, qN, ql, qzM, qY, c0, qz, qg, qk, qw, qn, ki, kx, qzR, kO, qF, ko, Int.reduceEq, decide_false, qr, qE, qA, qG, qzL, ↓reduceIte, Nat.reduceEqDiff, decide_true, qT, kK, kq, qO, qe, qI, kv, qj, qt, qZ]
    refine kX hid ?_ ?_ <;> omega
  · skip
    refine ⟨[123, 105, 32, 77, 79, 68, 32, 51, 50, 125], i1, (txl 10 [123, 105, 32, 77, 79, 68, 32, 51, 50, 125] rfl).le (by omega), n1, ?_⟩
    rw [kf (fn := zG) rfl rfl]
    simp only [zG, qm, qzP, qp, qH, qC, qD, qq, qh, kQ, qP, qQ, ke, qd, qi, zk, reduceCtorEq, qK, qJ, zM, kh, kr, qy, qzN, qzT, qf, qR, qN, ql, qzM, qY, c0, qz, qg, qk, qw, qn, ki, kx, qzR, kO, qF, ko, Int.reduceEq, decide_false, qr, qE, qA, qG, qzL, ↓reduceIte, Nat.reduceEqDiff, decide_true, qT, kK, kq, qO, qe, qI, kv, qj, qt, qZ]
    refine kX hid ?_ ?_ <;> omega
  · skip
    refine ⟨[40, 115, 32, 43, 32, 123, 48, 32, 46, 46, 32, 55, 125, 41], i1, (txl 14 [40, 115, 32, 43, 32, 123, 48, 32, 46, 46, 32, 55, 125, 41] rfl).le (by omega), n1, ?_⟩
    rw [kf (fn := zG) rfl rfl]
    simp only [zG, qm, qzP, qp, qH, qC, qD, qq, qh, kQ, qP, qQ, ke, qd, qi, zk, reduceCtorEq, qK, qJ, zM, kh, kr, qy, qzN, qzT, qf, qR, qN, ql, qzM, qY, c0, qz, qg, qk, qw, qn, ki, kx, qzR, kO, qF, ko, Int.reduceEq, decide_false, qr, qE, qA, qG, qzL, ↓reduceIte, Nat.reduceEqDiff, decide_true, qT, kK, kq, qO, qe, qI, kv, qj, qt, qZ]
    refine kX hid ?_ ?_ <;> omega
  · skip
    refine ⟨[40, 115, 32, 42, 32, 123, 50, 44, 32, 106, 32, 77, 79, 68, 32, 51, 50, 125, 41], i1, (txl 19 [40, 115, 32, 42, 32, 123, 50, 44, 32, 106, 32, 77, 79, 68, 32, 51, 50, 125, 41] rfl).le (by omega), n1, ?_⟩
    rw [kf (fn := zG) rfl rfl]
    simp only [zG, qm, qzP, qp, qH, qC, qD, qq, qh, kQ, qP, qQ, ke, qd, qi, zk, reduceCtorEq, qK, qJ, zM, kh, kr, qy, qzN, qzT, qf, qR, qN, ql, qzM, qY, c0, qz, qg, qk, qw, qn, ki, kx, qzR, kO, qF, ko, Int.reduceEq, decide_false, qr, qE, qA, qG, qzL, ↓reduceIte, Nat.reduceEqDiff, decide_true, qT, kK, kq, qO, qe, qI, kv, qj, qt, qZ]
    refine kX hid ?_ ?_ <;> omega
  · skip
    refine ⟨[40, 115, 32, 47, 32, 123, 105, 32, 77, 79, 68, 32, 56, 32, 46, 46, 32, 51, 49, 125, 41], i1, (txl 21 [40, 115, 32, 47, 32, 123, 105, 32, 77, 79, 68, 32, 56, 32, 46, 46, 32, 51, 49, 125, 41] rfl).le (by omega), n1, ?_⟩
    rw [kf (fn := zG) rfl rfl]
    simp only [zG, qm, qzP, qp, qH, qC, qD, qq, qh, kQ, qP, qQ, ke, qd, qi, zk, reduceCtorEq, qK, qJ, zM, kh, kr, qy, qzN, qzT, qf, qR, qN, ql, qzM, qY, c0, qz, qg, qk, qw, qn, ki, kx, qzR, kO, qF, ko, Int.reduceEq, decide_false, qr, qE, qA, qG, qzL, ↓reduceIte, Nat.reduceEqDiff, decide_true, qT, kK, kq, qO, qe, qI, kv, qj, qt, qZ]
    refine kX hid ?_ ?_ <;> omega
  · skip
    refine ⟨[40, 45, 115, 41], i1, (txl 4 [40, 45, 115, 41] rfl).le (by omega), n1, ?_⟩
    rw [kf (fn := zG) rfl rfl]
    simp only [zG, qm, qzP, qp, qH, qC, qD, qq, qh, kQ, qP, qQ, ke, qd, qi, zk, reduceCtorEq, qK, qJ, zM, kh, kr, qy, qzN, qzT, qf, qR, qN, ql, qzM, qY, c0, qz, qg, qk, qw, qn, ki, kx, qzR, kO, qF, ko, Int.reduceEq, decide_false, qr, qE, qA, qG, qzL, ↓reduceIte, Nat.reduceEqDiff, decide_true, qT, kK, kq, qO, qe, qI, kv, qj, qt, qZ]
    refine kX hid ?_ ?_ <;> omega
  · skip
    refine ⟨[40, 115, 32, 45, 32, 123, 110, 125, 41], i1, (txl 9 [40, 115, 32, 45, 32, 123, 110, 125, 41] rfl).le (by omega), n1, ?_⟩
    rw [kf (fn := zG) rfl rfl]
    simp only [zG, qm, qzP, qp, qH, qC, qD, qq, qh, kQ, qP, qQ, ke, qd, qi, zk, reduceCtorEq, qK, qJ, zM, kh, kr, qy, qzN, qzT, qf, qR, qN, ql, qzM, qY, c0, qz, qg, qk, qw, qn, ki, kx, qzR, kO, qF, ko, Int.reduceEq, decide_false, qr, qE, qA, qG, qzL, ↓reduceIte, Nat.reduceEqDiff, qX, qU, qs, qT, qO, qe, qI, kv, qj, qt, qZ]
    refine kX hid ?_ ?_ <;> omega
end W

set_option linter.unusedSimpArgs false
set_option linter.unusedVariables false
namespace W
open Go (IntKind BinOp UnOp)
set_option maxRecDepth 20000
theorem qsk {Ld : D} {n : Nat} (hL : GL Ld n) {H : List Obj} {id : Nat} (hid : id < H.length) {d b : Nat} (hd : d ≤ 100) (hb : b ≤ 1000000000000)
    (hleaf : GC 72 [] b Ld n H id ((d : Nat) : Int)) (hnum : GC 56 [] b Ld n H id ((d : Nat) : Int)) (hchar : GC 70 [] b Ld n H id ((d : Nat) : Int)) (hset : GC 71 [] b Ld n H id ((d : Nat) : Int)) (hcond : GC 55 [] b Ld n H id ((d : Nat) : Int)) : GC 56 [] (2 * b + 40) Ld n H id ((d + 1 : Nat) : Int) := by
  intro i0 n0
  have hg : ∀ o, (zp H id o)[id]? = some o := qip hid
  have hle : (((d + 1 : Nat) : Int) ≤ 0) = False := eq_false (by omega)
  have hw1 : wr .i64 (((d + 1 : Nat) : Int) - 1) = (d : Nat) := by rw [jn (by omega) (by omega)]; omega
  have hw2 : wr .i64 ((d : Nat) + 1 : Int) = ((d + 1 : Nat) : Int) := by rw [jn (by omega) (by omega)]; omega
  obtain ⟨v, i1, z0, w0, n1, s0, l0, m0, u0, c0⟩ := jm hL hid (d := (d : Nat)) (n := 20) (by omega) (by omega) n0
  have hv : v = 0 ∨ v = 1 ∨ v = 2 ∨ v = 3 ∨ v = 4 ∨ v = 5 ∨ v = 6 ∨ v = 7 ∨ v = 8 ∨ v = 9 ∨ v = 10 ∨ v = 11 ∨ v = 12 ∨ v = 13 ∨ v = 14 ∨ v = 15 ∨ v = 16 ∨ v = 17 ∨ v = 18 ∨ v = 19 := by omega
  rcases hv with rfl | rfl | rfl | rfl | rfl | rfl | rfl | rfl | rfl | rfl | rfl | rfl | rfl | rfl | rfl | rfl | rfl | rfl | rfl | rfl
  · skip
    obtain ⟨t1, j1, q1, n1, s1, l1, m1, u1, c1⟩ := hleaf i1 n1
    refine ⟨t1, j1, q1.le (by omega), n1, ?_⟩
    rw [kf (fn := kj) rfl rfl]
    simp only [kj, qm, qzP, qp, qH, qC, qD, qq, qh, kQ, qP, qQ, ke, qd, qi, kO, reduceCtorEq, qK, qJ, qW, qE, kr, qL, qr, qB, kU, qV, kp, hg, kR, qzQ, qzO, qzW, ky, qn, ki, kx, qzR, qF, zA, hle, decide_false, qA, qG, qzL, ↓reduceIte, qX, zt, hw1, Nat.reduceEqDiff, qS, zc, zz, kD, qzS, qzV, kg, kY, ku, qzM, kl, Nat.reduceAdd, Nat.reduceLT, kw, qzX, qzU, kn, kJ, kz, qy, qzN, qzT, qf, qR, qN, ql, qY, c0, qz, qg, qk, qw, ko, decide_true, c1, zk, za, kh, qU, qo, kE, q9, qs, kF, hw2, qT, qO, qe, qI, kv, qj, qt, qZ]
    refine kX hid ?_ ?_ <;> omega
  · skip
    obtain ⟨t1, j1, q1, n1, s1, l1, m1, u1, c1⟩ := hleaf i1 n1
    refine ⟨t1, j1, q1.le (by omega), n1, ?_⟩
    rw [kf (fn := kj) rfl rfl]
    simp only [kj, qm, qzP, qp, qH, qC, qD, qq, qh, kQ, qP, qQ, ke, qd, qi, kO, reduceCtorEq, qK, qJ, qW, qE, kr, qL, qr, qB, kU, qV, kp, hg, kR, qzQ, qzO, qzW, ky, qn, ki, kx, qzR, qF, zA, hle, decide_false, qA, qG, qzL, ↓reduceIte, qX, zt, hw1, Nat.reduceEqDiff, qS, zc, zz, kD, qzS, qzV, kg, kY, ku, qzM, kl, Nat.reduceAdd, Nat.reduceLT, kw, qzX, qzU, kn, kJ, kz, qy, qzN, qzT, qf, qR, qN, ql, qY, c0, qz, qg, qk, qw, ko, Int.reduceEq, decide_true, c1, zk, za, kh, qU, qo, kE, q9, qs, kF, hw2, qT, qO, qe, qI, kv, qj, qt, qZ]
    refine kX hid ?_ ?_ <;> omega
  · skip
    obtain ⟨t1, j1, q1, n1, s1, l1, m1, u1, c1⟩ := hleaf i1 n1
    refine ⟨t1, j1, q1.le (by omega), n1, ?_⟩
    rw [kf (fn := kj) rfl rfl]
    simp only [kj, qm, qzP, qp, qH, qC, qD, qq, qh, kQ, qP, qQ, ke, qd, qi, kO, reduceCtorEq, qK, qJ, qW, qE, kr, qL, qr, qB, kU, qV, kp, hg, kR, qzQ, qzO, qzW, ky, qn, ki, kx, qzR, qF, zA, hle, decide_false, qA, qG, qzL, ↓reduceIte, qX, zt, hw1, Nat.reduceEqDiff, qS, zc, zz, kD, qzS, qzV, kg, kY, ku, qzM, kl, Nat.reduceAdd, Nat.reduceLT, kw, qzX, qzU, kn, kJ, kz, qy, qzN, qzT, qf, qR, qN, ql, qY, c0, qz, qg, qk, qw, ko, Int.reduceEq, decide_true, c1, zk, za, kh, qU, qo, kE, q9, qs, kF, hw2, qT, qO, qe, qI, kv, qj, qt, qZ]
    refine kX hid ?_ ?_ <;> omega
  · skip
    obtain ⟨t1, j1, q1, n1, s1, l1, m1, u1, c1⟩ := hleaf i1 n1
    refine ⟨t1, j1, q1.le (by omega), n1, ?_⟩
    rw [kf (fn := kj) rfl rfl]
    simp only [kj, qm, qzP, qp, qH, qC, qD, qq, qh, kQ, qP, qQ, ke, qd, qi, kO, reduceCtorEq, qK, qJ, qW, qE, kr, qL, qr, qB, kU, qV, kp, hg, kR, qzQ, qzO, qzW, ky, qn, ki, kx, qzR, qF, zA, hle, decide_false, qA, qG, qzL, ↓reduceIte, qX, zt, hw1, Nat.reduceEqDiff, qS, zc, zz, kD, qzS, qzV, kg, kY, ku, qzM, kl, Nat.reduceAdd, Nat.reduceLT, kw, qzX, qzU, kn, kJ, kz, qy, qzN, qzT, qf, qR, qN, ql, qY, c0, qz, qg, qk, qw, ko, Int.reduceEq, decide_true, c1, zk, za, kh, qU, qo, kE, q9, qs, kF, hw2, qT, qO, qe, qI, kv, qj, qt, qZ]
    refine kX hid ?_ ?_ <;> omega
  · skip
    obtain ⟨t1, j1, q1, n1, s1, l1, m1, u1, c1⟩ := hnum i1 n1
    obtain ⟨r2, y2, _, e2⟩ := cat (txl 1 [40] rfl) q1 (by omega)
    obtain ⟨r3, y3, _, e3⟩ := cat y2 (txl 3 [32, 43, 32] rfl) (by omega)
    obtain ⟨t4, j4, q4, n4, s4, l4, m4, u4, c4⟩ := hnum j1 n1
    obtain ⟨r5, y5, _, e5⟩ := cat y3 q4 (by omega)
    obtain ⟨r6, y6, _, e6⟩ := cat y5 (txl 1 [41] rfl) (by omega)
    refine ⟨r6, j4, y6.le (by omega), n4, ?_⟩
    rw [kf (fn := kj) rfl rfl]
    simp only [kj, qm, qzP, qp, qH, qC, qD, qq, qh, kQ, qP, qQ, ke, qd, qi, kO, reduceCtorEq, qK, qJ, qW, qE, kr, qL, qr, qB, kU, qV, kp, hg, kR, qzQ, qzO, qzW, ky, qn, ki, kx, qzR, qF, zA, hle, decide_false, qA, qG, qzL, ↓reduceIte, qX, zt, hw1, Nat.reduceEqDiff, qS, zc, zz, kD, qzS, qzV, kg, kY, ku, qzM, kl, Nat.reduceAdd, Nat.reduceLT, kw, qzX, qzU, kn, kJ, kz, qy, qzN, qzT, qf, qR, qN, ql, qY, c0, qz, qg, qk, qw, ko, Int.reduceEq, decide_true, c1, qz7, e2, e3, c4, qzY, e5, e6, qU, qo, kE, q9, qs, kF, hw2, qT, qO, qe, qI, kv, qj, qt, qZ]
    refine kX hid ?_ ?_ <;> omega
  · skip
    obtain ⟨t1, j1, q1, n1, s1, l1, m1, u1, c1⟩ := hnum i1 n1
    obtain ⟨r2, y2, _, e2⟩ := cat (txl 1 [40] rfl) q1 (by omega)
    obtain ⟨r3, y3, _, e3⟩ := cat y2 (txl 3 [32, 45, 32] rfl) (by omega)
    obtain ⟨t4, j4, q4, n4, s4, l4, m4, u4, c4⟩ := hnum j1 n1
    obtain ⟨r5, y5, _, e5⟩ := cat y3 q4 (by omega)
    obtain ⟨r6, y6, _, e6⟩ := cat y5 (txl 1 [41] rfl) (by omega)
    refine ⟨r6, j4, y6.le (by omega), n4, ?_⟩
    rw [kf (fn := kj) rfl rfl]
    simp only [kj, qm, qzP, qp, qH, qC, qD, qq, qh, kQ, qP, qQ, ke, qd, qi, kO, reduceCtorEq, qK, qJ, qW, qE, kr, qL, qr, qB, kU, qV, kp, hg, kR, qzQ, qzO, qzW, ky, qn, ki, kx, qzR, qF, zA, hle, decide_false, qA, qG, qzL, ↓reduceIte, qX, zt, hw1, Nat.reduceEqDiff, qS, zc, zz, kD, qzS, qzV, kg, kY, ku, qzM, kl, Nat.reduceAdd, Nat.reduceLT, kw, qzX, qzU, kn, kJ, kz, qy, qzN, qzT, qf, qR, qN, ql, qY, c0, qz, qg, qk, qw, ko, Int.reduceEq, decide_true, c1, qz7, e2, e3, c4, qzY, e5, e6, qU, qo, kE, q9, qs, kF, hw2, qT, qO, qe, qI, kv, qj, qt, qZ]
    refine kX hid ?_ ?_ <;> omega
  · skip
    obtain ⟨t1, j1, q1, n1, s1, l1, m1, u1, c1⟩ := hnum i1 n1
    obtain ⟨r2, y2, _, e2⟩ := cat (txl 1 [40] rfl) q1 (by omega)
    obtain ⟨r3, y3, _, e3⟩ := cat y2 (txl 3 [32, 42, 32] rfl) (by omega)
    obtain ⟨t4, j4, q4, n4, s4, l4, m4, u4, c4⟩ := hnum j1 n1
    obtain ⟨r5, y5, _, e5⟩ := cat y3 q4 (by omega)
    obtain ⟨r6, y6, _, e6⟩ := cat y5 (txl 1 [41] rfl) (by omega)
    refine ⟨r6, j4, y6.le (by omega), n4, ?_⟩
    rw [kf (fn := kj) rfl rfl]
    simp only [kj, qm, qzP, qp, qH, qC, qD, qq, qh, kQ, qP, qQ, ke, qd, qi, kO, reduceCtorEq, qK, qJ, qW, qE, kr, qL, qr, qB, kU, qV, kp, hg, kR, qzQ, qzO, qzW, ky, qn, ki, kx, qzR, qF, zA, hle, decide_false, qA, qG, qzL, ↓reduceIte, qX, zt, hw1, Nat.reduceEqDiff, qS, zc, zz, kD, qzS, qzV, kg, kY, ku, qzM, kl, Nat.reduceAdd, Nat.reduceLT, kw, qzX, qzU, kn, kJ, kz, qy, qzN, qzT, qf, qR, qN, ql, qY, c0, qz, qg, qk, qw, ko, Int.reduceEq, decide_true, c1, qz7, e2, e3, c4, qzY, e5, e6, qU, qo, kE, q9, qs, kF, hw2, qT, qO, qe, qI, kv, qj, qt, qZ]
    refine kX hid ?_ ?_ <;> omega
  · skip
    obtain ⟨t1, j1, q1, n1, s1, l1, m1, u1, c1⟩ := hnum i1 n1
    obtain ⟨r2, y2, _, e2⟩ := cat (txl 1 [40] rfl) q1 (by omega)
    obtain ⟨r3, y3, _, e3⟩ := cat y2 (txl 5 [32, 68, 73, 86, 32] rfl) (by omega)
    obtain ⟨v4, j4, z4, w4, n4, s4, l4, m4, u4, c4⟩ := jm hL hid (d := (d : Nat)) (n := 4) (by omega) (by omega) n1
    obtain ⟨t4, q4, x4⟩ : ∃ t, Tx 1 t ∧ iaV (.d (.sl [D.s [50], D.s [51], D.s [55], D.s [110]])) (.d (.i .i64 v4)) 1 none = some (.cp (.s t)) := qbl [[50], [51], [55], [110]] 1 rfl z4 w4
    obtain ⟨r5, y5, _, e5⟩ := cat y3 q4 (by omega)
    obtain ⟨r6, y6, _, e6⟩ := cat y5 (txl 1 [41] rfl) (by omega)
    refine ⟨r6, j4, y6.le (by omega), n4, ?_⟩
    rw [kf (fn := kj) rfl rfl]
    simp only [kj, qm, qzP, qp, qH, qC, qD, qq, qh, kQ, qP, qQ, ke, qd, qi, kO, reduceCtorEq, qK, qJ, qW, qE, kr, qL, qr, qB, kU, qV, kp, hg, kR, qzQ, qzO, qzW, ky, qn, ki, kx, qzR, qF, zA, hle, decide_false, qA, qG, qzL, ↓reduceIte, qX, zt, hw1, Nat.reduceEqDiff, qS, zc, zz, kD, qzS, qzV, kg, kY, ku, qzM, kl, Nat.reduceAdd, Nat.reduceLT, kw, qzX, qzU, kn, kJ, kz, qy, qzN, qzT, qf, qR, qN, ql, qY, c0, qz, qg, qk, qw, ko, Int.reduceEq, decide_true, c1, qz7, e2, e3, kP, jQ, List.reduceReplicate, zI, zW, jk, ji, yS, jI, jl, yz, c4, kI, jc, x4, yJ, zZ, zY, qam, zX, qzY, e5, e6, qU, qo, kE, q9, qs, kF, hw2, qT, qO, qe, qI, kv, qj, qt, qZ]
    refine kX hid ?_ ?_ <;> omega
  · skip
    obtain ⟨t1, j1, q1, n1, s1, l1, m1, u1, c1⟩ := hnum i1 n1
    obtain ⟨r2, y2, _, e2⟩ := cat (txl 1 [40] rfl) q1 (by omega)
    obtain ⟨r3, y3, _, e3⟩ := cat y2 (txl 5 [32, 77, 79, 68, 32] rfl) (by omega)
    obtain ⟨v4, j4, z4, w4, n4, s4, l4, m4, u4, c4⟩ := jm hL hid (d := (d : Nat)) (n := 3) (by omega) (by omega) n1
    obtain ⟨t4, q4, x4⟩ : ∃ t, Tx 1 t ∧ iaV (.d (.sl [D.s [52], D.s [53], D.s [110]])) (.d (.i .i64 v4)) 1 none = some (.cp (.s t)) := qbl [[52], [53], [110]] 1 rfl z4 w4
    obtain ⟨r5, y5, _, e5⟩ := cat y3 q4 (by omega)
    obtain ⟨r6, y6, _, e6⟩ := cat y5 (txl 1 [41] rfl) (by omega)
    refine ⟨r6, j4, y6.le (by omega), n4, ?_⟩
    rw [kf (fn := kj) rfl rfl]
    simp only [kj, qm, qzP, qp, qH, qC, qD, qq, qh, kQ, qP, qQ, ke, qd, qi, kO, reduceCtorEq, qK, qJ, qW, qE, kr, qL, qr, qB, kU, qV, kp, hg, kR, qzQ, qzO, qzW, ky, qn, ki, kx, qzR, qF, zA, hle, decide_false, qA, qG, qzL, ↓reduceIte, qX, zt, hw1, Nat.reduceEqDiff, qS, zc, zz, kD, qzS, qzV, kg, kY, ku, qzM, kl, Nat.reduceAdd, Nat.reduceLT, kw, qzX, qzU, kn, kJ, kz, qy, qzN, qzT, qf, qR, qN, ql, qY, c0, qz, qg, qk, qw, ko, Int.reduceEq, decide_true, c1, qz7, e2, e3, kP, jQ, List.reduceReplicate, zI, zW, jk, ji, yS, jI, jl, yz, c4, kI, jc, x4, yJ, zZ, zY, qam, zX, qzY, e5, e6, qU, qo, kE, q9, qs, kF, hw2, qT, qO, qe, qI, kv, qj, qt, qZ]
    refine kX hid ?_ ?_ <;> omega
  · skip
    obtain ⟨t1, j1, q1, n1, s1, l1, m1, u1, c1⟩ := hnum i1 n1
    obtain ⟨r2, y2, _, e2⟩ := cat (txl 2 [97, 91] rfl) q1 (by omega)
    obtain ⟨r3, y3, _, e3⟩ := cat y2 (txl 7 [32, 77, 79, 68, 32, 52, 93] rfl) (by omega)
    refine ⟨r3, j1, y3.le (by omega), n1, ?_⟩
    rw [kf (fn := kj) rfl rfl]
    simp only [kj, qm, qzP, qp, qH, qC, qD, qq, qh, kQ, qP, qQ, ke, qd, qi, kO, reduceCtorEq, qK, qJ, qW, qE, kr, qL, qr, qB, kU, qV, kp, hg, kR, qzQ, qzO, qzW, ky, qn, ki, kx, qzR, qF, zA, hle, decide_false, qA, qG, qzL, ↓reduceIte, qX, zt, hw1, Nat.reduceEqDiff, qS, zc, zz, kD, qzS, qzV, kg, kY, ku, qzM, kl, Nat.reduceAdd, Nat.reduceLT, kw, qzX, qzU, kn, kJ, kz, qy, qzN, qzT, qf, qR, qN, ql, qY, c0, qz, qg, qk, qw, ko, Int.reduceEq, decide_true, c1, qz7, e2, e3, qU, qo, kE, q9, qs, kF, hw2, qT, qO, qe, qI, kv, qj, qt, qZ]
    refine kX hid ?_ ?_ <;> omega
  · skip
    obtain ⟨t1, j1, q1, n1, s1, l1, m1, u1, c1⟩ := hnum i1 n1
    obtain ⟨r2, y2, _, e2⟩ := cat (txl 2 [102, 40] rfl) q1 (by omega)
    obtain ⟨r3, y3, _, e3⟩ := cat y2 (txl 2 [44, 32] rfl) (by omega)
    obtain ⟨v4, j4, z4, w4, n4, s4, l4, m4, u4, c4⟩ := jm hL hid (d := (d : Nat)) (n := 3) (by omega) (by omega) n1
    obtain ⟨t4, q4, x4⟩ : ∃ t, Tx 7 t ∧ iaV (.d (.sl [D.s [50], D.s [51], D.s [106, 32, 77, 79, 68, 32, 52]])) (.d (.i .i64 v4)) 1 none = some (.cp (.s t)) := qbl [[50], [51], [106, 32, 77, 79, 68, 32, 52]] 7 rfl z4 w4
    obtain ⟨r5, y5, _, e5⟩ := cat y3 q4 (by omega)
    obtain ⟨r6, y6, _, e6⟩ := cat y5 (txl 1 [41] rfl) (by omega)
    refine ⟨r6, j4, y6.le (by omega), n4, ?_⟩
    rw [kf (fn := kj) rfl rfl]
    simp only [kj, qm, qzP, qp, qH, qC, qD, qq, qh, kQ, qP, qQ, ke, qd, qi, kO, reduceCtorEq, qK, qJ, qW, qE, kr, qL, qr, qB, kU, qV, kp, hg, kR, qzQ, qzO, qzW, ky, qn, ki, kx, qzR, qF, zA, hle, decide_false, qA, qG, qzL, ↓reduceIte, qX, zt, hw1, Nat.reduceEqDiff, qS, zc, zz, kD, qzS, qzV, kg, kY, ku, qzM, kl, Nat.reduceAdd, Nat.reduceLT, kw, qzX, qzU, kn, kJ, kz, qy, qzN, qzT, qf, qR, qN, ql, qY, c0, qz, qg, qk, qw, ko, Int.reduceEq, decide_true, c1, qz7, e2, e3, kP, jQ, List.reduceReplicate, zI, zW, jk, ji, yS, jI, jl, yz, c4, kI, jc, x4, yJ, zZ, zY, qam, zX, qzY, e5, e6, qU, qo, kE, q9, qs, kF, hw2, qT, qO, qe, qI, kv, qj, qt, qZ]
    refine kX hid ?_ ?_ <;> omega
  · skip
    obtain ⟨t1, j1, q1, n1, s1, l1, m1, u1, c1⟩ := hchar i1 n1
    obtain ⟨r2, y2, _, e2⟩ := cat (txl 4 [79, 82, 68, 40] rfl) q1 (by omega)
    obtain ⟨r3, y3, _, e3⟩ := cat y2 (txl 1 [41] rfl) (by omega)
    refine ⟨r3, j1, y3.le (by omega), n1, ?_⟩
    rw [kf (fn := kj) rfl rfl]
    simp only [kj, qm, qzP, qp, qH, qC, qD, qq, qh, kQ, qP, qQ, ke, qd, qi, kO, reduceCtorEq, qK, qJ, qW, qE, kr, qL, qr, qB, kU, qV, kp, hg, kR, qzQ, qzO, qzW, ky, qn, ki, kx, qzR, qF, zA, hle, decide_false, qA, qG, qzL, ↓reduceIte, qX, zt, hw1, Nat.reduceEqDiff, qS, zc, zz, kD, qzS, qzV, kg, kY, ku, qzM, kl, Nat.reduceAdd, Nat.reduceLT, kw, qzX, qzU, kn, kJ, kz, qy, qzN, qzT, qf, qR, qN, ql, qY, c0, qz, qg, qk, qw, ko, Int.reduceEq, decide_true, c1, qz7, e2, e3, qU, qo, kE, q9, qs, kF, hw2, qT, qO, qe, qI, kv, qj, qt, qZ]
    refine kX hid ?_ ?_ <;> omega
  · skip
    obtain ⟨t1, j1, q1, n1, s1, l1, m1, u1, c1⟩ := hnum i1 n1
    obtain ⟨r2, y2, _, e2⟩ := cat (txl 4 [65, 66, 83, 40] rfl) q1 (by omega)
    obtain ⟨r3, y3, _, e3⟩ := cat y2 (txl 1 [41] rfl) (by omega)
    refine ⟨r3, j1, y3.le (by omega), n1, ?_⟩
    rw [kf (fn := kj) rfl rfl]
    simp only [kj, qm, qzP, qp, qH, qC, qD, qq, qh, kQ, qP, qQ, ke, qd, qi, kO, reduceCtorEq, qK, qJ, qW, qE, kr, qL, qr, qB, kU, qV, kp, hg, kR, qzQ, qzO, qzW, ky, qn, ki, kx, qzR, qF, zA, hle, decide_false, qA, qG, qzL, ↓reduceIte, qX, zt, hw1, Nat.reduceEqDiff, qS, zc, zz, kD, qzS, qzV, kg, kY, ku, qzM, kl, Nat.reduceAdd, Nat.reduceLT, kw, qzX, qzU, kn, kJ, kz, qy, qzN, qzT, qf, qR, qN, ql, qY, c0, qz, qg, qk, qw, ko, Int.reduceEq, decide_true, c1, qz7, e2, e3, qU, qo, kE, q9, qs, kF, hw2, qT, qO, qe, qI, kv, qj, qt, qZ]
    refine kX hid ?_ ?_ <;> omega
  · skip
    obtain ⟨v1, j1, z1, w1, n1, s1, l1, m1, u1, c1⟩ := jm hL hid (d := (d : Nat)) (n := 3) (by omega) (by omega) n1
    obtain ⟨t1, q1, x1⟩ : ∃ t, Tx 3 t ∧ iaV (.d (.sl [D.s [76, 83, 76], D.s [65, 83, 82], D.s [82, 79, 82]])) (.d (.i .i64 v1)) 1 none = some (.cp (.s t)) := qbl [[76, 83, 76], [65, 83, 82], [82, 79, 82]] 3 rfl z1 w1
    obtain ⟨r2, y2, _, e2⟩ := cat q1 (txl 1 [40] rfl) (by omega)
    obtain ⟨t3, j3, q3, n3, s3, l3, m3, u3, c3⟩ := hnum j1 n1
    obtain ⟨r4, y4, _, e4⟩ := cat y2 q3 (by omega)
    obtain ⟨r5, y5, _, e5⟩ := cat y4 (txl 2 [44, 32] rfl) (by omega)
    obtain ⟨t6, j6, q6, n6, s6, l6, m6, u6, c6⟩ := hnum j3 n3
    obtain ⟨r7, y7, _, e7⟩ := cat y5 q6 (by omega)
    obtain ⟨r8, y8, _, e8⟩ := cat y7 (txl 1 [41] rfl) (by omega)
    refine ⟨r8, j6, y8.le (by omega), n6, ?_⟩
    rw [kf (fn := kj) rfl rfl]
    simp only [kj, qm, qzP, qp, qH, qC, qD, qq, qh, kQ, qP, qQ, ke, qd, qi, kO, reduceCtorEq, qK, qJ, qW, qE, kr, qL, qr, qB, kU, qV, kp, hg, kR, qzQ, qzO, qzW, ky, qn, ki, kx, qzR, qF, zA, hle, decide_false, qA, qG, qzL, ↓reduceIte, qX, zt, hw1, Nat.reduceEqDiff, qS, zc, zz, kD, qzS, qzV, kg, kY, ku, qzM, kl, Nat.reduceAdd, Nat.reduceLT, kw, qzX, qzU, kn, kJ, kz, qy, qzN, qzT, qf, qR, qN, ql, qY, c0, qz, qg, qk, qw, ko, Int.reduceEq, decide_true, jg, zS, kP, jQ, List.reduceReplicate, zI, zW, jk, ji, yS, jI, jl, zQ, qdb, zR, jE, c1, zx, yp, kI, jc, x1, qef, zZ, zY, qam, zX, e2, c3, qzY, e4, e5, c6, e7, e8, zy, qU, qo, kE, q9, qs, kF, hw2, qT, qO, qe, qI, kv, qj, qt, qZ]
    refine kX hid ?_ ?_ <;> omega
  · skip
    obtain ⟨t1, j1, q1, n1, s1, l1, m1, u1, c1⟩ := hleaf i1 n1
    obtain ⟨r2, y2, _, e2⟩ := cat (txl 2 [40, 45] rfl) q1 (by omega)
    obtain ⟨r3, y3, _, e3⟩ := cat y2 (txl 1 [41] rfl) (by omega)
    refine ⟨r3, j1, y3.le (by omega), n1, ?_⟩
    rw [kf (fn := kj) rfl rfl]
    simp only [kj, qm, qzP, qp, qH, qC, qD, qq, qh, kQ, qP, qQ, ke, qd, qi, kO, reduceCtorEq, qK, qJ, qW, qE, kr, qL, qr, qB, kU, qV, kp, hg, kR, qzQ, qzO, qzW, ky, qn, ki, kx, qzR, qF, zA, hle, decide_false, qA, qG, qzL, ↓reduceIte, qX, zt, hw1, Nat.reduceEqDiff, qS, zc, zz, kD, qzS, qzV, kg, kY, ku, qzM, kl, Nat.reduceAdd, Nat.reduceLT, kw, qzX, qzU, kn, kJ, kz, qy, qzN, qzT, qf, qR, qN, ql, qY, c0, qz, qg, qk, qw, ko, Int.reduceEq, decide_true, c1, qz7, e2, e3, qU, qo, kE, q9, qs, kF, hw2, qT, qO, qe, qI, kv, qj, qt, qZ]
    refine kX hid ?_ ?_ <;> omega
  · skip
    obtain ⟨v1, j1, z1, w1, n1, s1, l1, m1, u1, c1⟩ := jm hL hid (d := (d : Nat)) (n := 6) (by omega) (by omega) n1
    obtain ⟨t1, q1, x1⟩ : ∃ t, Tx 8 t ∧ iaV (.d (.sl [D.s [112, 46, 120], D.s [113, 46, 121], D.s [112, 46, 110, 101, 120, 116, 46, 120], D.s [117, 46, 120], D.s [113, 40, 83, 41, 46, 120], D.s [97, 91, 106, 93]])) (.d (.i .i64 v1)) 1 none = some (.cp (.s t)) := qbl [[112, 46, 120], [113, 46, 121], [112, 46, 110, 101, 120, 116, 46, 120], [117, 46, 120], [113, 40, 83, 41, 46, 120], [97, 91, 106, 93]] 8 rfl z1 w1
    refine ⟨t1, j1, q1.le (by omega), n1, ?_⟩
    rw [kf (fn := kj) rfl rfl]
    simp only [kj, qm, qzP, qp, qH, qC, qD, qq, qh, kQ, qP, qQ, ke, qd, qi, kO, reduceCtorEq, qK, qJ, qW, qE, kr, qL, qr, qB, kU, qV, kp, hg, kR, qzQ, qzO, qzW, ky, qn, ki, kx, qzR, qF, zA, hle, decide_false, qA, qG, qzL, ↓reduceIte, qX, zt, hw1, Nat.reduceEqDiff, qS, zc, zz, kD, qzS, qzV, kg, kY, ku, qzM, kl, Nat.reduceAdd, Nat.reduceLT, kw, qzX, qzU, kn, kJ, kz, qy, qzN, qzT, qf, qR, qN, ql, qY, c0, qz, qg, qk, qw, ko, Int.reduceEq, decide_true, kP, jQ, List.reduceReplicate, zI, zW, jk, ji, yS, jI, jl, yz, c1, kI, jc, x1, yJ, zZ, zY, qam, zX, qU, qo, kE, q9, qs, kF, hw2, qT, qO, qe, qI, kv, qj, qt, qZ]
    refine kX hid ?_ ?_ <;> omega
  · skip
    obtain ⟨t1, j1, q1, n1, s1, l1, m1, u1, c1⟩ := hset i1 n1
    obtain ⟨r2, y2, _, e2⟩ := cat (txl 4 [79, 82, 68, 40] rfl) q1 (by omega)
    obtain ⟨r3, y3, _, e3⟩ := cat y2 (txl 1 [41] rfl) (by omega)
    refine ⟨r3, j1, y3.le (by omega), n1, ?_⟩
    rw [kf (fn := kj) rfl rfl]
    simp only [kj, qm, qzP, qp, qH, qC, qD, qq, qh, kQ, qP, qQ, ke, qd, qi, kO, reduceCtorEq, qK, qJ, qW, qE, kr, qL, qr, qB, kU, qV, kp, hg, kR, qzQ, qzO, qzW, ky, qn, ki, kx, qzR, qF, zA, hle, decide_false, qA, qG, qzL, ↓reduceIte, qX, zt, hw1, Nat.reduceEqDiff, qS, zc, zz, kD, qzS, qzV, kg, kY, ku, qzM, kl, Nat.reduceAdd, Nat.reduceLT, kw, qzX, qzU, kn, kJ, kz, qy, qzN, qzT, qf, qR, qN, ql, qY, c0, qz, qg, qk, qw, ko, Int.reduceEq, decide_true, c1, qz7, e2, e3, qU, qo, kE, q9, qs, kF, hw2, qT, qO, qe, qI, kv, qj, qt, qZ]
    refine kX hid ?_ ?_ <;> omega
  · skip
    obtain ⟨t1, j1, q1, n1, s1, l1, m1, u1, c1⟩ := hcond i1 n1
    obtain ⟨r2, y2, _, e2⟩ := cat (txl 4 [79, 82, 68, 40] rfl) q1 (by omega)
    obtain ⟨r3, y3, _, e3⟩ := cat y2 (txl 1 [41] rfl) (by omega)
    refine ⟨r3, j1, y3.le (by omega), n1, ?_⟩
    rw [kf (fn := kj) rfl rfl]
    simp only [kj, qm, qzP, qp, qH, qC, qD, qq, qh, kQ, qP, qQ, ke, qd, qi, kO, reduceCtorEq, qK, qJ, qW, qE, kr, qL, qr, qB, kU, qV, kp, hg, kR, qzQ, qzO, qzW, ky, qn, ki, kx, qzR, qF, zA, hle, decide_false, qA, qG, qzL, ↓reduceIte, qX, zt, hw1, Nat.reduceEqDiff, qS, zc, zz, kD, qzS, qzV, kg, kY, ku, qzM, kl, Nat.reduceAdd, Nat.reduceLT, kw, qzX, qzU, kn, kJ, kz, qy, qzN, qzT, qf, qR, qN, ql, qY, c0, qz, qg, qk, qw, ko, Int.reduceEq, decide_true, c1, qz7, e2, e3, qU, qo, kE, q9, qs, kF, hw2, qT, qO, qe, qI, kv, qj, qt, qZ]
    refine kX hid ?_ ?_ <;> omega
  · skip
    obtain ⟨t1, j1, q1, n1, s1, l1, m1, u1, c1⟩ := hleaf i1 n1
    obtain ⟨r2, y2, _, e2⟩ := cat (txl 1 [40] rfl) q1 (by omega)
    obtain ⟨r3, y3, _, e3⟩ := cat y2 (txl 3 [32, 43, 32] rfl) (by omega)
    obtain ⟨t4, j4, q4, n4, s4, l4, m4, u4, c4⟩ := hleaf j1 n1
    obtain ⟨r5, y5, _, e5⟩ := cat y3 q4 (by omega)
    obtain ⟨r6, y6, _, e6⟩ := cat y5 (txl 1 [41] rfl) (by omega)
    refine ⟨r6, j4, y6.le (by omega), n4, ?_⟩
    rw [kf (fn := kj) rfl rfl]
    simp only [kj, qm, qzP, qp, qH, qC, qD, qq, qh, kQ, qP, qQ, ke, qd, qi, kO, reduceCtorEq, qK, qJ, qW, qE, kr, qL, qr, qB, kU, qV, kp, hg, kR, qzQ, qzO, qzW, ky, qn, ki, kx, qzR, qF, zA, hle, decide_false, qA, qG, qzL, ↓reduceIte, qX, zt, hw1, Nat.reduceEqDiff, qS, zc, zz, kD, qzS, qzV, kg, kY, ku, qzM, kl, Nat.reduceAdd, Nat.reduceLT, kw, qzX, qzU, kn, kJ, kz, qy, qzN, qzT, qf, qR, qN, ql, qY, c0, qz, qg, qk, qw, ko, Int.reduceEq, c1, qz7, e2, e3, c4, qzY, e5, e6, qU, qo, kE, q9, qs, kF, hw2, qT, qO, qe, qI, kv, qj, qt, qZ]
    refine kX hid ?_ ?_ <;> omega
  · skip
    obtain ⟨t1, j1, q1, n1, s1, l1, m1, u1, c1⟩ := hleaf i1 n1
    obtain ⟨r2, y2, _, e2⟩ := cat (txl 1 [40] rfl) q1 (by omega)
    obtain ⟨r3, y3, _, e3⟩ := cat y2 (txl 3 [32, 43, 32] rfl) (by omega)
    obtain ⟨t4, j4, q4, n4, s4, l4, m4, u4, c4⟩ := hleaf j1 n1
    obtain ⟨r5, y5, _, e5⟩ := cat y3 q4 (by omega)
    obtain ⟨r6, y6, _, e6⟩ := cat y5 (txl 1 [41] rfl) (by omega)
    refine ⟨r6, j4, y6.le (by omega), n4, ?_⟩
    rw [kf (fn := kj) rfl rfl]
    simp only [kj, qm, qzP, qp, qH, qC, qD, qq, qh, kQ, qP, qQ, ke, qd, qi, kO, reduceCtorEq, qK, qJ, qW, qE, kr, qL, qr, qB, kU, qV, kp, hg, kR, qzQ, qzO, qzW, ky, qn, ki, kx, qzR, qF, zA, hle, decide_false, qA, qG, qzL, ↓reduceIte, qX, zt, hw1, Nat.reduceEqDiff, qS, zc, zz, kD, qzS, qzV, kg, kY, ku, qzM, kl, Nat.reduceAdd, Nat.reduceLT, kw, qzX, qzU, kn, kJ, kz, qy, qzN, qzT, qf, qR, qN, ql, qY, c0, qz, qg, qk, qw, ko, Int.reduceEq, c1, qz7, e2, e3, c4, qzY, e5, e6, qU, qo, kE, q9, qs, kF, hw2, qT, qO, qe, qI, kv, qj, qt, qZ]
    refine kX hid ?_ ?_ <;> omega
end W

set_option linter.unusedSimpArgs false
set_option linter.unusedVariables false
namespace W
open Go (IntKind BinOp UnOp)
set_option maxRecDepth 20000
theorem qp8 {Ld : D} {n : Nat} (hL : GL Ld n) {H : List Obj} {id : Nat} (hid : id < H.length) {d b : Nat} (hd : d ≤ 100) (hb : b ≤ 1000000000000)
    (hleaf : GC 72 [] b Ld n H id ((d : Nat) : Int)) (hnum : GC 56 [] b Ld n H id ((d : Nat) : Int)) (hset : GC 71 [] b Ld n H id ((d : Nat) : Int)) (hcond : GC 55 [] b Ld n H id ((d : Nat) : Int)) : GC 55 [] (2 * b + 40) Ld n H id ((d + 1 : Nat) : Int) := by
  intro i0 n0
  have hg : ∀ o, (zp H id o)[id]? = some o := qip hid
  have hle : (((d + 1 : Nat) : Int) ≤ 0) = False := eq_false (by omega)
  have hw1 : wr .i64 (((d + 1 : Nat) : Int) - 1) = (d : Nat) := by rw [jn (by omega) (by omega)]; omega
  have hw2 : wr .i64 ((d : Nat) + 1 : Int) = ((d + 1 : Nat) : Int) := by rw [jn (by omega) (by omega)]; omega
  obtain ⟨v, i1, z0, w0, n1, s0, l0, m0, u0, c0⟩ := jm hL hid (d := (d : Nat)) (n := 14) (by omega) (by omega) n0
  have hv : v = 0 ∨ v = 1 ∨ v = 2 ∨ v = 3 ∨ v = 4 ∨ v = 5 ∨ v = 6 ∨ v = 7 ∨ v = 8 ∨ v = 9 ∨ v = 10 ∨ v = 11 ∨ v = 12 ∨ v = 13 := by omega
  rcases hv with rfl | rfl | rfl | rfl | rfl | rfl | rfl | rfl | rfl | rfl | rfl | rfl | rfl | rfl
  · skip
    refine ⟨[98], i1, (txl 1 [98] rfl).le (by omega), n1, ?_⟩
    rw [kf (fn := kH) rfl rfl]
    simp only [kH, qm, qzP, qp, qH, qC, qD, qq, qh, kQ, qP, qQ, ke, qd, qi, kO, reduceCtorEq, qK, qJ, qW, qE, kr, qL, qr, qB, kU, qV, kp, hg, kR, qzQ, qzO, qzW, ky, qn, ki, kx, qzR, qF, zA, hle, decide_false, qA, qG, qzL, ↓reduceIte, qX, zt, hw1, Nat.reduceEqDiff, qS, zc, zz, kD, qzS, qzV, kg, kY, ku, qzM, kl, Nat.reduceAdd, Nat.reduceLT, kw, qzX, qzU, kn, kJ, kz, qy, qzN, qzT, qf, qR, qN, ql, qY, c0, qz, qg, qk, qw, ko, decide_true, qU, qo, kE, q9, qs, kF, hw2, qT, qO, qe, qI, kv, qj, qt, qZ]
    refine kX hid ?_ ?_ <;> omega
  · skip
    obtain ⟨t1, j1, q1, n1, s1, l1, m1, u1, c1⟩ := hnum i1 n1
    obtain ⟨v2, j2, z2, w2, n2, s2, l2, m2, u2, c2⟩ := jm hL hid (d := (d : Nat)) (n := 6) (by omega) (by omega) n1
    obtain ⟨t2, q2, x2⟩ : ∃ t, Tx 4 t ∧ iaV (.d (.sl [D.s [32, 60, 32], D.s [32, 60, 61, 32], D.s [32, 62, 32], D.s [32, 62, 61, 32], D.s [32, 61, 32], D.s [32, 35, 32]])) (.d (.i .i64 v2)) 1 none = some (.cp (.s t)) := qbl [[32, 60, 32], [32, 60, 61, 32], [32, 62, 32], [32, 62, 61, 32], [32, 61, 32], [32, 35, 32]] 4 rfl z2 w2
    obtain ⟨r3, y3, _, e3⟩ := cat q1 q2 (by omega)
    obtain ⟨t4, j4, q4, n4, s4, l4, m4, u4, c4⟩ := hnum j2 n2
    obtain ⟨r5, y5, _, e5⟩ := cat y3 q4 (by omega)
    refine ⟨r5, j4, y5.le (by omega), n4, ?_⟩
    rw [kf (fn := kH) rfl rfl]
    simp only [kH, qm, qzP, qp, qH, qC, qD, qq, qh, kQ, qP, qQ, ke, qd, qi, kO, reduceCtorEq, qK, qJ, qW, qE, kr, qL, qr, qB, kU, qV, kp, hg, kR, qzQ, qzO, qzW, ky, qn, ki, kx, qzR, qF, zA, hle, decide_false, qA, qG, qzL, ↓reduceIte, qX, zt, hw1, Nat.reduceEqDiff, qS, zc, zz, kD, qzS, qzV, kg, kY, ku, qzM, kl, Nat.reduceAdd, Nat.reduceLT, kw, qzX, qzU, kn, kJ, kz, qy, qzN, qzT, qf, qR, qN, ql, qY, c0, qz, qg, qk, qw, ko, Int.reduceEq, decide_true, jg, zS, zQ, jE, zR, c1, zx, yp, kP, jQ, List.reduceReplicate, zI, zW, jk, ji, yS, jI, jl, qdb, c2, kI, jc, x2, qef, zZ, zY, qam, zX, qzY, e3, c4, e5, zy, qU, qo, kE, q9, qs, kF, hw2, qT, qO, qe, qI, kv, qj, qt, qZ]
    refine kX hid ?_ ?_ <;> omega
  · skip
    obtain ⟨t1, j1, q1, n1, s1, l1, m1, u1, c1⟩ := hcond i1 n1
    obtain ⟨r2, y2, _, e2⟩ := cat (txl 1 [40] rfl) q1 (by omega)
    obtain ⟨r3, y3, _, e3⟩ := cat y2 (txl 5 [41, 32, 38, 32, 40] rfl) (by omega)
    obtain ⟨t4, j4, q4, n4, s4, l4, m4, u4, c4⟩ := hcond j1 n1
    obtain ⟨r5, y5, _, e5⟩ := cat y3 q4 (by omega)
    obtain ⟨r6, y6, _, e6⟩ := cat y5 (txl 1 [41] rfl) (by omega)
    refine ⟨r6, j4, y6.le (by omega), n4, ?_⟩
    rw [kf (fn := kH) rfl rfl]
    simp only [kH, qm, qzP, qp, qH, qC, qD, qq, qh, kQ, qP, qQ, ke, qd, qi, kO, reduceCtorEq, qK, qJ, qW, qE, kr, qL, qr, qB, kU, qV, kp, hg, kR, qzQ, qzO, qzW, ky, qn, ki, kx, qzR, qF, zA, hle, decide_false, qA, qG, qzL, ↓reduceIte, qX, zt, hw1, Nat.reduceEqDiff, qS, zc, zz, kD, qzS, qzV, kg, kY, ku, qzM, kl, Nat.reduceAdd, Nat.reduceLT, kw, qzX, qzU, kn, kJ, kz, qy, qzN, qzT, qf, qR, qN, ql, qY, c0, qz, qg, qk, qw, ko, Int.reduceEq, decide_true, c1, qz7, e2, e3, c4, qzY, e5, e6, qU, qo, kE, q9, qs, kF, hw2, qT, qO, qe, qI, kv, qj, qt, qZ]
    refine kX hid ?_ ?_ <;> omega
  · skip
    obtain ⟨t1, j1, q1, n1, s1, l1, m1, u1, c1⟩ := hcond i1 n1
    obtain ⟨r2, y2, _, e2⟩ := cat (txl 1 [40] rfl) q1 (by omega)
    obtain ⟨r3, y3, _, e3⟩ := cat y2 (txl 6 [41, 32, 79, 82, 32, 40] rfl) (by omega)
    obtain ⟨t4, j4, q4, n4, s4, l4, m4, u4, c4⟩ := hcond j1 n1
    obtain ⟨r5, y5, _, e5⟩ := cat y3 q4 (by omega)
    obtain ⟨r6, y6, _, e6⟩ := cat y5 (txl 1 [41] rfl) (by omega)
    refine ⟨r6, j4, y6.le (by omega), n4, ?_⟩
    rw [kf (fn := kH) rfl rfl]
    simp only [kH, qm, qzP, qp, qH, qC, qD, qq, qh, kQ, qP, qQ, ke, qd, qi, kO, reduceCtorEq, qK, qJ, qW, qE, kr, qL, qr, qB, kU, qV, kp, hg, kR, qzQ, qzO, qzW, ky, qn, ki, kx, qzR, qF, zA, hle, decide_false, qA, qG, qzL, ↓reduceIte, qX, zt, hw1, Nat.reduceEqDiff, qS, zc, zz, kD, qzS, qzV, kg, kY, ku, qzM, kl, Nat.reduceAdd, Nat.reduceLT, kw, qzX, qzU, kn, kJ, kz, qy, qzN, qzT, qf, qR, qN, ql, qY, c0, qz, qg, qk, qw, ko, Int.reduceEq, decide_true, c1, qz7, e2, e3, c4, qzY, e5, e6, qU, qo, kE, q9, qs, kF, hw2, qT, qO, qe, qI, kv, qj, qt, qZ]
    refine kX hid ?_ ?_ <;> omega
  · skip
    obtain ⟨t1, j1, q1, n1, s1, l1, m1, u1, c1⟩ := hcond i1 n1
    obtain ⟨r2, y2, _, e2⟩ := cat (txl 2 [126, 40] rfl) q1 (by omega)
    obtain ⟨r3, y3, _, e3⟩ := cat y2 (txl 1 [41] rfl) (by omega)
    refine ⟨r3, j1, y3.le (by omega), n1, ?_⟩
    rw [kf (fn := kH) rfl rfl]
    simp only [kH, qm, qzP, qp, qH, qC, qD, qq, qh, kQ, qP, qQ, ke, qd, qi, kO, reduceCtorEq, qK, qJ, qW, qE, kr, qL, qr, qB, kU, qV, kp, hg, kR, qzQ, qzO, qzW, ky, qn, ki, kx, qzR, qF, zA, hle, decide_false, qA, qG, qzL, ↓reduceIte, qX, zt, hw1, Nat.reduceEqDiff, qS, zc, zz, kD, qzS, qzV, kg, kY, ku, qzM, kl, Nat.reduceAdd, Nat.reduceLT, kw, qzX, qzU, kn, kJ, kz, qy, qzN, qzT, qf, qR, qN, ql, qY, c0, qz, qg, qk, qw, ko, Int.reduceEq, decide_true, c1, qz7, e2, e3, qU, qo, kE, q9, qs, kF, hw2, qT, qO, qe, qI, kv, qj, qt, qZ]
    refine kX hid ?_ ?_ <;> omega
  · skip
    obtain ⟨t1, j1, q1, n1, s1, l1, m1, u1, c1⟩ := hnum i1 n1
    obtain ⟨r2, y2, _, e2⟩ := cat q1 (txl 4 [32, 73, 78, 32] rfl) (by omega)
    obtain ⟨t3, j3, q3, n3, s3, l3, m3, u3, c3⟩ := hset j1 n1
    obtain ⟨r4, y4, _, e4⟩ := cat y2 q3 (by omega)
    refine ⟨r4, j3, y4.le (by omega), n3, ?_⟩
    rw [kf (fn := kH) rfl rfl]
    simp only [kH, qm, qzP, qp, qH, qC, qD, qq, qh, kQ, qP, qQ, ke, qd, qi, kO, reduceCtorEq, qK, qJ, qW, qE, kr, qL, qr, qB, kU, qV, kp, hg, kR, qzQ, qzO, qzW, ky, qn, ki, kx, qzR, qF, zA, hle, decide_false, qA, qG, qzL, ↓reduceIte, qX, zt, hw1, Nat.reduceEqDiff, qS, zc, zz, kD, qzS, qzV, kg, kY, ku, qzM, kl, Nat.reduceAdd, Nat.reduceLT, kw, qzX, qzU, kn, kJ, kz, qy, qzN, qzT, qf, qR, qN, ql, qY, c0, qz, qg, qk, qw, ko, Int.reduceEq, decide_true, c1, e2, c3, qzY, e4, qU, qo, kE, q9, qs, kF, hw2, qT, qO, qe, qI, kv, qj, qt, qZ]
    refine kX hid ?_ ?_ <;> omega
  · skip
    obtain ⟨t1, j1, q1, n1, s1, l1, m1, u1, c1⟩ := hnum i1 n1
    obtain ⟨r2, y2, _, e2⟩ := cat (txl 4 [79, 68, 68, 40] rfl) q1 (by omega)
    obtain ⟨r3, y3, _, e3⟩ := cat y2 (txl 1 [41] rfl) (by omega)
    refine ⟨r3, j1, y3.le (by omega), n1, ?_⟩
    rw [kf (fn := kH) rfl rfl]
    simp only [kH, qm, qzP, qp, qH, qC, qD, qq, qh, kQ, qP, qQ, ke, qd, qi, kO, reduceCtorEq, qK, qJ, qW, qE, kr, qL, qr, qB, kU, qV, kp, hg, kR, qzQ, qzO, qzW, ky, qn, ki, kx, qzR, qF, zA, hle, decide_false, qA, qG, qzL, ↓reduceIte, qX, zt, hw1, Nat.reduceEqDiff, qS, zc, zz, kD, qzS, qzV, kg, kY, ku, qzM, kl, Nat.reduceAdd, Nat.reduceLT, kw, qzX, qzU, kn, kJ, kz, qy, qzN, qzT, qf, qR, qN, ql, qY, c0, qz, qg, qk, qw, ko, Int.reduceEq, decide_true, c1, qz7, e2, e3, qU, qo, kE, q9, qs, kF, hw2, qT, qO, qe, qI, kv, qj, qt, qZ]
    refine kX hid ?_ ?_ <;> omega
  · skip
    obtain ⟨v1, j1, z1, w1, n1, s1, l1, m1, u1, c1⟩ := jm hL hid (d := (d : Nat)) (n := 5) (by omega) (by omega) n1
    obtain ⟨t1, q1, x1⟩ : ∃ t, Tx 7 t ∧ iaV (.d (.sl [D.s [112, 32, 61, 32, 78, 73, 76], D.s [112, 32, 35, 32, 113], D.s [111, 40, 112, 41], D.s [112, 32, 61, 32, 117], D.s [78, 73, 76, 32, 35, 32, 113]])) (.d (.i .i64 v1)) 1 none = some (.cp (.s t)) := qbl [[112, 32, 61, 32, 78, 73, 76], [112, 32, 35, 32, 113], [111, 40, 112, 41], [112, 32, 61, 32, 117], [78, 73, 76, 32, 35, 32, 113]] 7 rfl z1 w1
    refine ⟨t1, j1, q1.le (by omega), n1, ?_⟩
    rw [kf (fn := kH) rfl rfl]
    simp only [kH, qm, qzP, qp, qH, qC, qD, qq, qh, kQ, qP, qQ, ke, qd, qi, kO, reduceCtorEq, qK, qJ, qW, qE, kr, qL, qr, qB, kU, qV, kp, hg, kR, qzQ, qzO, qzW, ky, qn, ki, kx, qzR, qF, zA, hle, decide_false, qA, qG, qzL, ↓reduceIte, qX, zt, hw1, Nat.reduceEqDiff, qS, zc, zz, kD, qzS, qzV, kg, kY, ku, qzM, kl, Nat.reduceAdd, Nat.reduceLT, kw, qzX, qzU, kn, kJ, kz, qy, qzN, qzT, qf, qR, qN, ql, qY, c0, qz, qg, qk, qw, ko, Int.reduceEq, decide_true, kP, jQ, List.reduceReplicate, zI, zW, jk, ji, yS, jI, jl, yz, c1, kI, jc, x1, yJ, zZ, zY, qam, zX, qU, qo, kE, q9, qs, kF, hw2, qT, qO, qe, qI, kv, qj, qt, qZ]
    refine kX hid ?_ ?_ <;> omega
  · skip
    obtain ⟨v1, j1, z1, w1, n1, s1, l1, m1, u1, c1⟩ := jm hL hid (d := (d : Nat)) (n := 3) (by omega) (by omega) n1
    obtain ⟨t1, q1, x1⟩ : ∃ t, Tx 6 t ∧ iaV (.d (.sl [D.s [113, 32, 73, 83, 32, 83], D.s [112, 32, 73, 83, 32, 82], D.s [117, 32, 73, 83, 32, 83]])) (.d (.i .i64 v1)) 1 none = some (.cp (.s t)) := qbl [[113, 32, 73, 83, 32, 83], [112, 32, 73, 83, 32, 82], [117, 32, 73, 83, 32, 83]] 6 rfl z1 w1
    refine ⟨t1, j1, q1.le (by omega), n1, ?_⟩
    rw [kf (fn := kH) rfl rfl]
    simp only [kH, qm, qzP, qp, qH, qC, qD, qq, qh, kQ, qP, qQ, ke, qd, qi, kO, reduceCtorEq, qK, qJ, qW, qE, kr, qL, qr, qB, kU, qV, kp, hg, kR, qzQ, qzO, qzW, ky, qn, ki, kx, qzR, qF, zA, hle, decide_false, qA, qG, qzL, ↓reduceIte, qX, zt, hw1, Nat.reduceEqDiff, qS, zc, zz, kD, qzS, qzV, kg, kY, ku, qzM, kl, Nat.reduceAdd, Nat.reduceLT, kw, qzX, qzU, kn, kJ, kz, qy, qzN, qzT, qf, qR, qN, ql, qY, c0, qz, qg, qk, qw, ko, Int.reduceEq, decide_true, kP, jQ, List.reduceReplicate, zI, zW, jk, ji, yS, jI, jl, yz, c1, kI, jc, x1, yJ, zZ, zY, qam, zX, qU, qo, kE, q9, qs, kF, hw2, qT, qO, qe, qI, kv, qj, qt, qZ]
    refine kX hid ?_ ?_ <;> omega
  · skip
    obtain ⟨v1, j1, z1, w1, n1, s1, l1, m1, u1, c1⟩ := jm hL hid (d := (d : Nat)) (n := 3) (by omega) (by omega) n1
    obtain ⟨t1, q1, x1⟩ : ∃ t, Tx 4 t ∧ iaV (.d (.sl [D.s [32, 60, 32], D.s [32, 61, 32], D.s [32, 62, 61, 32]])) (.d (.i .i64 v1)) 1 none = some (.cp (.s t)) := qbl [[32, 60, 32], [32, 61, 32], [32, 62, 61, 32]] 4 rfl z1 w1
    obtain ⟨r2, y2, _, e2⟩ := cat (txl 1 [99] rfl) q1 (by omega)
    obtain ⟨v3, j3, z3, w3, n3, s3, l3, m3, u3, c3⟩ := jm hL hid (d := (d : Nat)) (n := 3) (by omega) (by omega) n1
    obtain ⟨t3, q3, x3⟩ : ∃ t, Tx 4 t ∧ iaV (.d (.sl [D.s [34, 109, 34], D.s [116, 91, 49, 93], D.s [50, 48, 88]])) (.d (.i .i64 v3)) 1 none = some (.cp (.s t)) := qbl [[34, 109, 34], [116, 91, 49, 93], [50, 48, 88]] 4 rfl z3 w3
    obtain ⟨r4, y4, _, e4⟩ := cat y2 q3 (by omega)
    refine ⟨r4, j3, y4.le (by omega), n3, ?_⟩
    rw [kf (fn := kH) rfl rfl]
    simp only [kH, qm, qzP, qp, qH, qC, qD, qq, qh, kQ, qP, qQ, ke, qd, qi, kO, reduceCtorEq, qK, qJ, qW, qE, kr, qL, qr, qB, kU, qV, kp, hg, kR, qzQ, qzO, qzW, ky, qn, ki, kx, qzR, qF, zA, hle, decide_false, qA, qG, qzL, ↓reduceIte, qX, zt, hw1, Nat.reduceEqDiff, qS, zc, zz, kD, qzS, qzV, kg, kY, ku, qzM, kl, Nat.reduceAdd, Nat.reduceLT, kw, qzX, qzU, kn, kJ, kz, qy, qzN, qzT, qf, qR, qN, ql, qY, c0, qz, qg, qk, qw, ko, Int.reduceEq, decide_true, jg, zS, kP, jQ, List.reduceReplicate, zI, zW, jk, ji, yS, jI, jl, zQ, qdb, zR, jE, c1, zx, yp, kI, jc, x1, qef, zZ, zY, qam, zX, qz7, e2, c3, x3, qzY, e4, zy, qU, qo, kE, q9, qs, kF, hw2, qT, qO, qe, qI, kv, qj, qt, qZ]
    refine kX hid ?_ ?_ <;> omega
  · skip
    obtain ⟨t1, j1, q1, n1, s1, l1, m1, u1, c1⟩ := hset i1 n1
    obtain ⟨v2, j2, z2, w2, n2, s2, l2, m2, u2, c2⟩ := jm hL hid (d := (d : Nat)) (n := 2) (by omega) (by omega) n1
    obtain ⟨t2, q2, x2⟩ : ∃ t, Tx 3 t ∧ iaV (.d (.sl [D.s [32, 61, 32], D.s [32, 35, 32]])) (.d (.i .i64 v2)) 1 none = some (.cp (.s t)) := qbl [[32, 61, 32], [32, 35, 32]] 3 rfl z2 w2
    obtain ⟨r3, y3, _, e3⟩ := cat q1 q2 (by omega)
    obtain ⟨t4, j4, q4, n4, s4, l4, m4, u4, c4⟩ := hset j2 n2
    obtain ⟨r5, y5, _, e5⟩ := cat y3 q4 (by omega)
    refine ⟨r5, j4, y5.le (by omega), n4, ?_⟩
    rw [kf (fn := kH) rfl rfl]
    simp only [kH, qm, qzP, qp, qH, qC, qD, qq, qh, kQ, qP, qQ, ke, qd, qi, kO, reduceCtorEq, qK, qJ, qW, qE, kr, qL, qr, qB, kU, qV, kp, hg, kR, qzQ, qzO, qzW, ky, qn, ki, kx, qzR, qF, zA, hle, decide_false, qA, qG, qzL, ↓reduceIte, qX, zt, hw1, Nat.reduceEqDiff, qS, zc, zz, kD, qzS, qzV, kg, kY, ku, qzM, kl, Nat.reduceAdd, Nat.reduceLT, kw, qzX, qzU, kn, kJ, kz, qy, qzN, qzT, qf, qR, qN, ql, qY, c0, qz, qg, qk, qw, ko, Int.reduceEq, decide_true, jg, zS, zQ, jE, zR, c1, zx, yp, kP, jQ, List.reduceReplicate, zI, zW, jk, ji, yS, jI, jl, qdb, c2, kI, jc, x2, qef, zZ, zY, qam, zX, qzY, e3, c4, e5, zy, qU, qo, kE, q9, qs, kF, hw2, qT, qO, qe, qI, kv, qj, qt, qZ]
    refine kX hid ?_ ?_ <;> omega
  · skip
    refine ⟨[73, 110, 46, 69, 111, 102, 40, 41], i1, (txl 8 [73, 110, 46, 69, 111, 102, 40, 41] rfl).le (by omega), n1, ?_⟩
    rw [kf (fn := kH) rfl rfl]
    simp only [kH, qm, qzP, qp, qH, qC, qD, qq, qh, kQ, qP, qQ, ke, qd, qi, kO, reduceCtorEq, qK, qJ, qW, qE, kr, qL, qr, qB, kU, qV, kp, hg, kR, qzQ, qzO, qzW, ky, qn, ki, kx, qzR, qF, zA, hle, decide_false, qA, qG, qzL, ↓reduceIte, qX, zt, hw1, Nat.reduceEqDiff, qS, zc, zz, kD, qzS, qzV, kg, kY, ku, qzM, kl, Nat.reduceAdd, Nat.reduceLT, kw, qzX, qzU, kn, kJ, kz, qy, qzN, qzT, qf, qR, qN, ql, qY, c0, qz, qg, qk, qw, ko, Int.reduceEq, decide_true, qU, qo, kE, q9, qs, kF, hw2, qT, qO, qe, qI, kv, qj, qt, qZ]
    refine kX hid ?_ ?_ <;> omega
  · skip
    obtain ⟨t1, j1, q1, n1, s1, l1, m1, u1, c1⟩ := hleaf i1 n1
    obtain ⟨r2, y2, _, e2⟩ := cat q1 (txl 3 [32, 62, 32] rfl) (by omega)
    obtain ⟨t3, j3, q3, n3, s3, l3, m3, u3, c3⟩ := hleaf j1 n1
    obtain ⟨r4, y4, _, e4⟩ := cat y2 q3 (by omega)
    refine ⟨r4, j3, y4.le (by omega), n3, ?_⟩
    rw [kf (fn := kH) rfl rfl]
    simp only [kH, qm, qzP, qp, qH, qC, qD, qq, qh, kQ, qP, qQ, ke, qd, qi, kO, reduceCtorEq, qK, qJ, qW, qE, kr, qL, qr, qB, kU, qV, kp, hg, kR, qzQ, qzO, qzW, ky, qn, ki, kx, qzR, qF, zA, hle, decide_false, qA, qG, qzL, ↓reduceIte, qX, zt, hw1, Nat.reduceEqDiff, qS, zc, zz, kD, qzS, qzV, kg, kY, ku, qzM, kl, Nat.reduceAdd, Nat.reduceLT, kw, qzX, qzU, kn, kJ, kz, qy, qzN, qzT, qf, qR, qN, ql, qY, c0, qz, qg, qk, qw, ko, Int.reduceEq, c1, e2, c3, qzY, e4, qU, qo, kE, q9, qs, kF, hw2, qT, qO, qe, qI, kv, qj, qt, qZ]
    refine kX hid ?_ ?_ <;> omega
  · skip
    obtain ⟨t1, j1, q1, n1, s1, l1, m1, u1, c1⟩ := hleaf i1 n1
    obtain ⟨r2, y2, _, e2⟩ := cat q1 (txl 3 [32, 62, 32] rfl) (by omega)
    obtain ⟨t3, j3, q3, n3, s3, l3, m3, u3, c3⟩ := hleaf j1 n1
    obtain ⟨r4, y4, _, e4⟩ := cat y2 q3 (by omega)
    refine ⟨r4, j3, y4.le (by omega), n3, ?_⟩
    rw [kf (fn := kH) rfl rfl]
    simp only [kH, qm, qzP, qp, qH, qC, qD, qq, qh, kQ, qP, qQ, ke, qd, qi, kO, reduceCtorEq, qK, qJ, qW, qE, kr, qL, qr, qB, kU, qV, kp, hg, kR, qzQ, qzO, qzW, ky, qn, ki, kx, qzR, qF, zA, hle, decide_false, qA, qG, qzL, ↓reduceIte, qX, zt, hw1, Nat.reduceEqDiff, qS, zc, zz, kD, qzS, qzV, kg, kY, ku, qzM, kl, Nat.reduceAdd, Nat.reduceLT, kw, qzX, qzU, kn, kJ, kz, qy, qzN, qzT, qf, qR, qN, ql, qY, c0, qz, qg, qk, qw, ko, Int.reduceEq, c1, e2, c3, qzY, e4, qU, qo, kE, q9, qs, kF, hw2, qT, qO, qe, qI, kv, qj, qt, qZ]
    refine kX hid ?_ ?_ <;> omega
end W

set_option linter.unusedSimpArgs false
set_option linter.unusedVariables false
namespace W
open Go (IntKind BinOp UnOp)
set_option maxRecDepth 20000
theorem qmJ {Ld : D} {n : Nat} (hL : GL Ld n) {H : List Obj} {id : Nat} (hid : id < H.length) {d : Int} {b : Nat} (hb : b ≤ 1000000000000)
    (hleaf : GC 72 [] b Ld n H id d) (hnum : GC 56 [] b Ld n H id d) (hchar : GC 70 [] b Ld n H id d) (hset : GC 71 [] b Ld n H id d) (hcond : GC 55 [] b Ld n H id d) (hvariable : GC 69 [] b Ld n H id d) : GC 54 [] (2 * b + 60) Ld n H id d := by
  intro i0 n0
  have hg : ∀ o, (zp H id o)[id]? = some o := qip hid
  obtain ⟨v, i1, z0, w0, n1, s0, l0, m0, u0, c0⟩ := jm hL hid (d := d) (n := 28) (by omega) (by omega) n0
  have hv : v = 0 ∨ v = 1 ∨ v = 2 ∨ v = 3 ∨ v = 4 ∨ v = 5 ∨ v = 6 ∨ v = 7 ∨ v = 8 ∨ v = 9 ∨ v = 10 ∨ v = 11 ∨ v = 12 ∨ v = 13 ∨ v = 14 ∨ v = 15 ∨ v = 16 ∨ v = 17 ∨ v = 18 ∨ v = 19 ∨ v = 20 ∨ v = 21 ∨ v = 22 ∨ v = 23 ∨ v = 24 ∨ v = 25 ∨ v = 26 ∨ v = 27 := by omega
  rcases hv with rfl | rfl | rfl | rfl | rfl | rfl | rfl | rfl | rfl | rfl | rfl | rfl | rfl | rfl | rfl | rfl | rfl | rfl | rfl | rfl | rfl | rfl | rfl | rfl | rfl | rfl | rfl | rfl
  · skip
    obtain ⟨t1, j1, q1, n1, s1, l1, m1, u1, c1⟩ := hnum i1 n1
    obtain ⟨r2, y2, _, e2⟩ := cat (txl 5 [105, 32, 58, 61, 32] rfl) q1 (by omega)
    refine ⟨r2, j1, y2.le (by omega), n1, ?_⟩
    rw [kf (fn := qM) rfl rfl]
    simp only [qM, qm, qzP, qp, qH, qC, qD, qq, qh, kQ, qP, qQ, ke, qd, qi, kO, reduceCtorEq, qK, qJ, qW, qE, kr, qy, qzN, qzT, qf, qR, qN, ql, qzM, qY, c0, qz, qg, qk, qw, qn, ki, kx, qzR, qF, ko, decide_true, qr, qA, qG, ↓reduceIte, qX, zk, zM, kh, c1, qz7, e2, qT, kK, kq, qO, qe, qI, kv, qj, qt, qZ]
    refine kX hid ?_ ?_ <;> omega
  · skip
    obtain ⟨t1, j1, q1, n1, s1, l1, m1, u1, c1⟩ := hnum i1 n1
    obtain ⟨r2, y2, _, e2⟩ := cat (txl 5 [105, 32, 58, 61, 32] rfl) q1 (by omega)
    refine ⟨r2, j1, y2.le (by omega), n1, ?_⟩
    rw [kf (fn := qM) rfl rfl]
    simp only [qM, qm, qzP, qp, qH, qC, qD, qq, qh, kQ, qP, qQ, ke, qd, qi, kO, reduceCtorEq, qK, qJ, qW, qE, kr, qy, qzN, qzT, qf, qR, qN, ql, qzM, qY, c0, qz, qg, qk, qw, qn, ki, kx, qzR, qF, ko, Int.reduceEq, decide_false, qr, qA, qG, qzL, ↓reduceIte, Nat.reduceEqDiff, decide_true, zk, zM, kh, c1, qz7, e2, qT, kK, kq, qO, qe, qI, kv, qj, qt, qZ]
    refine kX hid ?_ ?_ <;> omega
  · skip
    obtain ⟨t1, j1, q1, n1, s1, l1, m1, u1, c1⟩ := hvariable i1 n1
    obtain ⟨r2, y2, _, e2⟩ := cat q1 (txl 4 [32, 58, 61, 32] rfl) (by omega)
    obtain ⟨t3, j3, q3, n3, s3, l3, m3, u3, c3⟩ := hnum j1 n1
    obtain ⟨r4, y4, _, e4⟩ := cat y2 q3 (by omega)
    refine ⟨r4, j3, y4.le (by omega), n3, ?_⟩
    rw [kf (fn := qM) rfl rfl]
    simp only [qM, qm, qzP, qp, qH, qC, qD, qq, qh, kQ, qP, qQ, ke, qd, qi, kO, reduceCtorEq, qK, qJ, qW, qE, kr, qy, qzN, qzT, qf, qR, qN, ql, qzM, qY, c0, qz, qg, qk, qw, qn, ki, kx, qzR, qF, ko, Int.reduceEq, decide_false, qr, qA, qG, qzL, ↓reduceIte, Nat.reduceEqDiff, decide_true, c1, e2, zk, zM, kh, c3, qzY, e4, qT, kK, kq, qO, qe, qI, kv, qj, qt, qZ]
    refine kX hid ?_ ?_ <;> omega
  · skip
    obtain ⟨t1, j1, q1, n1, s1, l1, m1, u1, c1⟩ := hcond i1 n1
    obtain ⟨r2, y2, _, e2⟩ := cat (txl 5 [98, 32, 58, 61, 32] rfl) q1 (by omega)
    refine ⟨r2, j1, y2.le (by omega), n1, ?_⟩
    rw [kf (fn := qM) rfl rfl]
    simp only [qM, qm, qzP, qp, qH, qC, qD, qq, qh, kQ, qP, qQ, ke, qd, qi, kO, reduceCtorEq, qK, qJ, qW, qE, kr, qy, qzN, qzT, qf, qR, qN, ql, qzM, qY, c0, qz, qg, qk, qw, qn, ki, kx, qzR, qF, ko, Int.reduceEq, decide_false, qr, qA, qG, qzL, ↓reduceIte, Nat.reduceEqDiff, decide_true, zk, zM, kh, c1, qz7, e2, qT, kK, kq, qO, qe, qI, kv, qj, qt, qZ]
    refine kX hid ?_ ?_ <;> omega
  · skip
    obtain ⟨t1, j1, q1, n1, s1, l1, m1, u1, c1⟩ := hchar i1 n1
    obtain ⟨r2, y2, _, e2⟩ := cat (txl 5 [99, 32, 58, 61, 32] rfl) q1 (by omega)
    refine ⟨r2, j1, y2.le (by omega), n1, ?_⟩
    rw [kf (fn := qM) rfl rfl]
    simp only [qM, qm, qzP, qp, qH, qC, qD, qq, qh, kQ, qP, qQ, ke, qd, qi, kO, reduceCtorEq, qK, qJ, qW, qE, kr, qy, qzN, qzT, qf, qR, qN, ql, qzM, qY, c0, qz, qg, qk, qw, qn, ki, kx, qzR, qF, ko, Int.reduceEq, decide_false, qr, qA, qG, qzL, ↓reduceIte, Nat.reduceEqDiff, decide_true, zk, zM, kh, c1, qz7, e2, qT, kK, kq, qO, qe, qI, kv, qj, qt, qZ]
    refine kX hid ?_ ?_ <;> omega
  · skip
    obtain ⟨t1, j1, q1, n1, s1, l1, m1, u1, c1⟩ := hset i1 n1
    obtain ⟨r2, y2, _, e2⟩ := cat (txl 5 [115, 32, 58, 61, 32] rfl) q1 (by omega)
    refine ⟨r2, j1, y2.le (by omega), n1, ?_⟩
    rw [kf (fn := qM) rfl rfl]
    simp only [qM, qm, qzP, qp, qH, qC, qD, qq, qh, kQ, qP, qQ, ke, qd, qi, kO, reduceCtorEq, qK, qJ, qW, qE, kr, qy, qzN, qzT, qf, qR, qN, ql, qzM, qY, c0, qz, qg, qk, qw, qn, ki, kx, qzR, qF, ko, Int.reduceEq, decide_false, qr, qA, qG, qzL, ↓reduceIte, Nat.reduceEqDiff, decide_true, zk, zM, kh, c1, qz7, e2, qT, kK, kq, qO, qe, qI, kv, qj, qt, qZ]
    refine kX hid ?_ ?_ <;> omega
  · skip
    obtain ⟨t1, j1, q1, n1, s1, l1, m1, u1, c1⟩ := hnum i1 n1
    obtain ⟨r2, y2, _, e2⟩ := cat (txl 8 [79, 117, 116, 46, 73, 110, 116, 40] rfl) q1 (by omega)
    obtain ⟨r3, y3, _, e3⟩ := cat y2 (txl 9 [41, 59, 32, 79, 117, 116, 46, 76, 110] rfl) (by omega)
    refine ⟨r3, j1, y3.le (by omega), n1, ?_⟩
    rw [kf (fn := qM) rfl rfl]
    simp only [qM, qm, qzP, qp, qH, qC, qD, qq, qh, kQ, qP, qQ, ke, qd, qi, kO, reduceCtorEq, qK, qJ, qW, qE, kr, qy, qzN, qzT, qf, qR, qN, ql, qzM, qY, c0, qz, qg, qk, qw, qn, ki, kx, qzR, qF, ko, Int.reduceEq, decide_false, qr, qA, qG, qzL, ↓reduceIte, Nat.reduceEqDiff, decide_true, qX, zk, zM, kh, c1, qz7, e2, e3, qT, kK, kq, qO, qe, qI, kv, qj, qt, qZ]
    refine kX hid ?_ ?_ <;> omega
  · skip
    obtain ⟨t1, j1, q1, n1, s1, l1, m1, u1, c1⟩ := hnum i1 n1
    obtain ⟨r2, y2, _, e2⟩ := cat (txl 8 [79, 117, 116, 46, 73, 110, 116, 40] rfl) q1 (by omega)
    obtain ⟨r3, y3, _, e3⟩ := cat y2 (txl 9 [41, 59, 32, 79, 117, 116, 46, 76, 110] rfl) (by omega)
    refine ⟨r3, j1, y3.le (by omega), n1, ?_⟩
    rw [kf (fn := qM) rfl rfl]
    simp only [qM, qm, qzP, qp, qH, qC, qD, qq, qh, kQ, qP, qQ, ke, qd, qi, kO, reduceCtorEq, qK, qJ, qW, qE, kr, qy, qzN, qzT, qf, qR, qN, ql, qzM, qY, c0, qz, qg, qk, qw, qn, ki, kx, qzR, qF, ko, Int.reduceEq, decide_false, qr, qA, qG, qzL, ↓reduceIte, Nat.reduceEqDiff, decide_true, zk, zM, kh, c1, qz7, e2, e3, qT, kK, kq, qO, qe, qI, kv, qj, qt, qZ]
    refine kX hid ?_ ?_ <;> omega
  · skip
    obtain ⟨t1, j1, q1, n1, s1, l1, m1, u1, c1⟩ := hchar i1 n1
    obtain ⟨r2, y2, _, e2⟩ := cat (txl 9 [79, 117, 116, 46, 67, 104, 97, 114, 40] rfl) q1 (by omega)
    obtain ⟨r3, y3, _, e3⟩ := cat y2 (txl 1 [41] rfl) (by omega)
    refine ⟨r3, j1, y3.le (by omega), n1, ?_⟩
    rw [kf (fn := qM) rfl rfl]
    simp only [qM, qm, qzP, qp, qH, qC, qD, qq, qh, kQ, qP, qQ, ke, qd, qi, kO, reduceCtorEq, qK, qJ, qW, qE, kr, qy, qzN, qzT, qf, qR, qN, ql, qzM, qY, c0, qz, qg, qk, qw, qn, ki, kx, qzR, qF, ko, Int.reduceEq, decide_false, qr, qA, qG, qzL, ↓reduceIte, Nat.reduceEqDiff, decide_true, zk, zM, kh, c1, qz7, e2, e3, qT, kK, kq, qO, qe, qI, kv, qj, qt, qZ]
    refine kX hid ?_ ?_ <;> omega
  · skip
    obtain ⟨v1, j1, z1, w1, n1, s1, l1, m1, u1, c1⟩ := jm hL hid (d := d) (n := 3) (by omega) (by omega) n1
    obtain ⟨t1, q1, x1⟩ : ∃ t, Tx 7 t ∧ iaV (.d (.sl [D.s [34, 104, 101, 108, 108, 111, 34], D.s [116], D.s [34, 34]])) (.d (.i .i64 v1)) 1 none = some (.cp (.s t)) := qbl [[34, 104, 101, 108, 108, 111, 34], [116], [34, 34]] 7 rfl z1 w1
    obtain ⟨r2, y2, _, e2⟩ := cat (txl 11 [79, 117, 116, 46, 83, 116, 114, 105, 110, 103, 40] rfl) q1 (by omega)
    obtain ⟨r3, y3, _, e3⟩ := cat y2 (txl 1 [41] rfl) (by omega)
    refine ⟨r3, j1, y3.le (by omega), n1, ?_⟩
    rw [kf (fn := qM) rfl rfl]
    simp only [qM, qm, qzP, qp, qH, qC, qD, qq, qh, kQ, qP, qQ, ke, qd, qi, kO, reduceCtorEq, qK, qJ, qW, qE, kr, qy, qzN, qzT, qf, qR, qN, ql, qzM, qY, c0, qz, qg, qk, qw, qn, ki, kx, qzR, qF, ko, Int.reduceEq, decide_false, qr, qA, qG, qzL, ↓reduceIte, Nat.reduceEqDiff, decide_true, kP, jQ, qzS, qzV, List.reduceReplicate, Nat.reduceAdd, Nat.reduceLT, zI, qzU, qzX, zW, jk, ji, yS, jI, jl, yz, zk, zM, kh, c1, kI, jc, x1, yJ, zZ, zY, qam, zX, qz7, e2, e3, qT, kK, kq, qO, qe, qI, kv, qj, qt, qZ]
    refine kX hid ?_ ?_ <;> omega
  · skip
    obtain ⟨v1, j1, z1, w1, n1, s1, l1, m1, u1, c1⟩ := jm hL hid (d := d) (n := 3) (by omega) (by omega) n1
    obtain ⟨t1, q1, x1⟩ : ∃ t, Tx 7 t ∧ iaV (.d (.sl [D.s [34, 97, 98, 99, 100, 101, 34], D.s [34, 34], D.s [34, 120, 121, 34]])) (.d (.i .i64 v1)) 1 none = some (.cp (.s t)) := qbl [[34, 97, 98, 99, 100, 101, 34], [34, 34], [34, 120, 121, 34]] 7 rfl z1 w1
    obtain ⟨r2, y2, _, e2⟩ := cat (txl 5 [116, 32, 58, 61, 32] rfl) q1 (by omega)
    refine ⟨r2, j1, y2.le (by omega), n1, ?_⟩
    rw [kf (fn := qM) rfl rfl]
    simp only [qM, qm, qzP, qp, qH, qC, qD, qq, qh, kQ, qP, qQ, ke, qd, qi, kO, reduceCtorEq, qK, qJ, qW, qE, kr, qy, qzN, qzT, qf, qR, qN, ql, qzM, qY, c0, qz, qg, qk, qw, qn, ki, kx, qzR, qF, ko, Int.reduceEq, decide_false, qr, qA, qG, qzL, ↓reduceIte, Nat.reduceEqDiff, decide_true, kP, jQ, qzS, qzV, List.reduceReplicate, Nat.reduceAdd, Nat.reduceLT, zI, qzU, qzX, zW, jk, ji, yS, jI, jl, yz, zk, zM, kh, c1, kI, jc, x1, yJ, zZ, zY, qam, zX, qz7, e2, qT, kK, kq, qO, qe, qI, kv, qj, qt, qZ]
    refine kX hid ?_ ?_ <;> omega
  · skip
    obtain ⟨v1, j1, z1, w1, n1, s1, l1, m1, u1, c1⟩ := jm hL hid (d := d) (n := 5) (by omega) (by omega) n1
    obtain ⟨t1, q1, x1⟩ : ∃ t, Tx 6 t ∧ iaV (.d (.sl [D.s [112], D.s [113], D.s [117], D.s [112, 46, 110, 101, 120, 116], D.s [114, 46, 110, 101, 120, 116]])) (.d (.i .i64 v1)) 1 none = some (.cp (.s t)) := qbl [[112], [113], [117], [112, 46, 110, 101, 120, 116], [114, 46, 110, 101, 120, 116]] 6 rfl z1 w1
    obtain ⟨r2, y2, _, e2⟩ := cat (txl 4 [78, 69, 87, 40] rfl) q1 (by omega)
    obtain ⟨r3, y3, _, e3⟩ := cat y2 (txl 1 [41] rfl) (by omega)
    refine ⟨r3, j1, y3.le (by omega), n1, ?_⟩
    rw [kf (fn := qM) rfl rfl]
    simp only [qM, qm, qzP, qp, qH, qC, qD, qq, qh, kQ, qP, qQ, ke, qd, qi, kO, reduceCtorEq, qK, qJ, qW, qE, kr, qy, qzN, qzT, qf, qR, qN, ql, qzM, qY, c0, qz, qg, qk, qw, qn, ki, kx, qzR, qF, ko, Int.reduceEq, decide_false, qr, qA, qG, qzL, ↓reduceIte, Nat.reduceEqDiff, decide_true, kP, jQ, qzS, qzV, List.reduceReplicate, Nat.reduceAdd, Nat.reduceLT, zI, qzU, qzX, zW, jk, ji, yS, jI, jl, yz, zk, zM, kh, c1, kI, jc, x1, yJ, zZ, zY, qam, zX, qz7, e2, e3, qT, kK, kq, qO, qe, qI, kv, qj, qt, qZ]
    refine kX hid ?_ ?_ <;> omega
  · skip
    obtain ⟨v1, j1, z1, w1, n1, s1, l1, m1, u1, c1⟩ := jm hL hid (d := d) (n := 7) (by omega) (by omega) n1
    obtain ⟨t1, q1, x1⟩ : ∃ t, Tx 11 t ∧ iaV (.d (.sl [D.s [112, 32, 58, 61, 32, 113], D.s [113, 32, 58, 61, 32, 112], D.s [112, 32, 58, 61, 32, 117], D.s [113, 32, 58, 61, 32, 117], D.s [112, 32, 58, 61, 32, 78, 73, 76], D.s [114, 46, 110, 101, 120, 116, 32, 58, 61, 32, 112], D.s [117, 32, 58, 61, 32, 113, 40, 83, 41]])) (.d (.i .i64 v1)) 1 none = some (.cp (.s t)) := qbl [[112, 32, 58, 61, 32, 113], [113, 32, 58, 61, 32, 112], [112, 32, 58, 61, 32, 117], [113, 32, 58, 61, 32, 117], [112, 32, 58, 61, 32, 78, 73, 76], [114, 46, 110, 101, 120, 116, 32, 58, 61, 32, 112], [117, 32, 58, 61, 32, 113, 40, 83, 41]] 11 rfl z1 w1
    refine ⟨t1, j1, q1.le (by omega), n1, ?_⟩
    rw [kf (fn := qM) rfl rfl]
    simp only [qM, qm, qzP, qp, qH, qC, qD, qq, qh, kQ, qP, qQ, ke, qd, qi, kO, reduceCtorEq, qK, qJ, qW, qE, kr, qy, qzN, qzT, qf, qR, qN, ql, qzM, qY, c0, qz, qg, qk, qw, qn, ki, kx, qzR, qF, ko, Int.reduceEq, decide_false, qr, qA, qG, qzL, ↓reduceIte, Nat.reduceEqDiff, decide_true, kP, jQ, qzS, qzV, List.reduceReplicate, Nat.reduceAdd, Nat.reduceLT, zI, qzU, qzX, zW, jk, ji, yS, jI, jl, yz, zk, zM, kh, c1, kI, jc, x1, yJ, zZ, zY, qam, zX, qT, kK, kq, qO, qe, qI, kv, qj, qt, qZ]
    refine kX hid ?_ ?_ <;> omega
  · skip
    obtain ⟨v1, j1, z1, w1, n1, s1, l1, m1, u1, c1⟩ := jm hL hid (d := d) (n := 5) (by omega) (by omega) n1
    obtain ⟨t1, q1, x1⟩ : ∃ t, Tx 4 t ∧ iaV (.d (.sl [D.s [105], D.s [106], D.s [97, 91, 50, 93], D.s [114, 46, 120], D.s [112, 46, 121]])) (.d (.i .i64 v1)) 1 none = some (.cp (.s t)) := qbl [[105], [106], [97, 91, 50, 93], [114, 46, 120], [112, 46, 121]] 4 rfl z1 w1
    obtain ⟨r2, y2, _, e2⟩ := cat (txl 2 [103, 40] rfl) q1 (by omega)
    obtain ⟨r3, y3, _, e3⟩ := cat y2 (txl 2 [44, 32] rfl) (by omega)
    obtain ⟨t4, j4, q4, n4, s4, l4, m4, u4, c4⟩ := hnum j1 n1
    obtain ⟨r5, y5, _, e5⟩ := cat y3 q4 (by omega)
    obtain ⟨r6, y6, _, e6⟩ := cat y5 (txl 1 [41] rfl) (by omega)
    refine ⟨r6, j4, y6.le (by omega), n4, ?_⟩
    rw [kf (fn := qM) rfl rfl]
    simp only [qM, qm, qzP, qp, qH, qC, qD, qq, qh, kQ, qP, qQ, ke, qd, qi, kO, reduceCtorEq, qK, qJ, qW, qE, kr, qy, qzN, qzT, qf, qR, qN, ql, qzM, qY, c0, qz, qg, qk, qw, qn, ki, kx, qzR, qF, ko, Int.reduceEq, decide_false, qr, qA, qG, qzL, ↓reduceIte, Nat.reduceEqDiff, decide_true, jg, zS, kP, jQ, qzS, qzV, List.reduceReplicate, Nat.reduceAdd, Nat.reduceLT, zI, qzU, qzX, zW, jk, ji, yS, jI, jl, zQ, qdb, zR, jE, c1, zx, yp, kI, jc, x1, qef, zZ, zY, qam, zX, qz7, e2, e3, zk, zM, c4, kh, qzY, e5, e6, zy, qT, kK, kq, qO, qe, qI, kv, qj, qt, qZ]
    refine kX hid ?_ ?_ <;> omega
  · skip
    refine ⟨[104, 40, 97, 41], i1, (txl 4 [104, 40, 97, 41] rfl).le (by omega), n1, ?_⟩
    rw [kf (fn := qM) rfl rfl]
    simp only [qM, qm, qzP, qp, qH, qC, qD, qq, qh, kQ, qP, qQ, ke, qd, qi, kO, reduceCtorEq, qK, qJ, qW, qE, kr, qy, qzN, qzT, qf, qR, qN, ql, qzM, qY, c0, qz, qg, qk, qw, qn, ki, kx, qzR, qF, ko, Int.reduceEq, decide_false, qr, qA, qG, qzL, ↓reduceIte, Nat.reduceEqDiff, decide_true, qT, kK, kq, qO, qe, qI, kv, qj, qt, qZ]
    refine kX hid ?_ ?_ <;> omega
  · skip
    obtain ⟨t1, j1, q1, n1, s1, l1, m1, u1, c1⟩ := hvariable i1 n1
    obtain ⟨r2, y2, _, e2⟩ := cat (txl 4 [73, 78, 67, 40] rfl) q1 (by omega)
    obtain ⟨r3, y3, _, e3⟩ := cat y2 (txl 2 [44, 32] rfl) (by omega)
    obtain ⟨t4, j4, q4, n4, s4, l4, m4, u4, c4⟩ := hnum j1 n1
    obtain ⟨r5, y5, _, e5⟩ := cat y3 q4 (by omega)
    obtain ⟨r6, y6, _, e6⟩ := cat y5 (txl 1 [41] rfl) (by omega)
    refine ⟨r6, j4, y6.le (by omega), n4, ?_⟩
    rw [kf (fn := qM) rfl rfl]
    simp only [qM, qm, qzP, qp, qH, qC, qD, qq, qh, kQ, qP, qQ, ke, qd, qi, kO, reduceCtorEq, qK, qJ, qW, qE, kr, qy, qzN, qzT, qf, qR, qN, ql, qzM, qY, c0, qz, qg, qk, qw, qn, ki, kx, qzR, qF, ko, Int.reduceEq, decide_false, qr, qA, qG, qzL, ↓reduceIte, Nat.reduceEqDiff, decide_true, c1, qz7, e2, e3, zk, zM, kh, c4, qzY, e5, e6, qT, kK, kq, qO, qe, qI, kv, qj, qt, qZ]
    refine kX hid ?_ ?_ <;> omega
  · skip
    obtain ⟨t1, j1, q1, n1, s1, l1, m1, u1, c1⟩ := hvariable i1 n1
    obtain ⟨r2, y2, _, e2⟩ := cat (txl 4 [68, 69, 67, 40] rfl) q1 (by omega)
    obtain ⟨r3, y3, _, e3⟩ := cat y2 (txl 1 [41] rfl) (by omega)
    refine ⟨r3, j1, y3.le (by omega), n1, ?_⟩
    rw [kf (fn := qM) rfl rfl]
    simp only [qM, qm, qzP, qp, qH, qC, qD, qq, qh, kQ, qP, qQ, ke, qd, qi, kO, reduceCtorEq, qK, qJ, qW, qE, kr, qy, qzN, qzT, qf, qR, qN, ql, qzM, qY, c0, qz, qg, qk, qw, qn, ki, kx, qzR, qF, ko, Int.reduceEq, decide_false, qr, qA, qG, qzL, ↓reduceIte, Nat.reduceEqDiff, decide_true, zk, zM, kh, c1, qz7, e2, e3, qT, kK, kq, qO, qe, qI, kv, qj, qt, qZ]
    refine kX hid ?_ ?_ <;> omega
  · skip
    obtain ⟨v1, j1, z1, w1, n1, s1, l1, m1, u1, c1⟩ := jm hL hid (d := d) (n := 2) (by omega) (by omega) n1
    obtain ⟨t1, q1, x1⟩ : ∃ t, Tx 4 t ∧ iaV (.d (.sl [D.s [73, 78, 67, 76], D.s [69, 88, 67, 76]])) (.d (.i .i64 v1)) 1 none = some (.cp (.s t)) := qbl [[73, 78, 67, 76], [69, 88, 67, 76]] 4 rfl z1 w1
    obtain ⟨r2, y2, _, e2⟩ := cat q1 (txl 4 [40, 115, 44, 32] rfl) (by omega)
    obtain ⟨v3, j3, z3, w3, n3, s3, l3, m3, u3, c3⟩ := jm hL hid (d := d) (n := 3) (by omega) (by omega) n1
    obtain ⟨t3, q3, x3⟩ : ∃ t, Tx 8 t ∧ iaV (.d (.sl [D.s [51], D.s [105, 32, 77, 79, 68, 32, 51, 50], D.s [106]])) (.d (.i .i64 v3)) 1 none = some (.cp (.s t)) := qbl [[51], [105, 32, 77, 79, 68, 32, 51, 50], [106]] 8 rfl z3 w3
    obtain ⟨r4, y4, _, e4⟩ := cat y2 q3 (by omega)
    obtain ⟨r5, y5, _, e5⟩ := cat y4 (txl 1 [41] rfl) (by omega)
    refine ⟨r5, j3, y5.le (by omega), n3, ?_⟩
    rw [kf (fn := qM) rfl rfl]
    simp only [qM, qm, qzP, qp, qH, qC, qD, qq, qh, kQ, qP, qQ, ke, qd, qi, kO, reduceCtorEq, qK, qJ, qW, qE, kr, qy, qzN, qzT, qf, qR, qN, ql, qzM, qY, c0, qz, qg, qk, qw, qn, ki, kx, qzR, qF, ko, Int.reduceEq, decide_false, qr, qA, qG, qzL, ↓reduceIte, Nat.reduceEqDiff, decide_true, jg, zS, kP, jQ, qzS, qzV, List.reduceReplicate, Nat.reduceAdd, Nat.reduceLT, zI, qzU, qzX, zW, jk, ji, yS, jI, jl, zQ, qdb, zR, jE, c1, zx, yp, kI, jc, x1, qef, zZ, zY, qam, zX, e2, zk, zM, c3, kh, x3, qzY, e4, e5, zy, qT, kK, kq, qO, qe, qI, kv, qj, qt, qZ]
    refine kX hid ?_ ?_ <;> omega
  · skip
    obtain ⟨v1, j1, z1, w1, n1, s1, l1, m1, u1, c1⟩ := jm hL hid (d := d) (n := 3) (by omega) (by omega) n1
    obtain ⟨t1, q1, x1⟩ : ∃ t, Tx 4 t ∧ iaV (.d (.sl [D.s [99], D.s [116, 91, 49, 93], D.s [117, 46, 122]])) (.d (.i .i64 v1)) 1 none = some (.cp (.s t)) := qbl [[99], [116, 91, 49, 93], [117, 46, 122]] 4 rfl z1 w1
    obtain ⟨r2, y2, _, e2⟩ := cat (txl 8 [73, 110, 46, 67, 104, 97, 114, 40] rfl) q1 (by omega)
    obtain ⟨r3, y3, _, e3⟩ := cat y2 (txl 1 [41] rfl) (by omega)
    refine ⟨r3, j1, y3.le (by omega), n1, ?_⟩
    rw [kf (fn := qM) rfl rfl]
    simp only [qM, qm, qzP, qp, qH, qC, qD, qq, qh, kQ, qP, qQ, ke, qd, qi, kO, reduceCtorEq, qK, qJ, qW, qE, kr, qy, qzN, qzT, qf, qR, qN, ql, qzM, qY, c0, qz, qg, qk, qw, qn, ki, kx, qzR, qF, ko, Int.reduceEq, decide_false, qr, qA, qG, qzL, ↓reduceIte, Nat.reduceEqDiff, decide_true, kP, jQ, qzS, qzV, List.reduceReplicate, Nat.reduceAdd, Nat.reduceLT, zI, qzU, qzX, zW, jk, ji, yS, jI, jl, yz, zk, zM, kh, c1, kI, jc, x1, yJ, zZ, zY, qam, zX, qz7, e2, e3, qT, kK, kq, qO, qe, qI, kv, qj, qt, qZ]
    refine kX hid ?_ ?_ <;> omega
  · skip
    obtain ⟨t1, j1, q1, n1, s1, l1, m1, u1, c1⟩ := hcond i1 n1
    obtain ⟨r2, y2, _, e2⟩ := cat (txl 7 [65, 83, 83, 69, 82, 84, 40] rfl) q1 (by omega)
    obtain ⟨r3, y3, _, e3⟩ := cat y2 (txl 1 [41] rfl) (by omega)
    refine ⟨r3, j1, y3.le (by omega), n1, ?_⟩
    rw [kf (fn := qM) rfl rfl]
    simp only [qM, qm, qzP, qp, qH, qC, qD, qq, qh, kQ, qP, qQ, ke, qd, qi, kO, reduceCtorEq, qK, qJ, qW, qE, kr, qy, qzN, qzT, qf, qR, qN, ql, qzM, qY, c0, qz, qg, qk, qw, qn, ki, kx, qzR, qF, ko, Int.reduceEq, decide_false, qr, qA, qG, qzL, ↓reduceIte, Nat.reduceEqDiff, decide_true, zk, zM, kh, c1, qz7, e2, e3, qT, kK, kq, qO, qe, qI, kv, qj, qt, qZ]
    refine kX hid ?_ ?_ <;> omega
  · skip
    obtain ⟨v1, j1, z1, w1, n1, s1, l1, m1, u1, c1⟩ := jm hL hid (d := d) (n := 3) (by omega) (by omega) n1
    obtain ⟨t1, q1, x1⟩ : ∃ t, Tx 8 t ∧ iaV (.d (.sl [D.s [114, 32, 58, 61, 32, 112, 94], D.s [112, 94, 32, 58, 61, 32, 114], D.s [113, 94, 32, 58, 61, 32, 112, 94]])) (.d (.i .i64 v1)) 1 none = some (.cp (.s t)) := qbl [[114, 32, 58, 61, 32, 112, 94], [112, 94, 32, 58, 61, 32, 114], [113, 94, 32, 58, 61, 32, 112, 94]] 8 rfl z1 w1
    refine ⟨t1, j1, q1.le (by omega), n1, ?_⟩
    rw [kf (fn := qM) rfl rfl]
    simp only [qM, qm, qzP, qp, qH, qC, qD, qq, qh, kQ, qP, qQ, ke, qd, qi, kO, reduceCtorEq, qK, qJ, qW, qE, kr, qy, qzN, qzT, qf, qR, qN, ql, qzM, qY, c0, qz, qg, qk, qw, qn, ki, kx, qzR, qF, ko, Int.reduceEq, decide_false, qr, qA, qG, qzL, ↓reduceIte, Nat.reduceEqDiff, decide_true, kP, jQ, qzS, qzV, List.reduceReplicate, Nat.reduceAdd, Nat.reduceLT, zI, qzU, qzX, zW, jk, ji, yS, jI, jl, yz, zk, zM, kh, c1, kI, jc, x1, yJ, zZ, zY, qam, zX, qT, kK, kq, qO, qe, qI, kv, qj, qt, qZ]
    refine kX hid ?_ ?_ <;> omega
  · skip
    refine ⟨[100, 32, 58, 61, 32, 97, 59, 32, 97, 91, 51, 93, 32, 58, 61, 32, 100, 91, 48, 93], i1, (txl 20 [100, 32, 58, 61, 32, 97, 59, 32, 97, 91, 51, 93, 32, 58, 61, 32, 100, 91, 48, 93] rfl).le (by omega), n1, ?_⟩
    rw [kf (fn := qM) rfl rfl]
    simp only [qM, qm, qzP, qp, qH, qC, qD, qq, qh, kQ, qP, qQ, ke, qd, qi, kO, reduceCtorEq, qK, qJ, qW, qE, kr, qy, qzN, qzT, qf, qR, qN, ql, qzM, qY, c0, qz, qg, qk, qw, qn, ki, kx, qzR, qF, ko, Int.reduceEq, decide_false, qr, qA, qG, qzL, ↓reduceIte, Nat.reduceEqDiff, decide_true, qT, kK, kq, qO, qe, qI, kv, qj, qt, qZ]
    refine kX hid ?_ ?_ <;> omega
  · skip
    obtain ⟨t1, j1, q1, n1, s1, l1, m1, u1, c1⟩ := hnum i1 n1
    obtain ⟨r2, y2, _, e2⟩ := cat (txl 17 [101, 91, 105, 32, 77, 79, 68, 32, 50, 44, 32, 49, 93, 32, 58, 61, 32] rfl) q1 (by omega)
    refine ⟨r2, j1, y2.le (by omega), n1, ?_⟩
    rw [kf (fn := qM) rfl rfl]
    simp only [qM, qm, qzP, qp, qH, qC, qD, qq, qh, kQ, qP, qQ, ke, qd, qi, kO, reduceCtorEq, qK, qJ, qW, qE, kr, qy, qzN, qzT, qf, qR, qN, ql, qzM, qY, c0, qz, qg, qk, qw, qn, ki, kx, qzR, qF, ko, Int.reduceEq, decide_false, qr, qA, qG, qzL, ↓reduceIte, Nat.reduceEqDiff, decide_true, zk, zM, kh, c1, qz7, e2, qT, kK, kq, qO, qe, qI, kv, qj, qt, qZ]
    refine kX hid ?_ ?_ <;> omega
  · skip
    refine ⟨[110, 32, 58, 61, 32, 110, 32, 43, 32, 49], i1, (txl 10 [110, 32, 58, 61, 32, 110, 32, 43, 32, 49] rfl).le (by omega), n1, ?_⟩
    rw [kf (fn := qM) rfl rfl]
    simp only [qM, qm, qzP, qp, qH, qC, qD, qq, qh, kQ, qP, qQ, ke, qd, qi, kO, reduceCtorEq, qK, qJ, qW, qE, kr, qy, qzN, qzT, qf, qR, qN, ql, qzM, qY, c0, qz, qg, qk, qw, qn, ki, kx, qzR, qF, ko, Int.reduceEq, decide_false, qr, qA, qG, qzL, ↓reduceIte, Nat.reduceEqDiff, decide_true, qT, kK, kq, qO, qe, qI, kv, qj, qt, qZ]
    refine kX hid ?_ ?_ <;> omega
  · skip
    refine ⟨[79, 117, 116, 46, 73, 110, 116, 40, 101, 91, 49, 93, 91, 106, 32, 77, 79, 68, 32, 51, 93, 41], i1, (txl 22 [79, 117, 116, 46, 73, 110, 116, 40, 101, 91, 49, 93, 91, 106, 32, 77, 79, 68, 32, 51, 93, 41] rfl).le (by omega), n1, ?_⟩
    rw [kf (fn := qM) rfl rfl]
    simp only [qM, qm, qzP, qp, qH, qC, qD, qq, qh, kQ, qP, qQ, ke, qd, qi, kO, reduceCtorEq, qK, qJ, qW, qE, kr, qy, qzN, qzT, qf, qR, qN, ql, qzM, qY, c0, qz, qg, qk, qw, qn, ki, kx, qzR, qF, ko, Int.reduceEq, decide_false, qr, qA, qG, qzL, ↓reduceIte, Nat.reduceEqDiff, decide_true, qT, kK, kq, qO, qe, qI, kv, qj, qt, qZ]
    refine kX hid ?_ ?_ <;> omega
  · skip
    obtain ⟨t1, j1, q1, n1, s1, l1, m1, u1, c1⟩ := hleaf i1 n1
    obtain ⟨r2, y2, _, e2⟩ := cat (txl 5 [106, 32, 58, 61, 32] rfl) q1 (by omega)
    refine ⟨r2, j1, y2.le (by omega), n1, ?_⟩
    rw [kf (fn := qM) rfl rfl]
    simp only [qM, qm, qzP, qp, qH, qC, qD, qq, qh, kQ, qP, qQ, ke, qd, qi, kO, reduceCtorEq, qK, qJ, qW, qE, kr, qy, qzN, qzT, qf, qR, qN, ql, qzM, qY, c0, qz, qg, qk, qw, qn, ki, kx, qzR, qF, ko, Int.reduceEq, decide_false, qr, qA, qG, qzL, ↓reduceIte, Nat.reduceEqDiff, qX, qU, qo, kE, qs, zk, zM, kh, c1, qz7, e2, qT, qO, qe, qI, kv, qj, qt, qZ]
    refine kX hid ?_ ?_ <;> omega
  · skip
    obtain ⟨t1, j1, q1, n1, s1, l1, m1, u1, c1⟩ := hleaf i1 n1
    obtain ⟨r2, y2, _, e2⟩ := cat (txl 5 [106, 32, 58, 61, 32] rfl) q1 (by omega)
    refine ⟨r2, j1, y2.le (by omega), n1, ?_⟩
    rw [kf (fn := qM) rfl rfl]
    simp only [qM, qm, qzP, qp, qH, qC, qD, qq, qh, kQ, qP, qQ, ke, qd, qi, kO, reduceCtorEq, qK, qJ, qW, qE, kr, qy, qzN, qzT, qf, qR, qN, ql, qzM, qY, c0, qz, qg, qk, qw, qn, ki, kx, qzR, qF, ko, Int.reduceEq, decide_false, qr, qA, qG, qzL, ↓reduceIte, Nat.reduceEqDiff, qX, qU, qo, kE, qs, zk, zM, kh, c1, qz7, e2, qT, qO, qe, qI, kv, qj, qt, qZ]
    refine kX hid ?_ ?_ <;> omega
  · skip
    obtain ⟨t1, j1, q1, n1, s1, l1, m1, u1, c1⟩ := hleaf i1 n1
    obtain ⟨r2, y2, _, e2⟩ := cat (txl 5 [106, 32, 58, 61, 32] rfl) q1 (by omega)
    refine ⟨r2, j1, y2.le (by omega), n1, ?_⟩
    rw [kf (fn := qM) rfl rfl]
    simp only [qM, qm, qzP, qp, qH, qC, qD, qq, qh, kQ, qP, qQ, ke, qd, qi, kO, reduceCtorEq, qK, qJ, qW, qE, kr, qy, qzN, qzT, qf, qR, qN, ql, qzM, qY, c0, qz, qg, qk, qw, qn, ki, kx, qzR, qF, ko, Int.reduceEq, decide_false, qr, qA, qG, qzL, ↓reduceIte, Nat.reduceEqDiff, qX, qU, qo, kE, qs, zk, zM, kh, c1, qz7, e2, qT, qO, qe, qI, kv, qj, qt, qZ]
    refine kX hid ?_ ?_ <;> omega
end W

