/-
  CheckLits: which constants are right, of any type; both checkers, of any constant: part 6 of what the proof rests on (a value semantics for a part of the language, sound against the model; the walks).
-/
import Derived.Lib.Bytealg
import Derived.Shelf.Small.Strs
import Derived.Shelf.Pu.ToError
import Derived.Shelf.Pu.ToErrorRange
import Derived.Test.YtdgbjjpdepdmmaaGreatDoorProg
import Derived.WalkKit
import Derived.ProofKit
import Derived.OpenShut
import Derived.Carry
import Derived.ChangeSame
import Derived.RowKit
import Derived.Lib.LaidTab
import Derived.Test.YtdgbjjpdepdmmaaGreatDoorCards
import Derived.Test.YtdgbjjpdepdmmaaGreatDoorTie
import Derived.Deep.DeepHandedRow
import Derived.Deep.DeepWitnessRowRef
import Derived.Lay
import Derived.Test.YtdgbjjpdepdmmaaGreatDoorW5
set_option linter.unusedSimpArgs false
set_option linter.unusedVariables false
open Bool renaming false_eq_true → qDt, and_self → qDA, and_eq_true → qDB, or_true → qDC, cond_eq_ite → qDH, or_self → qDJ, not_true → qDL, not_false → qDM
open List renaming getElem?_cons_zero → qDu, getElem?_cons_succ → qDv, map_cons → qDy, length_nil → qDD, length_cons → qDE, map_nil → qDF, set_cons_zero → qDK, take_succ_cons → qDN, set_cons_succ → qDO, drop_zero → qDQ, take_zero → qDT, drop_succ_cons → qDX
open Option renaming map_some → qDw, bind_eq_some_iff → qDI, bind_eq_bind → qDP, pure_def → qDV
open Nat renaming le_refl → qDx, zero_add → qDz, beq → qDG, eq_of_beq_eq_true → qDR, zero_le → qDS, add_zero → qDU
open Int renaming cast_ofNat_Int → qDW
namespace W
open Go (IntKind BinOp UnOp)
set_option maxRecDepth 20000
theorem qpy {H : List Obj} : qs pg 86 [] H = some ⟨false, true, slV D.s KW, H, H.length⟩ := by
  rw [qK (fn := qbO) rfl rfl]
  simp only [qbO, k_, o_, v_, qu, qw, qx, qk, qd, kS, qG, qI, qZ, qa, qc, kF, qeg, qDE, qDD, qDz, List.reduceReplicate, qDy, qDF, Nat.reduceAdd, Nat.reduceLT, jp, qDK, qDO, jN, yl, jO, qgX, yT, qDA, yj, ql, yY, jW, qE, qgn, kG, qQ, qO, qj, qT, qm3, qm, qB, qU, qlW, qrm, qk5, z1]
  all_goals rfl
theorem qsR {L : List (List Nat)} {t : List Nat} (hz : L.length ≤ 1000000000000) {H : List Obj} :
    ∀ (k i : Nat), L.length - i = k → i ≤ L.length → ∃ x e, (x = .nrm ∨ x = .ret) ∧ get 2 e = .d (.b (decide (t ∈ L.drop i))) ∧
      qcp pg (qb3 0 [] (qbf pg (.d (.s t)) (slV D.s L) (.d (.i .i64 (i : Nat))) H H.length)) qbe = some (x, ⟨e, H, H.length⟩) := by
  intro k
  induction k with
  | zero =>
    intro i hk hi
    obtain rfl : i = L.length := by omega
    have h1 : ((L.length : Int) < (L.length : Int)) = False := by simp
    rw [qdi]
    simp only [y3, k_, m_, n_, e_, x_, h_, o_, g_, kc, qaR, qw, qx, qk, qd, kL, reduceCtorEq, qH, Nat.reduceEqDiff, qE, qy, qz, qI, qZ, qbs, ko, qei, ql, qi, kf, qDJ, kq, h1, decide_false, qa, qc, qA, qL, qDt, ↓reduceIte, j7, zY, zC, qp, qbe, kS, qG, qQ]
    exact ⟨_, _, .inr rfl, by rw [List.drop_length]; simp [get], rfl⟩
  | succ k ih =>
    intro i hk hi
    have h1 : ((i : Int) < (L.length : Int)) = True := by rw [eq_iff_iff]; simp; omega
    have hlt : i < L.length := by omega
    have hdr : L.drop i = L[i] :: L.drop (i + 1) := by simp
    have hia : iaV (.d (slD D.s L)) (.d (.i .i64 (i : Int))) 1 none = some (.cp (.s L[i])) := qn2 (fun _ => rfl) (by omega) (by simp)
    have hw : wr .i64 ((i : Int) + 1) = ((i + 1 : Nat) : Int) := by rw [qby (by omega) (by omega)]; omega
    rw [qdi]
    by_cases hc : L[i] = t
    · have h2 : (L[i] = t) = True := eq_true hc
      simp only [y3, k_, m_, n_, e_, x_, h_, o_, g_, kc, qaR, qw, qx, qk, qd, kL, reduceCtorEq, qH, Nat.reduceEqDiff, qE, qy, qz, qI, qZ, qbs, ko, qei, ql, qi, kf, qDJ, kq, h1, decide_true, qa, qc, qA, qL, ↓reduceIte, qP, qF, qW, hia, yg, qq, zO, yH, j6, h2, kS, qG, qQ, ze, kC, qbe]
      exact ⟨_, _, .inr rfl, by rw [hdr, hc]; simp [get], rfl⟩
    · have h2 : (L[i] = t) = False := eq_false hc
      obtain ⟨x, e, q1, q2, q3⟩ := ih (i + 1) (by omega) (by omega)
      simp only [y3, k_, m_, n_, e_, x_, h_, o_, g_, kc, qaR, qw, qx, qk, qd, kL, reduceCtorEq, qH, Nat.reduceEqDiff, qE, qy, qz, qI, qZ, qbs, ko, qei, ql, qi, kf, qDJ, kq, h1, decide_true, qa, qc, qA, qL, ↓reduceIte, qP, qF, qW, hia, yg, qq, zO, yH, j6, h2, decide_false, qDt, kg, qo, qp, kA, qDC, kS, zJ, hw, qdb]
      refine ⟨x, e, q1, ?_, q3⟩
      rw [q2, hdr]
      have : (t = L[i]) = False := eq_false (fun h => hc h.symm)
      simp only [List.mem_cons, this, false_or]
theorem qn1 {t : List Nat} {H : List Obj} : qs pg 35 [.d (.s t)] H = some ⟨false, true, .d (.b (decide (t ∈ KW))), H, H.length⟩ := by
  obtain ⟨x, e, q1, q2, q3⟩ := qsR (L := KW) (t := t) (by decide) (H := H) KW.length 0 rfl (by omega)
  have hz0 : ((0 : Nat) : Int) = 0 := rfl
  rw [hz0] at q3
  rw [qDQ] at q2
  rw [qK (fn := qcf) rfl rfl]
  simp only [qcf, k_, o_, c_, v_, i_, qn, qDz, qu, qw, qx, qk, qd, kS, qG, qI, qZ, qa, qc, qt, qDF, qh, qV, qpy, qr, qg, Nat.min_self, qg4, jW, qE, qh1, kG, qF, qdb, reduceCtorEq, qH, kc, Nat.reduceEqDiff, qaR]
  rw [q3]
  rcases q1 with rfl | rfl
  all_goals simp only [qem, qj, qT, q2, kX, qm, qB, qU, qC, ji, kD, z1, qO]
  all_goals rfl
end W

set_option linter.unusedSimpArgs false
set_option linter.unusedVariables false
namespace W
open Go (IntKind BinOp UnOp)
set_option maxRecDepth 20000
def RES : List (List Nat) := [[73, 78, 84, 69, 71, 69, 82], [67, 72, 65, 82], [66, 79, 79, 76, 69, 65, 78], [83, 69, 84], [65, 66, 83], [79, 68, 68], [76, 83, 76], [65, 83, 82], [82, 79, 82], [79, 82, 68], [67, 72, 82], [76, 69, 78], [73, 78, 67], [68, 69, 67], [73, 78, 67, 76], [69, 88, 67, 76], [78, 69, 87], [65, 83, 83, 69, 82, 84]]
def qAd : List Nat := [73, 78, 84, 69, 71, 69, 82, 32, 67, 72, 65, 82, 32, 66, 79, 79, 76, 69, 65, 78, 32, 83, 69, 84, 32, 65, 66, 83, 32, 79, 68, 68, 32, 76, 83, 76, 32, 65, 83, 82, 32, 82, 79, 82, 32, 79, 82, 68, 32, 67, 72, 82, 32, 76, 69, 78, 32, 73, 78, 67, 32, 68, 69, 67, 32, 73, 78, 67, 76, 32, 69, 88, 67, 76, 32, 78, 69, 87, 32, 65, 83, 83, 69, 82, 84]
theorem qxX : isD (qf2 pg 4000 85 [.d (.s qAd)] []) (.sl (RES.map D.s)) = true := by decide +kernel
theorem qqw {t : List Nat} {H : List Obj} : qs pg 36 [.d (.s t)] H = some ⟨false, true, .d (.b (decide (t ∈ RES))), H, H.length⟩ := by
  rw [qK (fn := qbC) rfl rfl]
  by_cases h : t ∈ RES
  · rw [decide_eq_true h]
    simp only [RES, List.mem_cons, List.not_mem_nil, or_false] at h
    rcases h with rfl | rfl | rfl | rfl | rfl | rfl | rfl | rfl | rfl | rfl | rfl | rfl | rfl | rfl | rfl | rfl | rfl | rfl
    all_goals (simp only [qbC, k_, o_, m_, qn, qDz, qu, qw, qx, qk, qd, kS, qG, qI, qZ, qa, qc, kL, reduceCtorEq, qH, qE, qy, qz, qF, qi, kf, kA, qDC, j6, decide_true, ql, qA, qL, ↓reduceIte, qP, qQ, ze, kC, qO, qj, qT, kX, qm, qB, qU, qC, ji, kD, z1, List.cons.injEq, Nat.reduceEqDiff, and_self, decide_false, qDt, and_true, and_false])
    all_goals rfl
  · rw [decide_eq_false h]
    simp only [RES, List.mem_cons, List.not_mem_nil, or_false, not_or] at h
    obtain ⟨h0, h1, h2, h3, h4, h5, h6, h7, h8, h9, h10, h11, h12, h13, h14, h15, h16, h17⟩ := h
    simp only [qbC, k_, o_, m_, qn, qDz, qu, qw, qx, qk, qd, kS, qG, qI, qZ, qa, qc, kL, reduceCtorEq, qH, qE, qy, qz, qF, qi, kf, kA, qDC, j6, eq_false h0, decide_false, ql, qA, qL, qDt, ↓reduceIte, Nat.reduceEqDiff, eq_false h1, eq_false h2, eq_false h3, eq_false h4, eq_false h5, eq_false h6, eq_false h7, eq_false h8, eq_false h9, eq_false h10, eq_false h11, eq_false h12, eq_false h13, eq_false h14, eq_false h15, eq_false h16, eq_false h17, qP, kg, qp, qQ, qO, qj, qT, kX, qm, qB, qU, qC, ji, kD, z1]
    all_goals rfl
end W

set_option linter.unusedSimpArgs false
set_option linter.unusedVariables false
namespace W
open Go (IntKind BinOp UnOp)
set_option maxRecDepth 20000
theorem qmf {t : List Nat} {H : List Obj} : qs pg 84 [.d (.sl (RES.map D.s)), .d (.s t)] H = some ⟨false, true, .d (.b (decide (t ∈ RES))), H, H.length⟩ := by
  obtain ⟨r, h1, h2⟩ := qlE (L := RES) (t := t) (by decide) (H := H)
  have h2' : qs pg 181 [.d (.sl (RES.map D.s)), .d (.s t)] H = some ⟨false, true, .d (.i .i64 r), H, H.length⟩ := h2
  rw [qK (fn := f_slices_Contains___string_string_) rfl rfl, ← h1]
  by_cases h : (0 : Int) ≤ r
  all_goals simp only [f_slices_Contains___string_string_, k_, o_, v_, c_, g_, m_, qn, qDz, Nat.reduceAdd, qu, qw, qx, qk, qd, kS, qG, qI, qZ, qa, qc, jW, reduceCtorEq, qH, qE, zn, kG, Nat.reduceEqDiff, qt, qDy, qDF, qf, qC, qh, qDA, qV, h2', qr, qe, qg, Nat.min_self, qi, kf, kA, qDC, kL, qy, jz, h, decide_true, ql, qz, qQ, qO, qj, qT, kX, qm, qB, qU, ji, kD, z1, decide_false]
  all_goals rfl
theorem qpc : ∃ lo, qs pg 85 [.d (.s qAd)] [] = some ⟨false, true, .d (.sl (RES.map D.s)), [], lo⟩ := qlZ qnq qxX
theorem qmq {t : List Nat} : ∃ lo, qs pg 34 [.d (.s t)] [] = some ⟨false, true, .d (.b (decide (t ∈ RES))), [], lo⟩ := by
  obtain ⟨lo, hf⟩ := qpc
  unfold qAd at hf
  rw [qK (fn := qdt) rfl rfl]
  simp only [qdt, k_, o_, v_, c_, qn, qDz, qu, qDD, qw, qx, qk, qd, kS, qG, qI, qZ, qa, qc, qt, qDy, qDF, qf, qC, qh, qDA, qV, hf, qr, qe, qg, jW, reduceCtorEq, qH, qE, zn, kG, kL, Nat.reduceEqDiff, qy, qmf, qz, qQ, qO, qj, qT, kX, qm, qB, qU]
  exact ⟨_, qat rfl (qDS _) (qDS _)⟩
def idF : Nat → List Nat → Bool
  | _, [] => true
  | i, c :: l => (cLt c || (decide (0 < i) && cDg c)) && idF (i + 1) l
def idB (s : List Nat) : Bool := !decide (s = []) && !decide (32 < s.length) && !decide (s ∈ KW) && !decide (s ∈ RES) && idF 0 s
theorem qof {s : List Nat} (hs : ∀ c ∈ s, c < 256) (hz : s.length ≤ 1000000000000) {H : List Obj} :
    ∀ (k i : Nat), s.length - i = k → i ≤ s.length → ∃ x e, (x = .nrm ∨ x = .ret) ∧ get 2 e = .d (.b (idF i (s.drop i))) ∧
      qcp pg (qb3 0 [] (qbK pg (.d (.s s)) (.d (.i .i64 (i : Nat))) H H.length)) qc7 = some (x, ⟨e, H, H.length⟩) := by
  intro k
  induction k with
  | zero =>
    intro i hk hi
    obtain rfl : i = s.length := by omega
    have h1 : ((s.length : Int) < (s.length : Int)) = False := by simp
    rw [qdA]
    simp only [zh, k_, m_, o_, e_, q_, i_, u_, g_, kc, qw, qx, qk, qd, kL, reduceCtorEq, qH, qE, qy, qz, qI, qZ, qM, kT, ql, qi, kf, qDJ, Nat.reduceEqDiff, kq, h1, decide_false, qa, qc, qA, qL, qDt, ↓reduceIte, j7, zY, zC, qp, qc7, kS, qG, qQ]
    exact ⟨_, _, .inr rfl, by rw [List.drop_length]; simp [get, idF], rfl⟩
  | succ k ih =>
    intro i hk hi
    have h1 : ((i : Int) < (s.length : Int)) = True := by rw [eq_iff_iff]; simp; omega
    have hlt : i < s.length := by omega
    have hdr : s.drop i = s[i] :: s.drop (i + 1) := by simp
    have hw : wr .i64 ((i : Int) + 1) = ((i + 1 : Nat) : Int) := by rw [qby (by omega) (by omega)]; omega
    have hix : ixV (.d (.s s)) (.d (.i .i64 (i : Int))) = some (.d (.i .u8 ((s[i] : Nat) : Int))) := qoD (by omega) (by simp [hlt])
    have hc : s[i] < 256 := hs _ (List.getElem_mem hlt)
    rw [qdA]
    obtain ⟨x, e, q1, q2, q3⟩ := ih (i + 1) (by omega) (by omega)
    rw [hdr]
    generalize s[i] = c at hix hc
    have g : c < 48 ∨ (48 ≤ c ∧ c < 58) ∨ (58 ≤ c ∧ c < 65) ∨ (65 ≤ c ∧ c < 91) ∨ (91 ≤ c ∧ c < 97) ∨ (97 ≤ c ∧ c < 123) ∨ 123 ≤ c := by omega
    rcases g with g | g | g | g | g | g | g
    · have hL : cLt c = false := by simp only [cLt, Bool.or_eq_true, qDB, decide_eq_true_eq, Bool.or_eq_false_iff, Bool.and_eq_false_iff, decide_eq_false_iff_not]; omega
      have hD : cDg c = false := by simp only [cDg, qDB, decide_eq_true_eq, Bool.and_eq_false_iff, decide_eq_false_iff_not]; omega
      have e97 : ((97 : Int) ≤ (c : Int)) = False := by rw [eq_iff_iff]; simp only [iff_true, iff_false]; omega
      have e122 : ((c : Int) ≤ 122) = True := by rw [eq_iff_iff]; simp only [iff_true, iff_false]; omega
      have e65 : ((65 : Int) ≤ (c : Int)) = False := by rw [eq_iff_iff]; simp only [iff_true, iff_false]; omega
      have e90 : ((c : Int) ≤ 90) = True := by rw [eq_iff_iff]; simp only [iff_true, iff_false]; omega
      have e48 : ((48 : Int) ≤ (c : Int)) = False := by rw [eq_iff_iff]; simp only [iff_true, iff_false]; omega
      have e57 : ((c : Int) ≤ 57) = True := by rw [eq_iff_iff]; simp only [iff_true, iff_false]; omega
      by_cases h0 : 0 < i
      · have h0' : ((0 : Int) < (i : Int)) = True := by rw [eq_iff_iff]; simp only [iff_true]; omega
        simp only [zh, k_, m_, o_, e_, q_, i_, u_, g_, kc, qw, qx, qk, qd, kL, reduceCtorEq, qH, qE, qy, qz, qI, qZ, qM, kT, ql, qi, kf, qDJ, Nat.reduceEqDiff, kq, h1, decide_true, qa, qc, qA, qL, ↓reduceIte, qP, qF, kZ, hix, kA, qDC, kS, jz, e97, decide_false, qS, ky, kh, qDt, kr, qD, qY, z7, kx, qDM, e65, ku, kW, h0', e48, kK, zW, qDw, qG, qQ, ze, kC]
        exact ⟨_, _, .inr rfl, by simp [get, idF, hL, hD], rfl⟩
      · have h0' : ((0 : Int) < (i : Int)) = False := by rw [eq_iff_iff]; simp only [iff_false]; omega
        simp only [zh, k_, m_, o_, e_, q_, i_, u_, g_, kc, qw, qx, qk, qd, kL, reduceCtorEq, qH, qE, qy, qz, qI, qZ, qM, kT, ql, qi, kf, qDJ, Nat.reduceEqDiff, kq, h1, decide_true, qa, qc, qA, qL, ↓reduceIte, qP, qF, kZ, hix, kA, qDC, kS, jz, e97, decide_false, qS, ky, kh, qDt, kr, qD, qY, z7, kx, qDM, e65, ku, kW, h0', kK, zW, qDw, qG, qQ, ze, kC]
        exact ⟨_, _, .inr rfl, by simp [get, idF, hL, hD], rfl⟩
    · have hL : cLt c = false := by simp only [cLt, Bool.or_eq_true, qDB, decide_eq_true_eq, Bool.or_eq_false_iff, Bool.and_eq_false_iff, decide_eq_false_iff_not]; omega
      have hD : cDg c = true := by simp only [cDg, qDB, decide_eq_true_eq, Bool.and_eq_false_iff, decide_eq_false_iff_not]; omega
      have e97 : ((97 : Int) ≤ (c : Int)) = False := by rw [eq_iff_iff]; simp only [iff_true, iff_false]; omega
      have e122 : ((c : Int) ≤ 122) = True := by rw [eq_iff_iff]; simp only [iff_true, iff_false]; omega
      have e65 : ((65 : Int) ≤ (c : Int)) = False := by rw [eq_iff_iff]; simp only [iff_true, iff_false]; omega
      have e90 : ((c : Int) ≤ 90) = True := by rw [eq_iff_iff]; simp only [iff_true, iff_false]; omega
      have e48 : ((48 : Int) ≤ (c : Int)) = True := by rw [eq_iff_iff]; simp only [iff_true, iff_false]; omega
      have e57 : ((c : Int) ≤ 57) = True := by rw [eq_iff_iff]; simp only [iff_true, iff_false]; omega
      by_cases h0 : 0 < i
      · have h0' : ((0 : Int) < (i : Int)) = True := by rw [eq_iff_iff]; simp only [iff_true]; omega
        simp only [zh, k_, m_, o_, e_, q_, i_, u_, g_, kc, qw, qx, qk, qd, kL, reduceCtorEq, qH, qE, qy, qz, qI, qZ, qM, kT, ql, qi, kf, qDJ, Nat.reduceEqDiff, kq, h1, decide_true, qa, qc, qA, qL, ↓reduceIte, qP, qF, kZ, hix, kA, qDC, kS, jz, e97, decide_false, qS, ky, kh, qDt, kr, qD, qY, z7, kx, qDM, e65, ku, kW, h0', e48, jS, e57, kK, zW, qDL, qDw, kg, qo, qp, zJ, hw, qaY]
        refine ⟨x, e, q1, ?_, q3⟩
        rw [q2]; simp [idF, hL, hD, h0]
      · have h0' : ((0 : Int) < (i : Int)) = False := by rw [eq_iff_iff]; simp only [iff_false]; omega
        simp only [zh, k_, m_, o_, e_, q_, i_, u_, g_, kc, qw, qx, qk, qd, kL, reduceCtorEq, qH, qE, qy, qz, qI, qZ, qM, kT, ql, qi, kf, qDJ, Nat.reduceEqDiff, kq, h1, decide_true, qa, qc, qA, qL, ↓reduceIte, qP, qF, kZ, hix, kA, qDC, kS, jz, e97, decide_false, qS, ky, kh, qDt, kr, qD, qY, z7, kx, qDM, e65, ku, kW, h0', kK, zW, qDw, qG, qQ, ze, kC]
        exact ⟨_, _, .inr rfl, by simp [get, idF, hL, h0], rfl⟩
    · have hL : cLt c = false := by simp only [cLt, Bool.or_eq_true, qDB, decide_eq_true_eq, Bool.or_eq_false_iff, Bool.and_eq_false_iff, decide_eq_false_iff_not]; omega
      have hD : cDg c = false := by simp only [cDg, qDB, decide_eq_true_eq, Bool.and_eq_false_iff, decide_eq_false_iff_not]; omega
      have e97 : ((97 : Int) ≤ (c : Int)) = False := by rw [eq_iff_iff]; simp only [iff_true, iff_false]; omega
      have e122 : ((c : Int) ≤ 122) = True := by rw [eq_iff_iff]; simp only [iff_true, iff_false]; omega
      have e65 : ((65 : Int) ≤ (c : Int)) = False := by rw [eq_iff_iff]; simp only [iff_true, iff_false]; omega
      have e90 : ((c : Int) ≤ 90) = True := by rw [eq_iff_iff]; simp only [iff_true, iff_false]; omega
      have e48 : ((48 : Int) ≤ (c : Int)) = True := by rw [eq_iff_iff]; simp only [iff_true, iff_false]; omega
      have e57 : ((c : Int) ≤ 57) = False := by rw [eq_iff_iff]; simp only [iff_true, iff_false]; omega
      by_cases h0 : 0 < i
      · have h0' : ((0 : Int) < (i : Int)) = True := by rw [eq_iff_iff]; simp only [iff_true]; omega
        simp only [zh, k_, m_, o_, e_, q_, i_, u_, g_, kc, qw, qx, qk, qd, kL, reduceCtorEq, qH, qE, qy, qz, qI, qZ, qM, kT, ql, qi, kf, qDJ, Nat.reduceEqDiff, kq, h1, decide_true, qa, qc, qA, qL, ↓reduceIte, qP, qF, kZ, hix, kA, qDC, kS, jz, e97, decide_false, qS, ky, kh, qDt, kr, qD, qY, z7, kx, qDM, e65, ku, kW, h0', e48, jS, e57, kK, zW, qDw, qG, qQ, ze, kC]
        exact ⟨_, _, .inr rfl, by simp [get, idF, hL, hD], rfl⟩
      · have h0' : ((0 : Int) < (i : Int)) = False := by rw [eq_iff_iff]; simp only [iff_false]; omega
        simp only [zh, k_, m_, o_, e_, q_, i_, u_, g_, kc, qw, qx, qk, qd, kL, reduceCtorEq, qH, qE, qy, qz, qI, qZ, qM, kT, ql, qi, kf, qDJ, Nat.reduceEqDiff, kq, h1, decide_true, qa, qc, qA, qL, ↓reduceIte, qP, qF, kZ, hix, kA, qDC, kS, jz, e97, decide_false, qS, ky, kh, qDt, kr, qD, qY, z7, kx, qDM, e65, ku, kW, h0', kK, zW, qDw, qG, qQ, ze, kC]
        exact ⟨_, _, .inr rfl, by simp [get, idF, hL, hD], rfl⟩
    · have hL : cLt c = true := by simp only [cLt, Bool.or_eq_true, qDB, decide_eq_true_eq, Bool.or_eq_false_iff, Bool.and_eq_false_iff, decide_eq_false_iff_not]; omega
      have hD : cDg c = false := by simp only [cDg, qDB, decide_eq_true_eq, Bool.and_eq_false_iff, decide_eq_false_iff_not]; omega
      have e97 : ((97 : Int) ≤ (c : Int)) = False := by rw [eq_iff_iff]; simp only [iff_true, iff_false]; omega
      have e122 : ((c : Int) ≤ 122) = True := by rw [eq_iff_iff]; simp only [iff_true, iff_false]; omega
      have e65 : ((65 : Int) ≤ (c : Int)) = True := by rw [eq_iff_iff]; simp only [iff_true, iff_false]; omega
      have e90 : ((c : Int) ≤ 90) = True := by rw [eq_iff_iff]; simp only [iff_true, iff_false]; omega
      have e48 : ((48 : Int) ≤ (c : Int)) = True := by rw [eq_iff_iff]; simp only [iff_true, iff_false]; omega
      have e57 : ((c : Int) ≤ 57) = False := by rw [eq_iff_iff]; simp only [iff_true, iff_false]; omega
      simp only [zh, k_, m_, o_, e_, q_, i_, u_, g_, kc, qw, qx, qk, qd, kL, reduceCtorEq, qH, qE, qy, qz, qI, qZ, qM, kT, ql, qi, kf, qDJ, Nat.reduceEqDiff, kq, h1, decide_true, qa, qc, qA, qL, ↓reduceIte, qP, qF, kZ, hix, kA, qDC, kS, jz, e97, decide_false, qS, ky, kh, qDt, kr, qD, qY, z7, kx, qDM, e65, jS, e90, ku, qDL, qia, qar, kK, zW, qDw, kg, qo, qp, zJ, hw, qaY]
      refine ⟨x, e, q1, ?_, q3⟩
      rw [q2]; simp [idF, hL]
    · have hL : cLt c = false := by simp only [cLt, Bool.or_eq_true, qDB, decide_eq_true_eq, Bool.or_eq_false_iff, Bool.and_eq_false_iff, decide_eq_false_iff_not]; omega
      have hD : cDg c = false := by simp only [cDg, qDB, decide_eq_true_eq, Bool.and_eq_false_iff, decide_eq_false_iff_not]; omega
      have e97 : ((97 : Int) ≤ (c : Int)) = False := by rw [eq_iff_iff]; simp only [iff_true, iff_false]; omega
      have e122 : ((c : Int) ≤ 122) = True := by rw [eq_iff_iff]; simp only [iff_true, iff_false]; omega
      have e65 : ((65 : Int) ≤ (c : Int)) = True := by rw [eq_iff_iff]; simp only [iff_true, iff_false]; omega
      have e90 : ((c : Int) ≤ 90) = False := by rw [eq_iff_iff]; simp only [iff_true, iff_false]; omega
      have e48 : ((48 : Int) ≤ (c : Int)) = True := by rw [eq_iff_iff]; simp only [iff_true, iff_false]; omega
      have e57 : ((c : Int) ≤ 57) = False := by rw [eq_iff_iff]; simp only [iff_true, iff_false]; omega
      by_cases h0 : 0 < i
      · have h0' : ((0 : Int) < (i : Int)) = True := by rw [eq_iff_iff]; simp only [iff_true]; omega
        simp only [zh, k_, m_, o_, e_, q_, i_, u_, g_, kc, qw, qx, qk, qd, kL, reduceCtorEq, qH, qE, qy, qz, qI, qZ, qM, kT, ql, qi, kf, qDJ, Nat.reduceEqDiff, kq, h1, decide_true, qa, qc, qA, qL, ↓reduceIte, qP, qF, kZ, hix, kA, qDC, kS, jz, e97, decide_false, qS, ky, kh, qDt, kr, qD, qY, z7, kx, qDM, e65, jS, e90, ku, kW, h0', e48, e57, kK, zW, qDw, qG, qQ, ze, kC]
        exact ⟨_, _, .inr rfl, by simp [get, idF, hL, hD], rfl⟩
      · have h0' : ((0 : Int) < (i : Int)) = False := by rw [eq_iff_iff]; simp only [iff_false]; omega
        simp only [zh, k_, m_, o_, e_, q_, i_, u_, g_, kc, qw, qx, qk, qd, kL, reduceCtorEq, qH, qE, qy, qz, qI, qZ, qM, kT, ql, qi, kf, qDJ, Nat.reduceEqDiff, kq, h1, decide_true, qa, qc, qA, qL, ↓reduceIte, qP, qF, kZ, hix, kA, qDC, kS, jz, e97, decide_false, qS, ky, kh, qDt, kr, qD, qY, z7, kx, qDM, e65, jS, e90, ku, kW, h0', kK, zW, qDw, qG, qQ, ze, kC]
        exact ⟨_, _, .inr rfl, by simp [get, idF, hL, hD], rfl⟩
    · have hL : cLt c = true := by simp only [cLt, Bool.or_eq_true, qDB, decide_eq_true_eq, Bool.or_eq_false_iff, Bool.and_eq_false_iff, decide_eq_false_iff_not]; omega
      have hD : cDg c = false := by simp only [cDg, qDB, decide_eq_true_eq, Bool.and_eq_false_iff, decide_eq_false_iff_not]; omega
      have e97 : ((97 : Int) ≤ (c : Int)) = True := by rw [eq_iff_iff]; simp only [iff_true, iff_false]; omega
      have e122 : ((c : Int) ≤ 122) = True := by rw [eq_iff_iff]; simp only [iff_true, iff_false]; omega
      have e65 : ((65 : Int) ≤ (c : Int)) = True := by rw [eq_iff_iff]; simp only [iff_true, iff_false]; omega
      have e90 : ((c : Int) ≤ 90) = False := by rw [eq_iff_iff]; simp only [iff_true, iff_false]; omega
      have e48 : ((48 : Int) ≤ (c : Int)) = True := by rw [eq_iff_iff]; simp only [iff_true, iff_false]; omega
      have e57 : ((c : Int) ≤ 57) = False := by rw [eq_iff_iff]; simp only [iff_true, iff_false]; omega
      simp only [zh, k_, m_, o_, e_, q_, i_, u_, g_, kc, qw, qx, qk, qd, kL, reduceCtorEq, qH, qE, qy, qz, qI, qZ, qM, kT, ql, qi, kf, qDJ, Nat.reduceEqDiff, kq, h1, decide_true, qa, qc, qA, qL, ↓reduceIte, qP, qF, kZ, hix, kA, qDC, kS, jz, e97, qS, ky, kh, jS, e122, qD, ku, kx, qDL, qDt, kr, qia, qY, qar, kK, zW, qDw, kg, qo, qp, zJ, hw, qaY]
      refine ⟨x, e, q1, ?_, q3⟩
      rw [q2]; simp [idF, hL]
    · have hL : cLt c = false := by simp only [cLt, Bool.or_eq_true, qDB, decide_eq_true_eq, Bool.or_eq_false_iff, Bool.and_eq_false_iff, decide_eq_false_iff_not]; omega
      have hD : cDg c = false := by simp only [cDg, qDB, decide_eq_true_eq, Bool.and_eq_false_iff, decide_eq_false_iff_not]; omega
      have e97 : ((97 : Int) ≤ (c : Int)) = True := by rw [eq_iff_iff]; simp only [iff_true, iff_false]; omega
      have e122 : ((c : Int) ≤ 122) = False := by rw [eq_iff_iff]; simp only [iff_true, iff_false]; omega
      have e65 : ((65 : Int) ≤ (c : Int)) = True := by rw [eq_iff_iff]; simp only [iff_true, iff_false]; omega
      have e90 : ((c : Int) ≤ 90) = False := by rw [eq_iff_iff]; simp only [iff_true, iff_false]; omega
      have e48 : ((48 : Int) ≤ (c : Int)) = True := by rw [eq_iff_iff]; simp only [iff_true, iff_false]; omega
      have e57 : ((c : Int) ≤ 57) = False := by rw [eq_iff_iff]; simp only [iff_true, iff_false]; omega
      by_cases h0 : 0 < i
      · have h0' : ((0 : Int) < (i : Int)) = True := by rw [eq_iff_iff]; simp only [iff_true]; omega
        simp only [zh, k_, m_, o_, e_, q_, i_, u_, g_, kc, qw, qx, qk, qd, kL, reduceCtorEq, qH, qE, qy, qz, qI, qZ, qM, kT, ql, qi, kf, qDJ, Nat.reduceEqDiff, kq, h1, decide_true, qa, qc, qA, qL, ↓reduceIte, qP, qF, kZ, hix, kA, qDC, kS, jz, e97, qS, ky, kh, jS, e122, decide_false, qD, ku, kx, qDM, e65, e90, qDt, kW, h0', e48, e57, kK, zW, qDw, qG, qQ, ze, kC]
        exact ⟨_, _, .inr rfl, by simp [get, idF, hL, hD], rfl⟩
      · have h0' : ((0 : Int) < (i : Int)) = False := by rw [eq_iff_iff]; simp only [iff_false]; omega
        simp only [zh, k_, m_, o_, e_, q_, i_, u_, g_, kc, qw, qx, qk, qd, kL, reduceCtorEq, qH, qE, qy, qz, qI, qZ, qM, kT, ql, qi, kf, qDJ, Nat.reduceEqDiff, kq, h1, decide_true, qa, qc, qA, qL, ↓reduceIte, qP, qF, kZ, hix, kA, qDC, kS, jz, e97, qS, ky, kh, jS, e122, decide_false, qD, ku, kx, qDM, e65, e90, qDt, kW, h0', kr, qY, z7, kK, zW, qDw, qG, qQ, ze, kC]
        exact ⟨_, _, .inr rfl, by simp [get, idF, hL, hD], rfl⟩
theorem qnv {s : List Nat} (hs : ∀ c ∈ s, c < 256) (hz : s.length ≤ 1000000000000) {H : List Obj} : qs pg 15 [.d (.s s)] H = some ⟨false, true, .d (.b (idB s)), H, H.length⟩ := by
  rw [qK (fn := yM) rfl rfl]
  have hk := qn1 (t := s) (H := H)
  have ht := qqw (t := s) (H := H)
  obtain ⟨x, e, q1, q2, q3⟩ := qof hs hz (H := H) s.length 0 rfl (by omega)
  have hz0 : ((0 : Nat) : Int) = 0 := rfl
  rw [hz0] at q3
  rw [qDQ] at q2
  unfold idB
  have e0 : (s = ([] : List Nat)) = (s = []) := rfl
  by_cases h1 : s = []
  · subst h1
    simp only [yM, k_, o_, m_, q_, i_, qn, qDz, qu, qw, qx, qk, qd, kS, qG, qI, qZ, qa, qc, kL, reduceCtorEq, qH, qE, qy, qz, qi, kf, kA, qDC, j6, decide_true, ql, qS, kx, qDL, kh, qDt, ↓reduceIte, kr, Nat.reduceEqDiff, qD, qY, qar, qA, qL, qQ, kC, qO, qj, qT, kX, qm, qB, qU, qC, ji, kD, z1, qDD, Nat.reduceLT, decide_false, qDM, Bool.and_true, Bool.false_and]
    all_goals rfl
  · have e1 : (s = []) = False := eq_false h1
    by_cases h2 : 32 < s.length
    · have e2 : ((32 : Int) < (s.length : Int)) = True := by rw [eq_iff_iff]; simp; omega
      simp only [yM, k_, o_, m_, q_, i_, qn, qDz, qu, qw, qx, qk, qd, kS, qG, qI, qZ, qa, qc, kL, reduceCtorEq, qH, qE, qy, qz, qi, kf, kA, qDC, j6, e1, decide_false, ql, qS, kx, qDM, kh, ↓reduceIte, Nat.reduceEqDiff, qM, kT, kW, e2, decide_true, qD, ku, qDt, qDL, kr, qY, qar, qA, qL, qQ, kC, qO, qj, qT, kX, qm, qB, qU, qC, ji, kD, z1, Bool.true_and]
      rw [decide_eq_true h2]; simp
    · have e2 : ((32 : Int) < (s.length : Int)) = False := by rw [eq_iff_iff]; simp; omega
      rw [decide_eq_false h1, decide_eq_false h2]
      by_cases h3 : s ∈ KW
      · rw [decide_eq_true h3] at hk
        simp only [yM, k_, o_, m_, q_, i_, qn, qDz, qu, qw, qx, qk, qd, kS, qG, qI, qZ, qa, qc, kL, reduceCtorEq, qH, qE, qy, qz, qi, kf, kA, qDC, j6, e1, decide_false, ql, qS, kx, qDM, kh, ↓reduceIte, Nat.reduceEqDiff, qM, kT, kW, e2, qD, ku, qDt, qt, qDy, qDF, qf, qC, qh, qDA, qV, hk, qr, qe, qg, Nat.min_self, qDL, kr, qY, qar, qA, qL, qQ, kC, qO, qj, qT, kX, qm, qB, qU, ji, kD, z1, Bool.true_and]
        rw [decide_eq_true h3]; simp
      · rw [decide_eq_false h3] at hk
        rw [decide_eq_false h3]
        by_cases h4 : s ∈ RES
        · rw [decide_eq_true h4] at ht
          simp only [yM, k_, o_, m_, q_, i_, qn, qDz, qu, qw, qx, qk, qd, kS, qG, qI, qZ, qa, qc, kL, reduceCtorEq, qH, qE, qy, qz, qi, kf, kA, qDC, j6, e1, decide_false, ql, qS, kx, qDM, kh, ↓reduceIte, Nat.reduceEqDiff, qM, kT, kW, e2, qD, ku, qDt, qt, qDy, qDF, qf, qC, qh, qDA, qV, hk, qr, qe, qg, Nat.min_self, ht, qA, qL, qQ, kC, qO, qj, qT, kX, qm, qB, qU, ji, kD, z1, Bool.true_and]
          rw [decide_eq_true h4]; simp
        · rw [decide_eq_false h4] at ht
          rw [decide_eq_false h4]
          simp only [yM, k_, o_, m_, q_, i_, qn, qDz, qu, qw, qx, qk, qd, kS, qG, qI, qZ, qa, qc, kL, reduceCtorEq, qH, qE, qy, qz, qi, kf, kA, qDC, j6, e1, decide_false, ql, qS, kx, qDM, kh, ↓reduceIte, Nat.reduceEqDiff, qM, kT, kW, e2, qD, ku, qDt, qt, qDy, qDF, qf, qC, qh, qDA, qV, hk, qr, qe, qg, Nat.min_self, ht, qA, qL, qP, qF, qaY, kc, Bool.true_and]
          rw [q3]
          rcases q1 with rfl | rfl
          all_goals simp only [qem, qj, qT, q2, kX, qm, qB, qU, qC, ji, kD, z1, qO]
          all_goals simp
          all_goals rfl
end W

set_option linter.unusedSimpArgs false
set_option linter.unusedVariables false
namespace W
open Go (IntKind BinOp UnOp)
set_option maxRecDepth 20000
theorem qqU : ∀ (l : List Nat) (i : Nat), 0 < i → idF i l = l.all cNm
  | [], _, _ => rfl
  | c :: l, i, h => by simp [idF, qqU l (i + 1) (by omega), h, cNm]
theorem qow {P : Nat → Bool} : ∀ {l : List Nat}, l.all P = true → run P l = l.length
  | [], _ => rfl
  | c :: l, h => by
    simp only [List.all_cons, qDB] at h
    simp [run, h.1, qow h.2]
theorem qpo {P : Nat → Bool} : ∀ {l : List Nat}, run P l = l.length → l.all P = true
  | [], _ => rfl
  | c :: l, h => by
    have := qgR P l
    simp only [run, qDE] at h
    cases hp : P c with
    | false => simp [hp] at h
    | true => rw [hp] at h; simp only [cond_true, Nat.add_right_cancel_iff] at h; simp [hp, qpo h]
theorem qAQ {c : Nat} (h : cLt c = true) : blk c = false ∧ c ≠ 40 := by
  simp only [cLt, Bool.or_eq_true, qDB, decide_eq_true_eq] at h
  refine ⟨?_, by omega⟩
  simp only [blk, Bool.or_eq_false_iff, decide_eq_false_iff_not]
  omega
theorem qwP {s : List Nat} (h : idB s = true) : qe8 s (s.length + 1) 0 [] = .inr [⟨1, 0, s.length, s, 0⟩, ⟨0, s.length, s.length, [], 0⟩] := by
  simp only [idB, qDB, Bool.not_eq_true', decide_eq_false_iff_not] at h
  obtain ⟨⟨⟨⟨h1, h2⟩, h3⟩, h4⟩, h5⟩ := h
  cases hs : s with
  | nil => exact absurd hs h1
  | cons c l =>
    rw [hs] at h5
    simp only [idF, qDB, Bool.or_eq_true, decide_eq_true_eq, Nat.lt_irrefl, false_and, or_false] at h5
    have hb := qAQ h5.1
    have hsk : sk 0 0 0 (c :: l) = (true, 0) := by
      cases l with
      | nil => simp [sk, hb.1]
      | cons d l => simp [sk, hb.1, hb.2]
    have hall : (c :: l).all cNm = true := by
      rw [List.all_cons, ← qqU l 1 (by omega), h5.2]; simp [cNm, h5.1]
    have hrun := qow hall
    have hn : qhJ s 0 = .ok 1 0 s.length s 0 := by
      unfold qhJ
      rw [qDQ, hs, hsk]
      have : ¬ (0 = (c :: l).length) := by simp
      simp only [this, if_false]
      unfold qnY
      simp only [qDQ, h5.1, if_true]
      unfold qk8
      rw [qDQ, hrun]
      rw [hs] at h2 h3
      rw [if_neg h2, List.take_length, if_neg h3]
      simp [qs0]
    have hn2 : qhJ s s.length = .ok 0 s.length s.length [] 0 := by
      unfold qhJ
      rw [List.drop_length]
      simp [sk]
    rw [← hs, qe8, hn]
    simp only [List.nil_append]
    have hl : ∃ f, s.length = f + 1 := ⟨l.length, by rw [hs]; rfl⟩
    obtain ⟨f, hf⟩ := hl
    have h10 : ¬ ((1 : Int) = 0) := by omega
    simp only [h10, if_false]
    conv => lhs; arg 2; rw [hf]
    rw [qe8, hn2]
    simp
theorem qmW {s : List Nat} : ∀ (f a : Nat) (acc L' : List Tk), qe8 s f a acc = .inr L' → ∃ T, L' = acc ++ T
  | 0, _, _, _, h => by cases h
  | f + 1, a, acc, L', h => by
    rw [qe8] at h
    split at h
    · cases h
    · rename_i k p e t n hn
      split at h
      · cases h; exact ⟨_, rfl⟩
      · obtain ⟨T, hT⟩ := qmW f _ _ L' h
        exact ⟨⟨k, p, e, t, n⟩ :: T, by rw [hT]; simp⟩
theorem qx6 {s : List Nat} {f : Nat} {x : Tk} {L : List Tk} (h : qe8 s (f + 1) 0 [] = .inr (x :: L)) (hk : x.k = 1) (ht : x.t = s) : s ≠ [] ∧ s.length ≤ 32 ∧ s ∉ KW ∧ idF 0 s = true := by
  rw [qe8] at h
  split at h
  · cases h
  · rename_i k p e t n hn
    have hx : (⟨k, p, e, t, n⟩ : Tk) = x := by
      split at h
      · simp at h; exact h.1
      · obtain ⟨T, hT⟩ := qmW f _ _ _ h
        simp at hT; exact hT.1.symm
    subst hx
    simp only at hk ht
    subst hk
    unfold qhJ at hn
    split at hn
    · cases hn
    · rename_i j hj
      by_cases hjs : j = s.length
      · rw [if_pos hjs] at hn; cases hn
      · rw [if_neg hjs] at hn
        cases hr : qnY s j with
        | bad x => rw [hr] at hn; cases hn
        | ok k' t' n' e' =>
          rw [hr] at hn
          simp only [qs0, Nx.ok.injEq] at hn
          obtain ⟨rfl, rfl, rfl, rfl, rfl⟩ := hn
          unfold qnY at hr
          split at hr
          · cases hr
          · rename_i c l hd
            split at hr
            · rename_i hc
              unfold qk8 at hr
              split at hr
              · cases hr
              · rename_i h32
                split at hr
                · cases hr
                · rename_i hkw
                  simp only [Sy.ok.injEq] at hr
                  obtain ⟨-, h2, -, -⟩ := hr
                  have hle := qgR cNm (s.drop j)
                  have hlen : s.length = run cNm (s.drop j) := by
                    have := congrArg List.length h2
                    rw [ht] at this
                    simp only [List.length_take] at this
                    omega
                  have hj0 : j = 0 := by
                    simp only [List.length_drop] at hle
                    have : (s.drop j).length = l.length + 1 := by rw [hd]; rfl
                    simp only [List.length_drop] at this
                    omega
                  subst hj0
                  rw [qDQ] at hd h2 hlen h32 hkw
                  rw [ht] at h2
                  rw [h2] at hkw
                  have hall := qpo hlen.symm
                  refine ⟨by rw [hd]; simp, by omega, hkw, ?_⟩
                  rw [hd] at hall ⊢
                  simp only [List.all_cons, qDB] at hall
                  simp [idF, hc, qqU l 1 (by omega), hall.2]
            · split at hr
              · unfold qte at hr
                split at hr
                · unfold qky at hr
                  split at hr <;> cases hr
                · split at hr
                  · unfold qky at hr
                    split at hr <;> cases hr
                  · unfold qky at hr
                    split at hr <;> cases hr
              · split at hr
                · unfold qmV at hr
                  split at hr
                  · split at hr <;> cases hr
                  · cases hr
                · unfold qmO at hr
                  repeat (first | cases hr | split at hr)
end W

set_option linter.unusedSimpArgs false
set_option linter.unusedVariables false
namespace W
open Go (IntKind BinOp UnOp)
set_option maxRecDepth 20000
theorem qno {s : List Nat} (hs : ∀ c ∈ s, c < 256) (hz : s.length ≤ 1000000000000) :
    ∃ lo, qs pg 14 [.d (.s s)] [] = some ⟨false, true, .d (.b (idB s)), [], lo⟩ := by
  obtain ⟨lo, hlo, ha⟩ := qvJ hs hz (H := [])
  obtain ⟨lo', hr⟩ := qmq (t := s)
  rw [qK (fn := yN) rfl rfl]
  by_cases h1 : 20000 < s.length
  · have hid : idB s = false := by
      have : decide (32 < s.length) = true := by simp; omega
      simp [idB, this]
    rw [if_pos h1] at ha
    have i0 : qim .lenL (.d (.sl [.agg [.i .i64 20000, .i .i64 34]])) ([] : List Obj) = some (.d (.i .i64 1)) := rfl
    rw [hid]
    simp only [yN, k_, o_, m_, c_, r_, n_, g_, q_, i_, l_, qn, qDz, qu, qDD, qw, qx, qk, qd, kS, qG, qI, qZ, qa, qc, kL, reduceCtorEq, qH, qE, qy, qz, qt, qDy, qDF, qf, qC, qh, qDA, qV, ha, qr, qe, qg, kr, qY, jg, qcQ, qcV, ql, Nat.reduceEqDiff, qcI, ko, i0, qi, kf, kA, qDC, zK, Int.reduceEq, decide_false, qS, ky, kh, qDt, ↓reduceIte, qD, z7, qQ, qO, qj, qT, kX, qm, qB, qU]
    exact ⟨_, qat rfl (qDS _) (qDS _)⟩
  · rw [if_neg h1] at ha
    have hg : idB s = true → qe8 s (s.length + 1) 0 [] = .inr [⟨1, 0, s.length, s, 0⟩, ⟨0, s.length, s.length, [], 0⟩] := qwP
    have hb : ∀ {x : Tk} {L : List Tk}, qe8 s (s.length + 1) 0 [] = .inr (x :: L) → x.k = 1 → x.t = s → s ∉ RES → idB s = true := by
      intro x L a b c d
      obtain ⟨q1, q2, q3, q4⟩ := qx6 a b c
      simp only [idB, q1, q3, d, q4, decide_false, qDM, Bool.true_and, Bool.and_true, Bool.not_eq_true', decide_eq_false_iff_not]
      omega
    generalize qe8 s (s.length + 1) 0 [] = r at ha hg hb
    cases r with
    | inl q =>
      obtain ⟨p, x⟩ := q
      have hid : idB s = false := by
        cases h : idB s with
        | false => rfl
        | true => cases hg h
      have i0 : qim .lenL (.d (.sl [.agg [.i .i64 (p : Nat), .i .i64 x]])) ([] : List Obj) = some (.d (.i .i64 1)) := rfl
      rw [hid]
      simp only at ha
      simp only [yN, k_, o_, m_, c_, r_, n_, g_, q_, i_, l_, qn, qDz, qu, qDD, qw, qx, qk, qd, kS, qG, qI, qZ, qa, qc, kL, reduceCtorEq, qH, qE, qy, qz, qt, qDy, qDF, qf, qC, qh, qDA, qV, ha, qr, qe, qg, kr, qY, jg, qcQ, qcV, ql, Nat.reduceEqDiff, qcI, ko, i0, qi, kf, kA, qDC, zK, Int.reduceEq, decide_false, qS, ky, kh, qDt, ↓reduceIte, qD, z7, qQ, qO, qj, qT, kX, qm, qB, qU]
      exact ⟨_, qat rfl (qDS _) (qDS _)⟩
    | inr L =>
      simp only at ha
      by_cases h2 : L.length = 2
      · obtain ⟨x, y, rfl⟩ : ∃ x y, L = [x, y] := by
          match L, h2 with
          | [x, y], _ => exact ⟨x, y, rfl⟩
        have hlen : qim .lenL (.d (slD eTk [x, y])) ([] : List Obj) = some (.d (.i .i64 2)) := rfl
        have hia : iaV (.d (slD eTk [x, y])) (.d (.i .i64 0)) 5 none = some (.cp (.agg [.i .i64 x.k, .i .i64 x.p, .i .i64 x.e, .s x.t, .i .i32 x.n])) := rfl
        by_cases e1 : x.k = 1
        · by_cases e2 : x.t = s
          · by_cases e3 : s ∈ RES
            · have hid : idB s = false := by simp [idB, e3]
              have e3' : decide (s ∈ RES) = true := by simp [e3]
              rw [hid]
              rw [e3'] at hr
              simp only [yN, k_, o_, m_, c_, r_, n_, g_, q_, i_, l_, qn, qDz, qu, qDD, qw, qx, qk, qd, kS, qG, qI, qZ, qa, qc, kL, reduceCtorEq, qH, qE, qy, qz, qt, qDy, qDF, qf, qC, qh, qDA, qV, ha, qr, qe, qg, kr, qY, jg, qcQ, qcV, ql, Nat.reduceEqDiff, qcI, ko, ye, qi, kf, kA, qDC, zK, decide_true, qS, ky, kh, ↓reduceIte, hlen, qD, ku, qW, hia, e1, e2, yg, qb, zO, qfr, qDu, qoH, qq, qbG, qDv, qks, yH, qDJ, j6, hr, kK, zW, qDL, qDw, qQ, qO, qj, qT, kX, qm, qB, qU]
              exact ⟨_, qat rfl (qDS _) (qDS _)⟩
            · have hid : idB s = true := hb rfl e1 e2 e3
              have e3' : decide (s ∈ RES) = false := by simp [e3]
              rw [hid]
              rw [e3'] at hr
              simp only [yN, k_, o_, m_, c_, r_, n_, g_, q_, i_, l_, qn, qDz, qu, qDD, qw, qx, qk, qd, kS, qG, qI, qZ, qa, qc, kL, reduceCtorEq, qH, qE, qy, qz, qt, qDy, qDF, qf, qC, qh, qDA, qV, ha, qr, qe, qg, kr, qY, jg, qcQ, qcV, ql, Nat.reduceEqDiff, qcI, ko, ye, qi, kf, kA, qDC, zK, decide_true, qS, ky, kh, ↓reduceIte, hlen, qD, ku, qW, hia, e1, e2, yg, qb, zO, qfr, qDu, qoH, qq, qbG, qDv, qks, yH, qDJ, j6, hr, kK, zW, qDM, qDw, qQ, qO, qj, qT, kX, qm, qB, qU]
              exact ⟨_, qat rfl (qDS _) (qDS _)⟩
          · have hid : idB s = false := by
              cases h : idB s with
              | false => rfl
              | true =>
                have := hg h
                simp only [Sum.inr.injEq, List.cons.injEq] at this
                exact absurd (by rw [this.1]) e2
            have e2' : (x.t = s) = False := eq_false e2
            rw [hid]
            simp only [yN, k_, o_, m_, c_, r_, n_, g_, q_, i_, l_, qn, qDz, qu, qDD, qw, qx, qk, qd, kS, qG, qI, qZ, qa, qc, kL, reduceCtorEq, qH, qE, qy, qz, qt, qDy, qDF, qf, qC, qh, qDA, qV, ha, qr, qe, qg, kr, qY, jg, qcQ, qcV, ql, Nat.reduceEqDiff, qcI, ko, ye, qi, kf, kA, qDC, zK, decide_true, qS, ky, kh, ↓reduceIte, hlen, qD, ku, qW, hia, e1, yg, qb, zO, qfr, qDu, qoH, qq, qbG, qDv, qks, yH, qDJ, j6, e2', decide_false, qDt, z7, qQ, qO, qj, qT, kX, qm, qB, qU]
            exact ⟨_, qat rfl (qDS _) (qDS _)⟩
        · have hid : idB s = false := by
            cases h : idB s with
            | false => rfl
            | true =>
              have := hg h
              simp only [Sum.inr.injEq, List.cons.injEq] at this
              exact absurd (by rw [this.1]) e1
          have e1' : (x.k = 1) = False := eq_false e1
          rw [hid]
          simp only [yN, k_, o_, m_, c_, r_, n_, g_, q_, i_, l_, qn, qDz, qu, qDD, qw, qx, qk, qd, kS, qG, qI, qZ, qa, qc, kL, reduceCtorEq, qH, qE, qy, qz, qt, qDy, qDF, qf, qC, qh, qDA, qV, ha, qr, qe, qg, kr, qY, jg, qcQ, qcV, ql, Nat.reduceEqDiff, qcI, ko, ye, qi, kf, kA, qDC, zK, decide_true, qS, ky, kh, ↓reduceIte, hlen, qD, ku, qW, hia, yg, qb, zO, qfr, qDu, qoH, qq, qbG, e1', decide_false, qDt, z7, qQ, qO, qj, qT, kX, qm, qB, qU]
          exact ⟨_, qat rfl (qDS _) (qDS _)⟩
      · have hid : idB s = false := by
          cases h : idB s with
          | false => rfl
          | true =>
            have := hg h
            simp only [Sum.inr.injEq] at this
            rw [this] at h2
            exact absurd rfl h2
        have h2' : ((L.length : Int) = 2) = False := by rw [eq_iff_iff]; simp only [iff_false]; omega
        have hlen : qim .lenL (.d (slD eTk L)) ([] : List Obj) = some (.d (.i .i64 (L.length : Nat))) := qei
        rw [hid]
        simp only [yN, k_, o_, m_, c_, r_, n_, g_, q_, i_, l_, qn, qDz, qu, qDD, qw, qx, qk, qd, kS, qG, qI, qZ, qa, qc, kL, reduceCtorEq, qH, qE, qy, qz, qt, qDy, qDF, qf, qC, qh, qDA, qV, ha, qr, qe, qg, kr, qY, jg, qcQ, qcV, ql, Nat.reduceEqDiff, qcI, ko, ye, qi, kf, kA, qDC, zK, decide_true, qS, ky, kh, ↓reduceIte, hlen, h2', decide_false, qD, ku, qDt, z7, qQ, qO, qj, qT, kX, qm, qB, qU]
        exact ⟨_, qat rfl (qDS _) (qDS _)⟩
end W

set_option linter.unusedSimpArgs false
set_option linter.unusedVariables false
namespace W
open Go (IntKind BinOp UnOp)
set_option maxRecDepth 20000
def small : List Nat → Bool
  | [] => true
  | c :: l => bif Nat.ble c 255 then small l else false
theorem qj6 {t : List Nat} : small t = true ↔ ∀ c ∈ t, c < 256 := by
  induction t with
  | nil => simp [small]
  | cons c l ih =>
    simp only [small, qDH, List.mem_cons, forall_eq_or_imp]
    by_cases h : c ≤ 255
    · rw [if_pos (Nat.ble_eq_true_of_le h), ih]; constructor
      · exact fun q => ⟨by omega, q⟩
      · exact fun q => q.2
    · rw [if_neg (fun q => h (Nat.le_of_ble_eq_true q))]; constructor
      · intro q; cases q
      · exact fun q => absurd q.1 (by omega)
def idX (vs : List V) (H : List Obj) : Option Cr :=
  match vs with
  | [.d (.s t)] => bif small t && Nat.ble t.length 1000000000000 then some ⟨false, true, .d (.b (idB t)), H, H.length⟩ else none
  | _ => none
theorem qAN {vs : List V} {H : List Obj} {r : Cr} (h : idX vs H = some r) : H.length ≤ r.H.length ∧ (∀ id, id < r.lo → id < H.length → r.H[id]? = H[id]?) ∧ (r.same = true → r.H = H) := by
  unfold idX at h
  split at h
  · rw [qDH] at h
    split at h
    · exact qjg h
    · cases h
  · cases h
def pgK : Pg := ⟨fun n => bif qDG n 14 || qDG n 15 || qDG n 302 then none else pg.fn n, fun i vs H => bif qDG i 14 || qDG i 15 then idX vs H else bif qDG i 302 then ixX vs H else pg.ext i vs H⟩
theorem qrR : qa6 pgK.ext := by
  intro i vs H r h
  simp only [pgK, qDH] at h
  split at h
  · exact qAN h
  · split at h
    · exact qqd h
    · exact qnq _ _ _ _ h
theorem qtg : isD (qf2 pgK 4000 8 [] []) (.b true) = true := by decide +kernel
theorem qlG : ∃ lo, qs pgK 8 [] [] = some ⟨false, true, .d (.b true), [], lo⟩ := qlZ qrR qtg
theorem quL {s : List Nat} (hs : ∀ c ∈ s, c < 256) (hz : s.length ≤ 1000000000000) {H : List Obj} : idX [.d (.s s)] H = some ⟨false, true, .d (.b (idB s)), H, H.length⟩ := by
  have h1 : small s = true := qj6.2 hs
  have h2 : Nat.ble s.length 1000000000000 = true := Nat.ble_eq_true_of_le hz
  simp only [idX, h1, h2]; rfl
theorem qC9 {s : List Nat} (hs : ∀ c ∈ s, c < 256) (hz : s.length ≤ 1000000000000) {H : List Obj} : qs pgK 14 [.d (.s s)] H = some ⟨false, true, .d (.b (idB s)), H, H.length⟩ := by
  rw [qd4]; unfold js
  rw [show pgK.fn 14 = none from rfl]
  exact quL hs hz
theorem qDi {s : List Nat} (hs : ∀ c ∈ s, c < 256) (hz : s.length ≤ 1000000000000) {H : List Obj} : qs pgK 15 [.d (.s s)] H = some ⟨false, true, .d (.b (idB s)), H, H.length⟩ := by
  rw [qd4]; unfold js
  rw [show pgK.fn 15 = none from rfl]
  exact quL hs hz
end W

/- A call of no arguments whose result is data is the same beside whatever objects there are. -/
set_option linter.unusedSimpArgs false
set_option linter.unusedVariables false
namespace W
open Go (World Value Addr IntKind Program TypeId FuncId)
theorem qsm {P : Program} {M : Maps} {call : Call} (hsim : qa1 P M call) {i : Nat} {x : D} {H1 : List Obj} {lo : Nat} {same : Bool} (h : call i [] [] = some ⟨false, same, .d x, H1, lo⟩)
    {f' : FuncId} (hl : look M.fm f' = some i) {g : Gh} {w : World} {H : List Obj} (hH : RelH M g w H) : ql1 P f' #[] w (jQ M g w ⟨false, true, .d x, H, H.length⟩) := by
  have hH0 : RelH M { n := 0, φ := fun _ => 0, own := fun _ => none, pub := g.pub } w [] := ⟨rfl, fun id o h => by simp at h, fun b hb => ⟨rfl, (hH.fresh b hb).2⟩, hH.gl⟩
  have hd := hsim i [] [] _ h f' hl _ w [] (.nil _) hH0
  intro o a K Q hK hQ
  refine hd o a K Q ?_ ?_
  · rintro v w' ⟨_, g1, hR1, hE, hA⟩
    refine hK v w' ?_
    have hb : ∀ b, b < w.heap.size → w'.heap[b]? = w.heap[b]? ∧ g1.pub b = g.pub b := fun b hb => (hE.keep b hb (.inl rfl)).2
    have hg : Grow g w { n := g.n, φ := g.φ, own := fun b => if b < w.heap.size then g.own b else none, pub := g1.pub } w' := ⟨hE.size, hE.pub, hE.cell⟩
    have hlt : ∀ b ℓ, g.own b = some ℓ → b < w.heap.size := fun b ℓ ho => by
      rcases Nat.lt_or_ge b w.heap.size with h1 | h1
      · exact h1
      · rw [(hH.fresh b h1).1] at ho; cases ho
    have hk : ∀ ℓ, Kept g w { n := g.n, φ := g.φ, own := fun b => if b < w.heap.size then g.own b else none, pub := g1.pub } w' ℓ := fun ℓ => ⟨fun b ho => by
      have := hlt b ℓ ho
      exact ⟨by simp only [this, if_true]; exact ho, (hb b this).1, (hb b this).2⟩⟩
    refine ⟨rfl, { n := g.n, φ := g.φ, own := fun b => if b < w.heap.size then g.own b else none, pub := g1.pub }, ⟨hH.n, fun id o ho => (hH.h id o ho).mono hg (qDx _) (fun _ _ => rfl) (by rw [hH.n]; exact (List.getElem?_eq_some_iff.1 ho).1) (hk _) (fun i => hk _), fun b hb' => ⟨?_, (hR1.fresh b hb').2⟩, hH.gl.mono hg⟩, ⟨hg, qDx _, fun _ _ => rfl, fun b hb' ho => ⟨by simp only [hb', if_true], (hb b hb').1, (hb b hb').2⟩, hE.io⟩, ?_⟩
    · have : ¬ b < w.heap.size := by have := hE.size; omega
      simp only [this, if_false]
    · cases hA with
      | s hA => cases hA with
        | d _ _ hr => exact .s (.d _ _ hr)
  · rintro ch w' ⟨hp, _⟩
    cases hp
theorem qlj {P : Program} {M : Maps} {call : Call} (hsim : qa1 P M call) {i : Nat} {l : List D} {x : D} {H1 : List Obj} {lo : Nat} {same : Bool} (h : call i (l.map .d) [] = some ⟨false, same, .d x, H1, lo⟩)
    {f' : FuncId} (hl : look M.fm f' = some i) {g : Gh} {w : World} {H : List Obj} (hH : RelH M g w H) {argv : List Value} (ha : ArgsRep M g w 0 (l.map .d) argv) : ql1 P f' argv.toArray w (jQ M g w ⟨false, true, .d x, H, H.length⟩) := by
  have hH0 : RelH M { n := 0, φ := fun _ => 0, own := fun _ => none, pub := g.pub } w [] := ⟨rfl, fun id o h => by simp at h, fun b hb => ⟨rfl, (hH.fresh b hb).2⟩, hH.gl⟩
  have ha0 : ArgsRep M { n := 0, φ := fun _ => 0, own := fun _ => none, pub := g.pub } w 0 (l.map .d) argv := by
    clear h
    have hk' : ∀ k, ArgsRep M g w k (l.map .d) argv → ArgsRep M { n := 0, φ := fun _ => 0, own := fun _ => none, pub := g.pub } w k (l.map .d) argv := by
      clear ha
      induction l generalizing argv with
      | nil => intro k ha; cases ha; exact .nil _
      | cons y l ih =>
        intro k ha
        rw [qDy] at ha ⊢
        cases ha with
        | cons h0 ha =>
          refine .cons ?_ (ih _ ha)
          cases h0 with
          | s h0 => cases h0 with
            | d _ _ hr => exact .s (.d _ _ hr)
    exact hk' 0 ha
  have hd := hsim i (l.map .d) [] _ h f' hl _ w argv ha0 hH0
  intro o a K Q hK hQ
  refine hd o a K Q ?_ ?_
  · rintro v w' ⟨_, g1, hR1, hE, hA⟩
    refine hK v w' ?_
    have hb : ∀ b, b < w.heap.size → w'.heap[b]? = w.heap[b]? ∧ g1.pub b = g.pub b := fun b hb => (hE.keep b hb (.inl rfl)).2
    have hg : Grow g w { n := g.n, φ := g.φ, own := fun b => if b < w.heap.size then g.own b else none, pub := g1.pub } w' := ⟨hE.size, hE.pub, hE.cell⟩
    have hlt : ∀ b ℓ, g.own b = some ℓ → b < w.heap.size := fun b ℓ ho => by
      rcases Nat.lt_or_ge b w.heap.size with h1 | h1
      · exact h1
      · rw [(hH.fresh b h1).1] at ho; cases ho
    have hk : ∀ ℓ, Kept g w { n := g.n, φ := g.φ, own := fun b => if b < w.heap.size then g.own b else none, pub := g1.pub } w' ℓ := fun ℓ => ⟨fun b ho => by
      have := hlt b ℓ ho
      exact ⟨by simp only [this, if_true]; exact ho, (hb b this).1, (hb b this).2⟩⟩
    refine ⟨rfl, { n := g.n, φ := g.φ, own := fun b => if b < w.heap.size then g.own b else none, pub := g1.pub }, ⟨hH.n, fun id o ho => (hH.h id o ho).mono hg (qDx _) (fun _ _ => rfl) (by rw [hH.n]; exact (List.getElem?_eq_some_iff.1 ho).1) (hk _) (fun i => hk _), fun b hb' => ⟨?_, (hR1.fresh b hb').2⟩, hH.gl.mono hg⟩, ⟨hg, qDx _, fun _ _ => rfl, fun b hb' ho => ⟨by simp only [hb', if_true], (hb b hb').1, (hb b hb').2⟩, hE.io⟩, ?_⟩
    · have : ¬ b < w.heap.size := by have := hE.size; omega
      simp only [this, if_false]
    · cases hA with
      | s hA => cases hA with
        | d _ _ hr => exact .s (.d _ _ hr)
  · rintro ch w' ⟨hp, _⟩
    cases hp
end W

/- What stands in for strings.IndexByte, strconv.toError and scan.Keywords does what these do. -/
set_option linter.unusedSimpArgs false
set_option linter.unusedVariables false
namespace W
open Go (World Value Addr IntKind Program TypeId FuncId Func Calls Code)
def IxC (P : Program) (K : FuncId) : Prop :=
  ∀ (s : ByteArray) (c : Int) (w : World), Calls P K #[.string s, .int .u8 c] w fun e w' => e = .returned (.int .i64 (Go.Lib.indexByte s.data.toList c.toNat.toUInt8)) ∧ w' = w
def TeC (P : Program) (K : FuncId) (gl : Nat) (code : Int) : Prop :=
  ∀ (fn s : ByteArray) (base bits : Int) (ev : Value) (w : World), s.size ≤ 281474976710656 → w.cell? ⟨gl, 0, none⟩ = some ev → (ev = .nilIface ∨ ∃ te pe, ev = .iface te pe) →
    Calls P K #[.string fn, .string s, .int .i64 base, .int .i64 bits, .iface 323 (.int .i64 code)] w fun e w' => ∃ N, e = .returned (.iface 325 (.pointer (some ⟨N, 0, none⟩))) ∧ Go.RowKit.Below w.heap.size w w'
theorem qt2 (c : Nat) : ∀ l : List UInt8, ixN (c % 256) (l.map (·.toNat)) = Go.Lib.indexByte l c.toUInt8
  | [] => rfl
  | b :: l => by
    have ih := qt2 c l
    have hge := Go.Lib.indexByte_ge l c.toUInt8
    have hb : qDG b.toNat (c % 256) = (b == c.toUInt8) := by
      have hc : c.toUInt8.toNat = c % 256 := by simp [Nat.toUInt8]
      rw [← hc]
      by_cases h : b = c.toUInt8
      · subst h; simp
      · have h2 : ¬ b.toNat = c.toUInt8.toNat := fun e => h (UInt8.toNat_inj.1 e)
        have h3 : qDG b.toNat c.toUInt8.toNat = false := by rw [Bool.eq_false_iff]; intro e; exact h2 (qDR e)
        rw [h3]; symm; simpa using h
    simp only [qDy, ixN, Go.Lib.indexByte, hb]
    cases b == c.toUInt8 with
    | true => rfl
    | false =>
      simp only [cond_false, qDt, if_false]
      rw [ih]
      generalize Go.Lib.indexByte l c.toUInt8 = v at hge ⊢
      cases v with
      | ofNat n => simp
      | negSucc m =>
        have : m = 0 := by omega
        subst this
        rfl
theorem qrL {P : Program} {M : Maps} {K : FuncId} (hI : IxC P K) {fn : Func} {c : Code} (hf : P.funcs[K]? = some fn) (hname : (fn.name == "runtime.NumGoroutine") = false) (hbody : fn.body = some c)
    {g : Gh} {w : World} {vs : List V} {H : List Obj} {r : Cr} (h : ixX vs H = some r) {argv : List Value} (ha : ArgsRep M g w 0 vs argv) (hH : RelH M g w H) : ql1 P K argv.toArray w (jQ M g w r) := by
  refine qga ⟨?_, ?_⟩
  · unfold ixX at h
    split at h
    · simp only [Option.some.injEq] at h
      subst h
      cases ha with
      | cons h0 ha => cases ha with
        | cons h1 ha => cases ha; cases h0 with
          | s h0 => cases h0 with
            | d _ _ h0 => cases h0 with
              | s _ x hx => cases h1 with
                | s h1 => cases h1 with
                  | d _ _ h1 => cases h1 with
                    | i k n =>
                      refine (hI x _ w).mono ?_
                      rintro e w' ⟨rfl, rfl⟩
                      refine ⟨rfl, g, hH, Evo.refl g w', .s (.d _ _ ?_)⟩
                      rw [← hx, qt2]
                      exact .i _ _
    · cases h
  · have hn : ¬ fn.name = "runtime.NumGoroutine" := by simpa using hname
    simp [Go.callFunc, hf, hn, hbody]
theorem qxf {P : Program} {M : Maps} {K : FuncId} {gS gR : Nat} (hS : TeC P K gS 2) (hR : TeC P K gR 1) (mS : gS ∈ M.gi) (mR : gR ∈ M.gi) (m2 : look M.tm 325 = some 325) (m0 : ∀ t', look M.tm t' = some 323 → t' = 323)
    {fn : Func} {c : Code} (hf : P.funcs[K]? = some fn) (hname : (fn.name == "runtime.NumGoroutine") = false) (hbody : fn.body = some c)
    {g : Gh} {w : World} {vs : List V} {H : List Obj} {r : Cr} (h : teX vs H = some r) {argv : List Value} (ha : ArgsRep M g w 0 vs argv) (hH : RelH M g w H) : ql1 P K argv.toArray w (jQ M g w r) := by
  refine qga ⟨?_, ?_⟩
  · unfold teX at h
    split at h
    · rename_i f t k1 k2 e
      rw [qDH] at h
      split at h
      · rename_i hb
        simp only [Option.some.injEq] at h
        subst h
        simp only [qDB, Bool.or_eq_true, Nat.ble_eq] at hb
        have hcode : e = 1 ∨ e = 2 := by
          rcases hb.1 with h | h
          · left; rw [qlb] at h; exact of_decide_eq_true h
          · right; rw [qlb] at h; exact of_decide_eq_true h
        obtain ⟨⟨evS, hvS, hevS⟩, _⟩ := hH.gl.2 gS mS
        obtain ⟨⟨evR, hvR, hevR⟩, _⟩ := hH.gl.2 gR mR
        cases ha with
        | cons h0 ha => cases ha with
          | cons h1 ha => cases ha with
            | cons h2 ha => cases ha with
              | cons h3 ha => cases ha with
                | cons h4 ha => cases ha; cases h0 with
                  | s h0 => cases h0 with
                    | d _ _ h0 => cases h0 with
                      | s _ x hx => cases h1 with
                        | s h1 => cases h1 with
                          | d _ _ h1 => cases h1 with
                            | s _ y hy => cases h2 with
                              | s h2 => cases h2 with
                                | d _ _ h2 => cases h2 with
                                  | i _ _ => cases h3 with
                                    | s h3 => cases h3 with
                                      | d _ _ h3 => cases h3 with
                                        | i _ _ => cases h4 with
                                          | s h4 => cases h4 with
                                            | ifc _ t' _ cv ht hcv => cases hcv with
                                              | d _ _ hcv => cases hcv with
                                                | i _ _ =>
                                                  have e1 := m0 t' ht
                                                  subst e1
                                                  have hsz : y.size ≤ 281474976710656 := by
                                                    have := congrArg List.length hy
                                                    rw [List.length_map] at this
                                                    have h2 : y.data.toList.length = y.size := Array.length_toList
                                                    omega
                                                  have post : ∀ e w', (∃ N, e = .returned (.iface 325 (.pointer (some ⟨N, 0, none⟩))) ∧ Go.RowKit.Below w.heap.size w w') → jQ M g w ⟨false, true, .ifc 325 .undef, H, H.length⟩ e w' := by
                                                    rintro e w' ⟨N, rfl, hB⟩
                                                    obtain ⟨q1, q2⟩ := qtJ hH hB
                                                    exact ⟨rfl, g, q1, q2, .s (.ifc _ 325 _ _ m2 (.undef _))⟩
                                                  rcases hcode with rfl | rfl
                                                  · exact (hR x y _ _ evR w hsz hvR hevR).mono post
                                                  · exact (hS x y _ _ evS w hsz hvS hevS).mono post
      · cases h
    · cases h
  · have hn : ¬ fn.name = "runtime.NumGoroutine" := by simpa using hname
    simp [Go.callFunc, hf, hn, hbody]
end W

/- The contracts of strings.IndexByte and strconv.toError at this program, laid by the shelf's program. -/
namespace Go.Proofs
open Go.Shelf
def Tryz.lays137_ren : Go.Shelf.Ren := ⟨fun | 137 => 257 | 217 => 302 | 266 => 323 | n => n, fun | 9 => 9 | 5 => 5 | 3 => 3 | n => n, fun | n => n⟩
theorem Tryz.lays137 : Go.Proofs.Lays.n137 Tryz.prog Tryz.lays137_ren := {
  mixed := by kernel_rfl
  f137 := Tryz.func257.trans (congrArg some (by kernel_rfl))
  f217 := Tryz.func302.trans (congrArg some (by kernel_rfl))
  f266 := Tryz.func323.trans (congrArg some (by kernel_rfl))
  t3 := Tryz.underlying3
  a3 := Tryz.isAgg3
  z3 := Tryz.sizeOf3
  v3 := Tryz.zeroValue3
  t5 := Tryz.underlying5
  a5 := Tryz.isAgg5
  z5 := Tryz.sizeOf5
  v5 := Tryz.zeroValue5
  t9 := Tryz.underlying9
  a9 := Tryz.isAgg9
  z9 := Tryz.sizeOf9
  v9 := Tryz.zeroValue9 }
open Go.RowKit in
theorem Tryz.strings_IndexByte (s : ByteArray) (c : Int) (w : World) :
    Calls Tryz.prog 257 #[.string s, .int .u8 c] w fun e w' => e = .returned (.int .i64 (Lib.indexByte s.data.toList c.toNat.toUInt8)) ∧ w' = w := Any.strings_IndexByte Tryz.lays137 s c w
def Tryz.lays217_ren : Go.Shelf.Ren := ⟨fun | 217 => 302 | 266 => 323 | n => n, fun | 9 => 9 | 5 => 5 | 3 => 3 | n => n, fun | n => n⟩
theorem Tryz.lays217 : Go.Proofs.Lays.n217 Tryz.prog Tryz.lays217_ren := {
  mixed := by kernel_rfl
  f217 := Tryz.func302.trans (congrArg some (by kernel_rfl))
  f266 := Tryz.func323.trans (congrArg some (by kernel_rfl))
  t3 := Tryz.underlying3
  a3 := Tryz.isAgg3
  z3 := Tryz.sizeOf3
  v3 := Tryz.zeroValue3
  t5 := Tryz.underlying5
  a5 := Tryz.isAgg5
  z5 := Tryz.sizeOf5
  v5 := Tryz.zeroValue5
  t9 := Tryz.underlying9
  a9 := Tryz.isAgg9
  z9 := Tryz.sizeOf9
  v9 := Tryz.zeroValue9 }
open Go.RowKit Go.Lib in
theorem Tryz.stringslite_IndexByte (s : ByteArray) (c : Int) (w : World) :
    Calls Tryz.prog 302 #[.string s, .int .u8 c] w fun e w' => e = .returned (.int .i64 (Lib.indexByte s.data.toList c.toNat.toUInt8)) ∧ w' = w := Any.stringslite_IndexByte Tryz.lays217 s c w
def Tryz.laysPu17_ren : Go.Shelf.Ren := ⟨fun | 17 => 304 | 21 => 326 | 22 => 327 | 23 => 328 | 24 => 329 | 25 => 342 | 27 => 344 | 26 => 343 | 28 => 353 | 29 => 363 | 30 => 364 | 31 => 365 | 32 => 366 | 33 => 367 | 35 => 369 | 34 => 368 | 36 => 370 | 37 => 371 | 38 => 372 | 39 => 373 | 40 => 374 | n => n, fun | 9 => 9 | 3 => 3 | 24 => 278 | 34 => 323 | 4 => 4 | 39 => 325 | 44 => 334 | 37 => 43 | 0 => 0 | 47 => 342 | 50 => 345 | 48 => 343 | 2 => 2 | 52 => 352 | 22 => 276 | 5 => 5 | 55 => 355 | 59 => 358 | 60 => 281 | 20 => 20 | 61 => 359 | 36 => 153 | 65 => 362 | 66 => 363 | 67 => 182 | n => n, fun | 0 => 3 | 1 => 4 | 2 => 5 | 3 => 6 | 4 => 7 | n => n⟩
theorem Tryz.laysPu17 : Go.Proofs.LaysPu.n17 Tryz.prog Tryz.laysPu17_ren := {
  mixed := by kernel_rfl
  f17 := Tryz.func304.trans (congrArg some (by kernel_rfl))
  f21 := Tryz.func326.trans (congrArg some (by kernel_rfl))
  f22 := Tryz.func327.trans (congrArg some (by kernel_rfl))
  f23 := Tryz.func328.trans (congrArg some (by kernel_rfl))
  f24 := Tryz.func329.trans (congrArg some (by kernel_rfl))
  f25 := Tryz.func342.trans (congrArg some (by kernel_rfl))
  f26 := Tryz.func343.trans (congrArg some (by kernel_rfl))
  f27 := Tryz.func344.trans (congrArg some (by kernel_rfl))
  f28 := Tryz.func353.trans (congrArg some (by kernel_rfl))
  f29 := Tryz.func363.trans (congrArg some (by kernel_rfl))
  f30 := Tryz.func364.trans (congrArg some (by kernel_rfl))
  f31 := Tryz.func365.trans (congrArg some (by kernel_rfl))
  f32 := Tryz.func366.trans (congrArg some (by kernel_rfl))
  f33 := Tryz.func367.trans (congrArg some (by kernel_rfl))
  f34 := Tryz.func368.trans (congrArg some (by kernel_rfl))
  f35 := Tryz.func369.trans (congrArg some (by kernel_rfl))
  f36 := Tryz.func370.trans (congrArg some (by kernel_rfl))
  f37 := Tryz.func371.trans (congrArg some (by kernel_rfl))
  f38 := Tryz.func372.trans (congrArg some (by kernel_rfl))
  f39 := Tryz.func373.trans (congrArg some (by kernel_rfl))
  f40 := Tryz.func374.trans (congrArg some (by kernel_rfl))
  t0 := Tryz.underlying0
  a0 := Tryz.isAgg0
  z0 := Tryz.sizeOf0
  v0 := Tryz.zeroValue0
  i0 := by kernel_rfl
  t2 := Tryz.underlying2
  a2 := Tryz.isAgg2
  z2 := Tryz.sizeOf2
  v2 := Tryz.zeroValue2
  i2 := by kernel_rfl
  t3 := Tryz.underlying3
  a3 := Tryz.isAgg3
  z3 := Tryz.sizeOf3
  v3 := Tryz.zeroValue3
  i3 := by kernel_rfl
  t4 := Tryz.underlying4
  a4 := Tryz.isAgg4
  z4 := Tryz.sizeOf4
  v4 := Tryz.zeroValue4
  i4 := by kernel_rfl
  t5 := Tryz.underlying5
  a5 := Tryz.isAgg5
  z5 := Tryz.sizeOf5
  v5 := Tryz.zeroValue5
  i5 := by kernel_rfl
  t9 := Tryz.underlying9
  a9 := Tryz.isAgg9
  z9 := Tryz.sizeOf9
  v9 := Tryz.zeroValue9
  i9 := by kernel_rfl
  t20 := Tryz.underlying20
  a20 := Tryz.isAgg20
  z20 := Tryz.sizeOf20
  v20 := Tryz.zeroValue20
  i20 := by kernel_rfl
  t22 := Tryz.underlying276
  a22 := Tryz.isAgg276
  z22 := Tryz.sizeOf276
  v22 := Tryz.zeroValue276
  i22 := by kernel_rfl
  t24 := Tryz.underlying278
  a24 := Tryz.isAgg278
  z24 := Tryz.sizeOf278
  v24 := Tryz.zeroValue278
  i24 := by kernel_rfl
  t34 := Tryz.underlying323
  a34 := Tryz.isAgg323
  z34 := Tryz.sizeOf323
  v34 := Tryz.zeroValue323
  i34 := by kernel_rfl
  c34 := by kernel_rfl
  t36 := Tryz.underlying153
  a36 := Tryz.isAgg153
  z36 := Tryz.sizeOf153
  v36 := Tryz.zeroValue153
  i36 := by kernel_rfl
  t37 := Tryz.underlying43
  a37 := Tryz.isAgg43
  z37 := Tryz.sizeOf43
  v37 := Tryz.zeroValue43
  i37 := by kernel_rfl
  t39 := Tryz.underlying325
  a39 := Tryz.isAgg325
  z39 := Tryz.sizeOf325
  v39 := Tryz.zeroValue325
  i39 := by kernel_rfl
  t44 := Tryz.underlying334
  a44 := Tryz.isAgg334
  z44 := Tryz.sizeOf334
  v44 := Tryz.zeroValue334
  i44 := by kernel_rfl
  t47 := Tryz.underlying342
  a47 := Tryz.isAgg342
  z47 := Tryz.sizeOf342
  v47 := Tryz.zeroValue342
  i47 := by kernel_rfl
  t48 := Tryz.underlying343
  a48 := Tryz.isAgg343
  z48 := Tryz.sizeOf343
  v48 := Tryz.zeroValue343
  i48 := by kernel_rfl
  t50 := Tryz.underlying345
  a50 := Tryz.isAgg345
  z50 := Tryz.sizeOf345
  v50 := Tryz.zeroValue345
  i50 := by kernel_rfl
  t52 := Tryz.underlying352
  a52 := Tryz.isAgg352
  z52 := Tryz.sizeOf352
  v52 := Tryz.zeroValue352
  i52 := by kernel_rfl
  t55 := Tryz.underlying355
  a55 := Tryz.isAgg355
  z55 := Tryz.sizeOf355
  v55 := Tryz.zeroValue355
  i55 := by kernel_rfl
  t59 := Tryz.underlying358
  a59 := Tryz.isAgg358
  z59 := Tryz.sizeOf358
  v59 := Tryz.zeroValue358
  i59 := by kernel_rfl
  t60 := Tryz.underlying281
  a60 := Tryz.isAgg281
  z60 := Tryz.sizeOf281
  v60 := Tryz.zeroValue281
  i60 := by kernel_rfl
  t61 := Tryz.underlying359
  a61 := Tryz.isAgg359
  z61 := Tryz.sizeOf359
  t65 := Tryz.underlying362
  a65 := Tryz.isAgg362
  z65 := Tryz.sizeOf362
  v65 := Tryz.zeroValue362
  i65 := by kernel_rfl
  t66 := Tryz.underlying363
  a66 := Tryz.isAgg363
  z66 := Tryz.sizeOf363
  v66 := Tryz.zeroValue363
  i66 := by kernel_rfl
  t67 := Tryz.underlying182
  a67 := Tryz.isAgg182
  z67 := Tryz.sizeOf182
  v67 := Tryz.zeroValue182
  i67 := by kernel_rfl
  g0 := by kernel_rfl
  m0 := by kernel_rfl
  g1 := by kernel_rfl
  m1 := by kernel_rfl
  g2 := by kernel_rfl
  m2 := by kernel_rfl
  g3 := by kernel_rfl
  m3 := by kernel_rfl
  g4 := by kernel_rfl
  m4 := by kernel_rfl }
open Go.RowKit in
theorem Tryz.toError_syntax (fn s : ByteArray) (base bits : Int) (ev : Value) (w : World) (hlim : s.size ≤ 281474976710656) (hv : w.cell? ⟨(Tryz.laysPu17_ren.g 0), 0, none⟩ = some ev) (hev : ev = .nilIface ∨ ∃ te pe, ev = .iface te pe) :
    Calls Tryz.prog 304 #[.string fn, .string s, .int .i64 base, .int .i64 bits, .iface 323 (.int .i64 2)] w fun e w' => ∃ N, e = .returned (.iface 325 (.pointer (some ⟨N, 0, none⟩))) ∧ w.heap.size ≤ N ∧ w'.heap[N]? = some (.cells #[.string fn, .string s, ev] (Tryz.laysPu17_ren.t 44) (0, 0)) ∧ Below w.heap.size w w' := AnyPu.strconv_toError_syntax Tryz.laysPu17 fn s base bits ev w hlim hv hev
open Go.RowKit in
theorem Tryz.toError_range (fn s : ByteArray) (base bits : Int) (ev : Value) (w : World) (hlim : s.size ≤ 281474976710656) (hv : w.cell? ⟨(Tryz.laysPu17_ren.g 1), 0, none⟩ = some ev) (hev : ev = .nilIface ∨ ∃ te pe, ev = .iface te pe) :
    Calls Tryz.prog 304 #[.string fn, .string s, .int .i64 base, .int .i64 bits, .iface 323 (.int .i64 1)] w fun e w' => ∃ N, e = .returned (.iface 325 (.pointer (some ⟨N, 0, none⟩))) ∧ w.heap.size ≤ N ∧ w'.heap[N]? = some (.cells #[.string fn, .string s, ev] (Tryz.laysPu17_ren.t 44) (0, 0)) ∧ Below w.heap.size w w' := AnyPu.strconv_toError_range Tryz.laysPu17 fn s base bits ev w hlim hv hev
end Go.Proofs

/-
  From the small semantics to a law's statement: what is read stays; the answer is true.
-/
set_option linter.unusedSimpArgs false
set_option linter.unusedVariables false
namespace W
open Go (World Value Addr IntKind Program TypeId FuncId Operand Act Oper Next Result Sem Ending Exit Code Func DataW MemPlace Calls trodAll_cons_mk)
open Go.ChangeShapes Go.RowKit Go.WideShapes Go.ChangeAt
section
variable {P : Program} {Hh : Type} {enc : TypeId × Value → Hh}
theorem qqR {W W' : World} (hb : ∀ b, b < W.heap.size → W'.heap[b]? = W.heap[b]?) {p : MemPlace} (hp : p.block < W.heap.size) : W.sameAt W' p := by
  cases p with
  | cell b o => exact qcW (hb b hp) o
  | map b => exact hb b hp
theorem qiu (hl : Go.laidOutB P = true) {W W' : World} (hb : ∀ b, b < W.heap.size → W'.heap[b]? = W.heap[b]?) {sp : Nat → Bool} : ∀ {ts : List TypeId} {vs : List Value} {ds : List (DataW Hh)} {ps : List MemPlace}, (∀ t ∈ ts, P.readableRec t = true ∧ t < P.types.size) →
    DataW.TrodAll enc P W 0 (fun _ => true) true ts vs ds ps → (∀ p ∈ ps, p.block < W.heap.size) → (∀ p ∈ ps, sp p.block = true) → DataW.TrodAll enc P W' 0 sp true ts vs ds ps
  | [], vs, ds, ps, hr, h, hlt, hs => by
    obtain ⟨rfl, rfl, rfl⟩ := trodAll_nil h
    exact trodAll_mk0
  | t :: ts, vs, ds, ps, hr, h, hlt, hs => by
    obtain ⟨v, vs', d, ds', p, q, rfl, rfl, rfl, hd, hrest⟩ := trodAll_cons h
    refine trodAll_cons_mk (Go.WideElems.Trod_stays hl (hr t (by simp)).1 (hr t (by simp)).2 hd (fun x hx => qqR hb (hlt x (by simp [hx]))) (fun x hx => hs x (by simp [hx])))
      (qiu hl hb (fun u hu => hr u (by simp [hu])) hrest (fun x hx => hlt x (by simp [hx])) (fun x hx => hs x (by simp [hx])))
theorem qvo {f : Func} {s : Go.ChangeSpec} {apart fresh handsOn again : Bool} {W W' : World} {args : Array Value} {ds gs : List (DataW Hh)} {before : List MemPlace} {tb : TypeId} (hvars : s.vars = [])
    (hW : DataW.Whole enc P f.params.toList s.vars apart W args.toList ds gs before) (hs : s.fn Hh ds = { results := [.lit (.bool true)], args := ds }) (hres : f.resultTypes = #[tb]) (htb : P.underlying tb = some .bool)
    (hl : Go.laidOutB P = true) (hread : ∀ t ∈ f.params.toList, P.readableRec t = true ∧ t < P.types.size)
    (hio : W'.os = W.os ∧ W'.output = W.output) (hb : ∀ b, b < W.heap.size → W'.heap[b]? = W.heap[b]?) :
    s.post enc P f apart fresh handsOn again W args (.bool true) W' := by
  have hlt : ∀ p ∈ before, p.block < W.heap.size := fun p hp => by simpa using hW.lt p hp
  have hW' := hW
  obtain ⟨p, q, hA, hV, rfl, hfz, hnd⟩ := hW
  rw [hvars] at hV
  obtain ⟨rfl, rfl⟩ := trodVars_none hV
  have hfn : s.fn Hh (ds ++ []) = { results := [.lit (.bool true)], args := ds } := by rw [List.append_nil]; exact hs
  have hargs : ∀ sp : Nat → Bool, (∀ x ∈ p ++ [], sp x.block = true) → DataW.TrodAll enc P W' 0 sp true f.params.toList args.toList ds p := fun sp hsp =>
    qiu hl hb hread hA (fun x hx => hlt x (by simp [hx])) (fun x hx => hsp x (by simp [hx]))
  have hk : W.keptBut W' (fun _ => False) := by
    refine ⟨hio.1, hio.2, fun i hi => ?_⟩
    rw [hb i hi]
    cases hq : W.heap[i]? with
    | none => rfl
    | some o => cases o <;> first | rfl | exact ⟨rfl, rfl, rfl, fun _ _ => rfl⟩ | exact .inr ⟨rfl, rfl⟩
  have hresT : ∀ (b : Nat) (sp : Nat → Bool) (hd : Bool), DataW.TrodAll enc P W' b sp hd f.resultTypes.toList ((Value.bool true).resultList f.resultTypes.size) [.lit (.bool true)] [] := fun b sp hd => by
    rw [hres]
    exact trodAll_cons_mk (shut_bool htb _) trodAll_mk0
  have hfz' : ∀ a : Addr, a.block < W.heap.size → W'.frozen? a = W.frozen? a := fun a ha => by simp only [World.frozen?, hb a.block ha]
  have hres2 : ∀ (b : Nat) (sp : Nat → Bool) (hd : Bool), DataW.TrodAll enc P W' b sp hd f.resultTypes.toList ((Value.bool true).resultList f.resultTypes.size) (s.fn Hh (ds ++ [])).results [] := fun b sp hd => by rw [hfn]; exact hresT b sp hd
  have hargs2 : ∀ sp : Nat → Bool, (∀ x ∈ p ++ [], sp x.block = true) → DataW.TrodAll enc P W' 0 sp true f.params.toList args.toList (s.fn Hh (ds ++ [])).args p := fun sp hsp => by rw [hfn]; exact hargs sp hsp
  have hvars2 : ∀ sp : Nat → Bool, DataW.TrodVars enc P W' sp s.vars (s.fn Hh (ds ++ [])).vars [] := fun sp => by rw [hfn, hvars]; rfl
  have hold : ∀ x ∈ p ++ [], (fun b => decide (b < W.heap.size)) x.block = true := fun x hx => by simpa using hlt x hx
  refine ⟨ds, [], p ++ [], [], p, [], hW', hres2 _ _ _, hargs2 _ hold, hvars2 _, Go.World.keptBut_mono (fun _ h => h.elim) hk, fun _ => ?_⟩
  refine ⟨ok_one hres rfl (okWide_bool_mk htb _), _, _, ([] ++ p) ++ [], ⟨[] ++ p, [], trodAll_append (hargs2 _ (fun _ _ => rfl)) (hres2 _ _ _), hvars2 _, rfl, ?_, ?_⟩, ?_⟩
  · intro b off hp
    rw [hfz' _ (hlt (.cell b off) (by simpa using hp))]
    exact hfz b off (by simpa using hp)
  · intro ha
    simpa using hnd ha
  · intro x hx _
    simpa using hx
end
end W

/-
  Arguments that were read are data.
-/
set_option linter.unusedSimpArgs false
set_option linter.unusedVariables false
namespace W
open Go (World Value Addr IntKind Program TypeId FuncId Operand Act Oper Next Result Sem Ending Exit Code Func DataW MemPlace Calls TypeDesc Lit)
mutual
def D.bulk : D → Nat
  | .s x => x.length + 1
  | .sl xs => D.bulks xs + 1
  | .agg cs => D.bulks cs + 1
  | _ => 1
def D.bulks : List D → Nat
  | [] => 0
  | x :: l => D.bulk x + D.bulks l
end
theorem qjq : ∀ (a b : List D), D.bulks (a ++ b) = D.bulks a + D.bulks b
  | [], b => by simp [D.bulks]
  | x :: a, b => by simp only [List.cons_append, D.bulks, qjq a b]; omega
def tiles (P : Program) : Nat → List Go.Field → Bool
  | _, [] => true
  | off, f :: l => f.offset == off && tiles P (off + P.cellsOf f.type) l
def qhp (P : Program) : List Go.Field → Nat
  | [] => 0
  | f :: l => P.cellsOf f.type + qhp P l
def qk3 (P : Program) (ts : List TypeId) (t : TypeId) : Bool :=
  match P.underlying t with
  | some .bool | some (.int _) | some .string => true
  | some (.slice e) => ts.contains e && Nat.blt 0 (P.cellsOf e)
  | some (.struct fs) => fs.toList.all (fun f => ts.contains f.type) && tiles P 0 fs.toList && qDG (P.cellsOf t) (qhp P fs.toList)
  | some (.array n e) => ts.contains e && qDG (P.cellsOf t) (n * P.cellsOf e)
  | _ => false
def covers (P : Program) (ts : List TypeId) : Bool := ts.all (qk3 P ts)
def qdN (P : Program) (t : TypeId) : Bool :=
  match P.underlying t with
  | some (.struct _) | some (.array _ _) => true
  | _ => false
def elD : Bool → List D → D
  | true, xs => .agg xs
  | false, [x] => x
  | false, _ => .np
def Ty (P : Program) : Nat → TypeId → List D → Prop
  | 0, _, _ => False
  | n + 1, t, xs => match P.underlying t with
    | some .bool => ∃ b, xs = [.b b]
    | some (.int k) => ∃ z, xs = [.i k z] ∧ (Lit.int k z).wf = true
    | some .string => ∃ s, xs = [.s s] ∧ s.length ≤ Go.maxLen ∧ ∀ c ∈ s, c < 256
    | some (.slice e) => xs = [.nil] ∨ ∃ yss : List (List D), xs = [.sl (yss.map (elD (qdN P e)))] ∧ yss.length ≤ Go.maxLen ∧ ∀ q ∈ yss, Ty P n e q
    | some (.struct fs) => ∃ yss : List (List D), xs = yss.flatten ∧ yss.length = fs.toList.length ∧ ∀ (i : Nat) (f : Go.Field) (q : List D), fs.toList[i]? = some f → yss[i]? = some q → Ty P n f.type q
    | some (.array m e) => ∃ yss : List (List D), xs = yss.flatten ∧ yss.length = m ∧ ∀ q ∈ yss, Ty P n e q
    | _ => False
def Arg (P : Program) (t : TypeId) (x : D) : Prop := ∃ n xs, Ty P n t xs ∧ x = elD (qdN P t) xs
structure Bulk {Hh : Type} (B : DataW Hh → Nat) (BA : List (DataW Hh) → Nat) : Prop where
  str : ∀ bytes, B (.lit (.string bytes)) = bytes.length + 1
  lit : ∀ l, 1 ≤ B (.lit l)
  nil : B .nil = 1
  sl : ∀ es sp, B (.slice es sp) = BA es + BA sp + 1
  agg : ∀ ps, B (.agg ps) = BA ps + 1
  n : BA [] = 0
  c : ∀ d r, BA (d :: r) = B d + BA r
def g0 (W : World) : Gh := { n := 0, φ := fun _ => 0, own := fun _ => none, pub := fun b => match W.heap[b]? with | some (.cells c _ _) => c.size | _ => 0 }
theorem qwL (M : Maps) (W : World) (hgl : GlOk M (g0 W) W) : RelH M (g0 W) W [] := ⟨rfl, fun id o h => by simp at h, fun b hb => ⟨rfl, by
  show (match W.heap[b]? with | some (.cells c _ _) => c.size | _ => 0) = 0
  rw [Array.getElem?_eq_none hb]⟩, hgl⟩
theorem qzO {W W' : World} {g' : Gh} (h : Evo (g0 W) W g' W') : ∀ b, b < W.heap.size → W'.heap[b]? = W.heap[b]? := fun b hb => (h.keep b hb (.inl rfl)).2.1
theorem qol {W : World} {b o : Nat} {v : Value} (h : W.cell? ⟨b, o, none⟩ = some v) : o < (g0 W).pub b := by
  simp only [World.cell?] at h
  show o < (match W.heap[b]? with | some (.cells c _ _) => c.size | _ => 0)
  split at h
  · rename_i c e f hq
    rw [hq]
    simp at h
    exact (Array.getElem?_eq_some_iff.1 h).1
  · cases h
theorem qnR {W : World} {a : Addr} {v : Value} (h : W.cell? a = some v) : a.spot = none := by
  simp only [World.cell?] at h
  split at h
  · cases hs : a.spot with
    | none => rfl
    | some s => simp [hs] at h
  · cases h
section
variable {P : Program} {Hh : Type} {enc : TypeId × Value → Hh} {W : World}
theorem RepDL.split {pub : Nat → Nat} {w : World} : ∀ {a : List (List D)} {b : List (List Value)}, a.length = b.length → (∀ (i : Nat) (q : List D) (r : List Value), a[i]? = some q → b[i]? = some r → RepDL pub w q r) → RepDL pub w a.flatten b.flatten
  | [], [], _, _ => .nil
  | q :: a, r :: b, hl, h => by
    simp only [List.flatten_cons]
    exact (h 0 q r rfl rfl).append (RepDL.split (by simpa using hl) (fun i q' r' hq hr => h (i + 1) q' r' (by simpa using hq) (by simpa using hr)))
  | [], _ :: _, hl, _ => by simp at hl
  | _ :: _, [], hl, _ => by simp at hl
theorem qiv (cs : List Value) : ∀ (fs : List Go.Field) (off : Nat), tiles P off fs = true → (fs.map fun f => (cs.drop f.offset).take (P.cellsOf f.type)).flatten = (cs.drop off).take (qhp P fs)
  | [], off, _ => by simp [qhp]
  | f :: fs, off, h => by
    simp only [tiles, qDB, beq_iff_eq] at h
    simp only [qDy, List.flatten_cons, qhp, qiv cs fs _ h.2, h.1]
    rw [List.take_add, List.drop_drop]
theorem qiw (cs : List Value) (sz : Nat) : ∀ n, ((List.range n).map fun i => (cs.drop (i * sz)).take sz).flatten = cs.take (n * sz)
  | 0 => by simp
  | n + 1 => by
    rw [List.range_succ, List.map_append, List.flatten_append, qiw cs sz n, Nat.succ_mul, List.take_add]
    simp
theorem qgB {n : Nat} {t : TypeId} {xs : List D} (h : Ty P n t xs) : (elD (qdN P t) xs).cells = xs := by
  cases n with
  | zero => exact h.elim
  | succ n =>
    unfold Ty at h
    unfold qdN
    split at h
    · rename_i hu; rw [hu]; obtain ⟨b, rfl⟩ := h; rfl
    · rename_i k hu; rw [hu]; obtain ⟨b, rfl, _⟩ := h; rfl
    · rename_i hu; rw [hu]; obtain ⟨b, rfl, _⟩ := h; rfl
    · rename_i e hu; rw [hu]
      rcases h with rfl | ⟨yss, rfl, _⟩ <;> rfl
    · rename_i fs hu; rw [hu]; rfl
    · rename_i m e hu; rw [hu]; rfl
    · exact h.elim
theorem qoA {a b : List D} (h1 : D.ones a = true) (h2 : D.ones b = true) : D.ones (a ++ b) = true := by
  induction a with
  | nil => exact h2
  | cons q a ih => simp only [List.cons_append, D.ones, qDB] at h1 ⊢; exact ⟨h1.1, ih h1.2⟩
theorem qfs : ∀ {l : List (List D)}, (∀ q ∈ l, D.ones q = true) → D.ones l.flatten = true
  | [], _ => rfl
  | q :: l, h => qoA (h q (by simp)) (qfs fun r hr => h r (by simp [hr]))
theorem qn7 : ∀ {n : Nat} {t : TypeId} {xs : List D}, Ty P n t xs → D.ones xs = true
  | 0, _, _, h => h.elim
  | n + 1, t, xs, h => by
    unfold Ty at h
    split at h
    · obtain ⟨b, rfl⟩ := h; rfl
    · obtain ⟨b, rfl, _⟩ := h; rfl
    · obtain ⟨b, rfl, _⟩ := h; rfl
    · rcases h with rfl | ⟨yss, rfl, _⟩ <;> rfl
    · obtain ⟨yss, rfl, hl, h⟩ := h
      refine qfs fun q hq => ?_
      obtain ⟨i, hi⟩ := List.getElem?_of_mem hq
      have hlt := (List.getElem?_eq_some_iff.1 hi).1
      rename_i fs hu
      exact qn7 (h i (fs.toList[i]'(by omega)) q (by simp [hl ▸ hlt]) hi)
    · obtain ⟨yss, rfl, hl, h⟩ := h
      exact qfs fun q hq => qn7 (h q hq)
    · exact h.elim
end
end W

/-
  Arguments that were read are data: the reading itself.
-/
set_option linter.unusedSimpArgs false
set_option linter.unusedVariables false
namespace W
open Go (World Value Addr IntKind Program TypeId FuncId Operand Act Oper Next Result Sem Ending Exit Code Func DataW MemPlace Calls TypeDesc Lit)
theorem qfZ {α : Type} {R : Nat → α → Prop} : ∀ (n : Nat), (∀ i, i < n → ∃ a, R i a) → ∃ l : List α, l.length = n ∧ ∀ (i : Nat) (a : α), l[i]? = some a → R i a
  | 0, _ => ⟨[], rfl, fun i a h => by simp at h⟩
  | n + 1, h => by
    obtain ⟨l, h1, h2⟩ := qfZ n (fun i hi => h i (by omega))
    obtain ⟨a, ha⟩ := h n (by omega)
    refine ⟨l ++ [a], by simp [h1], fun i b hb => ?_⟩
    rw [List.getElem?_append] at hb
    split at hb
    · exact h2 i b hb
    · rename_i hge
      have hi : i - l.length = 0 := by
        rcases Nat.eq_zero_or_pos (i - l.length) with h0 | h0
        · exact h0
        · rw [List.getElem?_eq_none (by simp; omega)] at hb; cases hb
      rw [hi] at hb
      simp only [qDu, Option.some.injEq] at hb
      subst hb
      rwa [show i = n by omega]
theorem qkp {α : Type} {c : Nat} : ∀ (l : List (List α)), (∀ q ∈ l, q.length = c) → ∀ (j : Nat) (v : α), l.flatten[j]? = some v → ∃ i r q, j = i * c + r ∧ l[i]? = some q ∧ q[r]? = some v
  | [], _, j, v, h => by simp at h
  | q :: l, hc, j, v, h => by
    have hq := hc q (by simp)
    rw [List.flatten_cons, List.getElem?_append] at h
    split at h
    · exact ⟨0, j, q, by simp, rfl, h⟩
    · rename_i hge
      obtain ⟨i, r, q', h1, h2, h3⟩ := qkp l (fun x hx => hc x (by simp [hx])) _ v h
      exact ⟨i + 1, r, q', by rw [Nat.succ_mul]; omega, by simpa using h2, h3⟩
theorem qhq {α : Type} {c : Nat} : ∀ (l : List (List α)), (∀ q ∈ l, q.length = c) → l.flatten.length = l.length * c
  | [], _ => by simp
  | q :: l, hc => by
    rw [List.flatten_cons, List.length_append, hc q (by simp), qhq l (fun x hx => hc x (by simp [hx])), qDE, Nat.succ_mul]; omega
section
variable {P : Program} {Hh : Type} {enc : TypeId × Value → Hh} {W : World}
theorem qrg {n : Nat} {t : TypeId} {q : List D} (h : Ty P n t q) {b : Nat} (hb : D.bulks q + (if qdN P t then 1 else 0) ≤ b) : D.bulk (elD (qdN P t) q) ≤ b := by
  cases ha : qdN P t with
  | true => rw [ha] at hb; simpa [elD, D.bulk] using hb
  | false =>
    rw [ha] at hb
    have h1 := qgB h
    rw [ha] at h1
    match q, h1, hb with
    | [x], _, hb => simpa [elD, D.bulks] using hb
    | [], h1, _ => simp [elD, D.cells] at h1
    | x :: y :: l, h1, _ => simp [elD, D.cells] at h1
theorem qoZ {B : DataW Hh → Nat} {BA : List (DataW Hh) → Nat} (hB : Bulk B BA) : ∀ {ys : List D} {ds : List (DataW Hh)}, ys.length = ds.length → (∀ (i : Nat) (y : D) (d : DataW Hh), ys[i]? = some y → ds[i]? = some d → D.bulk y ≤ B d) → D.bulks ys ≤ BA ds
  | [], [], _, _ => by simp [D.bulks]
  | y :: ys, d :: ds, hl, h => by
    rw [hB.c, D.bulks]
    have h1 := h 0 y d rfl rfl
    have h2 := qoZ hB (ys := ys) (ds := ds) (by simpa using hl) (fun i y d hy hd => h (i + 1) y d (by simpa using hy) (by simpa using hd))
    omega
  | [], _ :: _, hl, _ => by simp at hl
  | _ :: _, [], hl, _ => by simp at hl
theorem qge {B : DataW Hh → Nat} {BA : List (DataW Hh) → Nat} (hB : Bulk B BA) : ∀ {ys : List (List D)} {ds : List (DataW Hh)}, ys.length = ds.length → (∀ (i : Nat) (y : List D) (d : DataW Hh), ys[i]? = some y → ds[i]? = some d → D.bulks y ≤ B d) → D.bulks ys.flatten ≤ BA ds
  | [], [], _, _ => by simp [D.bulks]
  | y :: ys, d :: ds, hl, h => by
    rw [hB.c, List.flatten_cons, qjq]
    have h1 := h 0 y d rfl rfl
    have h2 := qge hB (ys := ys) (ds := ds) (by simpa using hl) (fun i y d hy hd => h (i + 1) y d (by simpa using hy) (by simpa using hd))
    omega
  | [], _ :: _, hl, _ => by simp at hl
  | _ :: _, [], hl, _ => by simp at hl
theorem qk9 {a : Addr} {n : Nat} {cs : List Value} (h : W.cells? 0 a n = some cs) : cs.length = n ∧ ∀ (i : Nat) (v : Value), cs[i]? = some v → W.cell? (a.add i) = some v := by
  unfold World.cells? at h
  simp only [qDS, if_true] at h
  have hl := Go.mapM_some_length h
  refine ⟨by simpa using hl, fun i v hv => ?_⟩
  have hi : i < n := by
    have := (List.getElem?_eq_some_iff.1 hv).1
    rw [hl] at this; simpa using this
  have := Go.mapM_some_get h i i (by simp [hi])
  rw [this, hv]
theorem quh (ys : List D) : D.bulks [.sl ys] = D.bulks ys + 1 := by simp [D.bulks, D.bulk]
theorem qi1 {ts : List TypeId} (hts : covers P ts = true) {B : DataW Hh → Nat} {BA : List (DataW Hh) → Nat} (hB : Bulk B BA) : ∀ (n : Nat) (t : TypeId) (cs : List Value) (x : DataW Hh × List MemPlace), t ∈ ts →
    DataW.trod enc P W 0 (fun _ => true) true n t cs = some x → ∃ xs, Ty P n t xs ∧ RepDL (g0 W).pub W xs cs ∧ D.bulks xs + (if qdN P t then 1 else 0) ≤ B x.1
  | 0, t, cs, x, _, h => by simp [DataW.trod] at h
  | n + 1, t, cs, x, ht, h => by
    have hcov : qk3 P ts t = true := by
      simp only [covers, List.all_eq_true] at hts
      exact hts t ht
    unfold qk3 at hcov
    unfold Ty qdN
    split at hcov
    · -- bool
      rename_i hu
      obtain ⟨b, rfl, rfl⟩ := DataW.trod_bool hu h
      rw [hu]
      exact ⟨[.b b], ⟨b, rfl⟩, .cons _ _ _ _ (.b b) .nil, by have := hB.lit (.bool b); simpa [D.bulks, D.bulk] using this⟩
    · rename_i k hu
      obtain ⟨z, rfl, rfl, hw⟩ := DataW.trod_int hu h
      rw [hu]
      exact ⟨[.i k z], ⟨z, rfl, hw⟩, .cons _ _ _ _ (.i k z) .nil, by have := hB.lit (.int k z); simpa [D.bulks, D.bulk] using this⟩
    · rename_i hu
      obtain ⟨z, rfl, rfl, hm⟩ := DataW.trod_string hu h
      rw [hu]
      have hl : (z.data.toList.map (·.toNat)).length = z.size := by simp
      refine ⟨[.s (z.data.toList.map (·.toNat))], ⟨_, rfl, by rw [hl]; exact hm, fun c hc => ?_⟩, .cons _ _ _ _ (.s _ z rfl) .nil, ?_⟩
      · obtain ⟨b, _, rfl⟩ := List.mem_map.1 hc
        exact b.toNat_lt
      · simp only [D.bulks, D.bulk, hB.str]
        simp
    · -- slice
      rename_i e hu
      simp only [qDB, List.contains_iff_mem, Nat.blt_eq] at hcov
      obtain ⟨he, hpos⟩ := hcov
      rw [hu]
      rcases DataW.trod_slice hu h with ⟨rfl, rfl⟩ | ⟨a, len, cap, elems, rest, m, hm, rfl, rfl, hb, hlc, hcap, hlen, hel, _, _⟩
      · exact ⟨[.nil], .inl rfl, .cons _ _ _ _ .nil .nil, by rw [hB.nil]; simp [D.bulks, D.bulk]⟩
      · cases hm
        -- each element
        obtain ⟨l, hl1, hl2⟩ := qfZ (R := fun i (p : List D × List Value) => ∃ y, elems[i]? = some y ∧ W.cells? 0 (a.add (i * P.cellsOf e)) (P.cellsOf e) = some p.2 ∧ Ty P n e p.1 ∧ RepDL (g0 W).pub W p.1 p.2 ∧ D.bulks p.1 + (if qdN P e then 1 else 0) ≤ B y.1) len (fun i hi => by
          have h1 := hel i hi
          rw [List.getElem?_eq_getElem (by omega)] at h1
          obtain ⟨cs', h2, h3⟩ := Option.bind_eq_some_iff.1 h1
          obtain ⟨xs, h4, h5, h6⟩ := qi1 hts hB n e cs' _ he h3
          exact ⟨(xs, cs'), _, List.getElem?_eq_getElem (by omega), h2, h4, h5, h6⟩)
        have htys : ∀ q ∈ l.map (·.1), Ty P n e q := fun q hq => by
          obtain ⟨p, hp, rfl⟩ := List.mem_map.1 hq
          obtain ⟨i, hi⟩ := List.getElem?_of_mem hp
          obtain ⟨y, _, _, h4, _⟩ := hl2 i p hi
          exact h4
        have hbulk : D.bulks ((l.map (·.1)).map (elD (qdN P e))) ≤ BA (elems.map (·.1)) := by
          refine qoZ hB (by simp [hl1, hlen]) (fun i y d hy hd => ?_)
          simp only [List.getElem?_map, Option.map_map, Option.map_eq_some_iff] at hy hd
          obtain ⟨p, hp, rfl⟩ := hy
          obtain ⟨z, hz, rfl⟩ := hd
          obtain ⟨y, h1, _, h4, _, h6⟩ := hl2 i p hp
          rw [hz] at h1
          cases h1
          exact qrg h4 h6
        refine ⟨[.sl ((l.map (·.1)).map (elD (qdN P e)))], .inr ⟨l.map (·.1), rfl, by simp only [List.length_map, hl1]; omega, htys⟩, .cons _ _ _ _ ?_ .nil, ?_⟩
        · cases hle : l with
          | nil =>
            rw [hle] at hl1
            simp at hl1
            subst hl1
            exact .sl0 a cap
          | cons p0 l' =>
            rw [← hle]
            have hlpos : 0 < len := by rw [← hl1, hle]; simp
            have hcl : ∀ p ∈ l, p.2.length = P.cellsOf e := fun p hp => by
              obtain ⟨i, hi⟩ := List.getElem?_of_mem hp
              obtain ⟨y, _, h2, _⟩ := hl2 i p hi
              exact (qk9 h2).1
            have hcell : ∀ i p, l[i]? = some p → ∀ r v, p.2[r]? = some v → W.cell? ((a.add (i * P.cellsOf e)).add r) = some v := fun i p hi r v hv => by
              obtain ⟨y, _, h2, _⟩ := hl2 i p hi
              exact (qk9 h2).2 r v hv
            have hspot : a.spot = none := by
              have h0 : l[0]? = some p0 := by rw [hle]; rfl
              have hp0 := hcl p0 (by rw [hle]; simp)
              have hlt : 0 < p0.2.length := by omega
              have := qnR (hcell 0 p0 h0 0 p0.2[0] (by simp [hlt]))
              rw [Nat.zero_mul] at this
              unfold Addr.add at this
              simpa using this
            obtain ⟨b, off, sp⟩ := a
            simp only at hspot
            subst hspot
            have hvlen : (l.map (·.2)).flatten.length = len * P.cellsOf e := by
              rw [qhq _ (fun q hq => by obtain ⟨p, hp, rfl⟩ := List.mem_map.1 hq; exact hcl p hp)]; simp [hl1]
            have hflat : ((l.map (·.1)).map (elD (qdN P e))).flatMap D.cells = (l.map (·.1)).flatten := by
              rw [List.flatMap_map, List.flatMap_def]
              congr 1
              rw [List.map_congr_left (g := id)]
              · simp
              · intro q hq; exact qgB (htys q hq)
            have hrep : RepDL (g0 W).pub W (((l.map (·.1)).map (elD (qdN P e))).flatMap D.cells) (l.map (·.2)).flatten := by
              rw [hflat]
              refine RepDL.split (by simp) (fun i q r hq hr => ?_)
              simp only [List.getElem?_map, Option.map_eq_some_iff] at hq hr
              obtain ⟨p, hp, rfl⟩ := hq
              obtain ⟨p', hp', rfl⟩ := hr
              rw [hp] at hp'
              cases hp'
              obtain ⟨y, _, _, _, h5, _⟩ := hl2 i p hp
              exact h5
            have hcs : ∀ j v, (l.map (·.2)).flatten[j]? = some v → W.cell? ⟨b, off + j, none⟩ = some v := fun j v hj => by
              obtain ⟨i, r, q, h1, h2, h3⟩ := qkp _ (fun q hq => by obtain ⟨p, hp, rfl⟩ := List.mem_map.1 hq; exact hcl p hp) j v hj
              simp only [List.getElem?_map, Option.map_eq_some_iff] at h2
              obtain ⟨p, hp, rfl⟩ := h2
              have := hcell i p hp r v h3
              rw [qbj, qbj] at this
              rw [h1, ← Nat.add_assoc]; exact this
            have hlenD : ((l.map (·.1)).map (elD (qdN P e))).length = len := by simp [hl1]
            have hsl := RepD.sl (pub := (g0 W).pub) (w := W) ((l.map (·.1)).map (elD (qdN P e))) b off cap (P.cellsOf e) (l.map (·.2)).flatten (by rw [hle]; simp) (fun x hx => ?_) hrep hcs ?_ (by rw [hlenD]; exact hlc) ?_
            · rw [hlenD] at hsl; exact hsl
            · obtain ⟨q, hq, rfl⟩ := List.mem_map.1 hx
              rw [qgB (htys q hq)]
              obtain ⟨p, hp, rfl⟩ := List.mem_map.1 hq
              obtain ⟨i, hi⟩ := List.getElem?_of_mem hp
              obtain ⟨y, _, _, _, h5, _⟩ := hl2 i p hi
              rw [h5.length]; exact hcl p hp
            · have hp : 0 < len * P.cellsOf e := Nat.mul_pos hlpos hpos
              have hlt : (l.map (·.2)).flatten.length - 1 < (l.map (·.2)).flatten.length := by rw [hvlen]; omega
              have := qol (hcs _ _ (List.getElem?_eq_getElem hlt))
              rw [hvlen] at this ⊢
              omega
            · refine hrep.ones ?_
              rw [hflat]
              exact qfs fun q hq => qn7 (htys q hq)
        · rw [quh, hB.sl]
          simp only [qDt, if_false]
          omega
    · -- struct
      rename_i fs hu
      simp only [qDB, List.all_eq_true, List.contains_iff_mem, Nat.beq_eq] at hcov
      obtain ⟨⟨hf, htile⟩, hsum⟩ := hcov
      obtain ⟨ys, m, hm, rfl, hlc, hlen, hel⟩ := DataW.trod_struct hu h
      cases hm
      rw [hu]
      obtain ⟨l, hl1, hl2⟩ := qfZ (R := fun i (p : List D) => ∃ f y, fs[i]? = some f ∧ ys[i]? = some y ∧ Ty P n f.type p ∧ RepDL (g0 W).pub W p ((cs.drop f.offset).take (P.cellsOf f.type)) ∧ D.bulks p + (if qdN P f.type then 1 else 0) ≤ B y.1) fs.size (fun i hi => by
        have hfi : fs[i]? = some fs[i] := by simp [hi]
        have h1 := hel i fs[i] hfi
        rw [List.getElem?_eq_getElem (by omega)] at h1
        obtain ⟨xs, h4, h5, h6⟩ := qi1 hts hB n _ _ _ (hf fs[i] (by simp)) h1
        exact ⟨xs, fs[i], _, hfi, List.getElem?_eq_getElem (by omega), h4, h5, h6⟩)
      refine ⟨l.flatten, ⟨l, rfl, by simp [hl1], fun i f q hfi hq => ?_⟩, ?_, ?_⟩
      · obtain ⟨f', y, h1, h2, h3, _⟩ := hl2 i q hq
        have : fs[i]? = some f := by simpa using hfi
        rw [h1] at this; cases this
        exact h3
      · have hall : cs = (fs.toList.map fun f => (cs.drop f.offset).take (P.cellsOf f.type)).flatten := by
          rw [qiv cs _ 0 htile, ← hsum, ← hlc]; simp
        rw [hall]
        refine RepDL.split (by simp [hl1]) (fun i q r hq hr => ?_)
        simp only [List.getElem?_map, Option.map_eq_some_iff] at hr
        obtain ⟨f, hfi, rfl⟩ := hr
        obtain ⟨f', y, h1, h2, h3, h4, _⟩ := hl2 i q hq
        have : fs[i]? = some f := by simpa using hfi
        rw [h1] at this; cases this
        exact h4
      · simp only [hB.agg, if_true]
        have := qge hB (ys := l) (ds := ys.map (·.1)) (by simp [hl1, hlen]) (fun i q d hq hd => by
          simp only [List.getElem?_map, Option.map_eq_some_iff] at hd
          obtain ⟨z, hz, rfl⟩ := hd
          obtain ⟨f', y, h1, h2, h3, h4, h5⟩ := hl2 i q hq
          rw [hz] at h2; cases h2
          omega)
        omega
    · -- array
      rename_i k e hu
      simp only [qDB, List.contains_iff_mem, Nat.beq_eq] at hcov
      obtain ⟨he, hsum⟩ := hcov
      obtain ⟨ys, m, hm, rfl, hlc, hlen, hel⟩ := DataW.trod_array hu h
      cases hm
      rw [hu]
      obtain ⟨l, hl1, hl2⟩ := qfZ (R := fun i (p : List D) => ∃ y, ys[i]? = some y ∧ Ty P n e p ∧ RepDL (g0 W).pub W p ((cs.drop (i * P.cellsOf e)).take (P.cellsOf e)) ∧ D.bulks p + (if qdN P e then 1 else 0) ≤ B y.1) k (fun i hi => by
        have h1 := hel i hi
        rw [List.getElem?_eq_getElem (by omega)] at h1
        obtain ⟨xs, h4, h5, h6⟩ := qi1 hts hB n _ _ _ he h1
        exact ⟨xs, _, List.getElem?_eq_getElem (by omega), h4, h5, h6⟩)
      refine ⟨l.flatten, ⟨l, rfl, hl1, fun q hq => ?_⟩, ?_, ?_⟩
      · obtain ⟨i, hi⟩ := List.getElem?_of_mem hq
        obtain ⟨y, h2, h3, _⟩ := hl2 i q hi
        exact h3
      · have hall : cs = ((List.range k).map fun i => (cs.drop (i * P.cellsOf e)).take (P.cellsOf e)).flatten := by
          rw [qiw, ← hsum, ← hlc]; simp
        rw [hall]
        refine RepDL.split (by simp [hl1]) (fun i q r hq hr => ?_)
        simp only [List.getElem?_map, Option.map_eq_some_iff] at hr
        obtain ⟨i', hi', rfl⟩ := hr
        have hik : i < k := by rw [← hl1]; exact (List.getElem?_eq_some_iff.1 hq).1
        rw [List.getElem?_range hik] at hi'
        cases hi'
        obtain ⟨y, h2, h3, h4, _⟩ := hl2 i q hq
        exact h4
      · simp only [hB.agg, if_true]
        have := qge hB (ys := l) (ds := ys.map (·.1)) (by simp [hl1, hlen]) (fun i q d hq hd => by
          simp only [List.getElem?_map, Option.map_eq_some_iff] at hd
          obtain ⟨z, hz, rfl⟩ := hd
          obtain ⟨y, h2, h3, h4, h5⟩ := hl2 i q hq
          rw [hz] at h2; cases h2
          omega)
        omega
    · cases hcov
end
end W

/-
  A law's contract from runs of the small semantics, one for every way that its arguments may read.
-/
set_option linter.unusedSimpArgs false
set_option linter.unusedVariables false
namespace W
open Go (World Value Addr IntKind Program TypeId FuncId Operand Act Oper Next Result Sem Ending Exit Code Func DataW MemPlace Calls TypeDesc Lit)
open Go.ChangeShapes Go.RowKit
section
variable {P : Program} {Hh : Type} {enc : TypeId × Value → Hh} {W : World} {M : Maps}
theorem qwI {r : Go.Reach} {b : Nat} {t : TypeId} {v : Value} (hv : Value.okWide P W r b t v) : (qdN P t = true → ∃ cs, v = .agg cs) ∧
    (qdN P t = false → (∃ d, P.underlying t = some d ∧ (d = .bool ∨ (∃ k, d = .int k) ∨ d = .string ∨ ∃ e, d = .slice e)) → v.cells.toList = [v]) := by
  unfold Value.okWide at hv
  unfold qdN
  split at hv
  · rename_i hu
    rw [hu]
    obtain ⟨cs, rfl, _⟩ := hv
    exact ⟨fun _ => ⟨cs, rfl⟩, fun h => by cases h⟩
  · rename_i hu
    rw [hu]
    obtain ⟨cs, rfl, _⟩ := hv
    exact ⟨fun _ => ⟨cs, rfl⟩, fun h => by cases h⟩
  · rename_i h1 h2
    refine ⟨fun h => ?_, fun _ ⟨d, hu, hd⟩ => ?_⟩
    · exfalso
      split at h
      · rename_i hu; exact h1 _ hu
      · rename_i hu; exact h2 _ _ hu
      · cases h
    · cases v with
      | agg cs => rcases hd with rfl | ⟨k, rfl⟩ | rfl | ⟨e, rfl⟩ <;> simp [Go.Cell.okWide, Go.Cell.ok, hu] at hv
      | _ => rfl
theorem qxg {ts : List TypeId} (hts : covers P ts = true) {B : DataW Hh → Nat} {BA : List (DataW Hh) → Nat} (hB : Bulk B BA) {r : Go.Reach} {b : Nat} {t : TypeId} {v : Value} {d : DataW Hh} {ps : List MemPlace} (ht : t ∈ ts)
    (hv : Value.okWide P W r b t v) (h : DataW.Trod enc P W 0 (fun _ => true) true t v d ps) : ∃ x, Arg P t x ∧ RepS M (g0 W) W (.d x) v ∧ D.bulk x ≤ B d := by
  obtain ⟨n, hn⟩ := h
  obtain ⟨xs, h1, h2, h3⟩ := qi1 hts hB n t _ _ ht hn
  refine ⟨elD (qdN P t) xs, ⟨n, xs, h1, rfl⟩, ?_, qrg h1 h3⟩
  obtain ⟨f1, f2⟩ := qwI hv
  cases ha : qdN P t with
  | true =>
    obtain ⟨cs, rfl⟩ := f1 ha
    exact .d _ _ (.agg xs cs h2)
  | false =>
    have hcov : qk3 P ts t = true := by
      simp only [covers, List.all_eq_true] at hts
      exact hts t ht
    have hc := f2 ha (by
      unfold qk3 at hcov
      split at hcov
      · rename_i hu; exact ⟨_, hu, .inl rfl⟩
      · rename_i hu; exact ⟨_, hu, .inr (.inl ⟨_, rfl⟩)⟩
      · rename_i hu; exact ⟨_, hu, .inr (.inr (.inl rfl))⟩
      · rename_i hu; exact ⟨_, hu, .inr (.inr (.inr ⟨_, rfl⟩))⟩
      · rename_i hu; simp [qdN, hu] at ha
      · rename_i hu; simp [qdN, hu] at ha
      · cases hcov)
    rw [hc] at h2
    cases h2 with
    | cons x _ l _ hx hl =>
      cases hl
      exact .d _ _ hx
theorem qpM {ts : List TypeId} (hts : covers P ts = true) {B : DataW Hh → Nat} {BA : List (DataW Hh) → Nat} (hB : Bulk B BA) {r : Go.Reach} {b : Nat} : ∀ {tys : List TypeId} {vs : List Value} {ds : List (DataW Hh)} {ps : List MemPlace} (j : Nat),
    (∀ t ∈ tys, t ∈ ts) → (∀ (i : Nat) t v, tys[i]? = some t → vs[i]? = some v → Value.okWide P W r b t v) → DataW.TrodAll enc P W 0 (fun _ => true) true tys vs ds ps →
    ∃ xs : List D, All2 (Arg P) tys xs ∧ ArgsRep M (g0 W) W j (xs.map .d) vs ∧ D.bulks xs ≤ BA ds
  | [], vs, ds, ps, j, _, _, h => by
    obtain ⟨rfl, rfl, rfl⟩ := trodAll_nil h
    exact ⟨[], .nil, .nil j, by simp [D.bulks]⟩
  | t :: tys, vs, ds, ps, j, ht, hv, h => by
    obtain ⟨v, vs', d, ds', p, q, rfl, rfl, rfl, hd, hrest⟩ := trodAll_cons h
    obtain ⟨x, h1, h2, h3⟩ := qxg (M := M) hts hB (ht t (by simp)) (hv 0 t v rfl rfl) hd
    obtain ⟨xs, h4, h5, h6⟩ := qpM hts hB (j + 1) (fun u hu => ht u (by simp [hu])) (fun i u w' hu hw => hv (i + 1) u w' (by simpa using hu) (by simpa using hw)) hrest
    refine ⟨x :: xs, .cons h1 h4, .cons (.s h2) h5, ?_⟩
    rw [hB.c, D.bulks]
    omega
theorem qn9 {f : Func} {fid : FuncId} {s : Go.ChangeSpec} {apart fresh handsOn again : Bool} {args : Array Value} {ds gs : List (DataW Hh)} {before : List MemPlace} {tb : TypeId} {ts : List TypeId} {pg : Pg} {i : Nat} {r : Go.Reach} {b : Nat}
    (hgl : GlOk M (g0 W) W) (hm : P.follows .mixedOrders = true) (hT : Tab P M pg) (hx : qa1 P M pg.ext) (hxlo : qa6 pg.ext) (hlook : look M.fm fid = some i) (hext : pg.fn i ≠ none)
    (hts : covers P ts = true) (hpar : ∀ t ∈ f.params.toList, t ∈ ts) {B : DataW Hh → Nat} {BA : List (DataW Hh) → Nat} (hB : Bulk B BA)
    (hval : ∀ (j : Nat) t v, f.params[j]? = some t → args[j]? = some v → Value.okWide P W r b t v)
    (hvars : s.vars = []) (hW : DataW.Whole enc P f.params.toList s.vars apart W args.toList ds gs before) (hs : s.fn Hh ds = { results := [.lit (.bool true)], args := ds }) (hres : f.resultTypes = #[tb]) (htb : P.underlying tb = some .bool)
    (hl : Go.laidOutB P = true) (hread : ∀ t ∈ f.params.toList, P.readableRec t = true ∧ t < P.types.size)
    (run : ∀ xs : List D, All2 (Arg P) f.params.toList xs → D.bulks xs ≤ BA ds → ∃ n r, qdx pg n i (xs.map .d) [] = some r ∧ r.pan = false ∧ r.v = .d (.b true)) :
    Calls P fid args W fun e W' => ∃ v, e = .returned v ∧ s.post enc P f apart fresh handsOn again W args v W' := by
  have hW' := hW
  obtain ⟨p, q, hA, hV, rfl, hfz, hnd⟩ := hW
  obtain ⟨xs, h1, h2, h3⟩ := qpM (M := M) hts hB 0 hpar (fun j t v ht hv => hval j t v (by simpa using ht) (by simpa using hv)) hA
  obtain ⟨n, q2, hrun, hp, hv⟩ := run xs h1 h3
  have hc := qo8 hm hT hx hxlo hrun hlook hext h2 (qwL M W hgl)
  have ha : args.toList.toArray = args := by simp
  rw [ha] at hc
  refine hc.mono (fun e W' he => ?_)
  cases e with
  | returned v =>
    obtain ⟨_, g', hH, hE, hr⟩ := he
    rw [hv] at hr
    have hvb : v = .bool true := by
      cases hr with
      | s h => cases h with
        | d _ _ h => cases h; rfl
    subst hvb
    exact ⟨_, rfl, qvo hvars hW' hs hres htb hl hread hE.io (qzO hE)⟩
  | panicked ch =>
    obtain ⟨h, _⟩ := he
    rw [hp] at h; cases h
  | outgrown => exact he.elim
end
end W

/-
  What arguments read as, kind by kind.
-/
set_option linter.unusedSimpArgs false
set_option linter.unusedVariables false
namespace W
open Go (World Value Addr IntKind Program TypeId FuncId Func DataW MemPlace TypeDesc Lit)
theorem qh0 {n a b : Nat} (h : look ((List.range n).map fun i => (i, i)) a = some b) : a = b := by
  have key : ∀ (l : List Nat), look (l.map fun i => (i, i)) a = some b → a = b := by
    intro l
    induction l with
    | nil => intro h; cases h
    | cons x l ih =>
      intro h
      simp only [qDy, look, qDH] at h
      split at h
      · rename_i hb
        cases h
        exact qDR hb
      · exact ih h
  exact key _ h
variable {P : Program} {t e : TypeId} {x : D}
theorem qry {k : IntKind} (hu : P.underlying t = some (.int k)) (h : Arg P t x) : ∃ z, x = .i k z ∧ (Lit.int k z).wf = true := by
  obtain ⟨n, xs, ht, rfl⟩ := h
  cases n with
  | zero => exact ht.elim
  | succ n =>
    simp only [Ty, hu] at ht
    obtain ⟨z, rfl, hw⟩ := ht
    exact ⟨z, by simp [qdN, hu, elD], hw⟩
theorem qxQ (hu : P.underlying t = some .string) (h : Arg P t x) : ∃ s, x = .s s ∧ s.length ≤ Go.maxLen ∧ ∀ c ∈ s, c < 256 := by
  obtain ⟨n, xs, ht, rfl⟩ := h
  cases n with
  | zero => exact ht.elim
  | succ n =>
    simp only [Ty, hu] at ht
    obtain ⟨z, rfl, hw⟩ := ht
    exact ⟨z, by simp [qdN, hu, elD], hw⟩
inductive SlD {α : Type} (e : α → D) : D → List α → Prop
  | nil : SlD e .nil []
  | sl (L : List α) : SlD e (.sl (L.map e)) L
theorem SlD.len {α : Type} {e : α → D} {x : D} {L : List α} (h : SlD e x L) {H : List Obj} : qim .lenL (.d x) H = some (.d (.i .i64 L.length)) := by
  cases h with
  | nil => rfl
  | sl => simp [qim]
end W

/-
  Tables that the rows list are what the small semantics reads.
-/
set_option linter.unusedSimpArgs false
set_option linter.unusedVariables false
namespace W
open Go (World Value Addr IntKind Program TypeId FuncId Func DataW MemPlace Lit)
theorem qsE {W : World} {b i : Nat} {v : Value} (h : W.cell? ⟨b, i, none⟩ = some v) : i < (g0 W).pub b := by
  show i < (match W.heap[b]? with | some (.cells c _ _) => c.size | _ => 0)
  simp only [World.cell?] at h
  split at h
  · rename_i c t f hb
    rw [hb]
    simp only [Option.isSome_none, qDt, if_false] at h
    exact (Array.getElem?_eq_some_iff.1 h).1
  · cases h
theorem qoE {pub : Nat → Nat} {w : World} (k : IntKind) : ∀ zs : List Int, RepDL pub w (zs.map (D.i k)) (zs.map fun z => Value.int k z)
  | [] => .nil
  | z :: zs => .cons _ _ _ _ (.i k z) (qoE k zs)
theorem qmG {P : Program} {W : World} {name : String} {k : IntKind} {zs : List Int} {g : Nat} {t e : TypeId} {n : Nat}
    (hg : P.globalNamed name = some g) (hty : (P.globals[g]?).map (·.type) = some t) (ht : P.underlying t = some (.array n e)) (he : P.underlying e = some (.int k)) (hce : P.cellsOf e = 1) (hct : P.cellsOf t = n) :
    ∀ {laid : List (String × DataW Unit)} {ps : List MemPlace}, DataW.LaidVars P W laid ps → (name, Go.Lib.tabData k zs) ∈ laid → Go.Lib.TabIs P W name k zs
  | [], _, _, hm => by cases hm
  | (nm, d) :: rest, ps, h, hm => by
    obtain ⟨g', t', cs, fuel, p, q, hg', ht', hvar, hd, hrest, _⟩ := h
    rcases List.mem_cons.1 hm with e | hm
    · cases e
      obtain rfl := Option.some.inj (hg.symm.trans hg')
      obtain rfl := Option.some.inj (hty.symm.trans ht')
      unfold Go.Lib.TabIs
      rw [hvar, ← Go.Lib.cells_of_tab ht he hce hct hd]
    · exact qmG hg hty ht he hce hct hrest hm
theorem qtq {M : Maps} {P : Program} {W : World} (h2 : qye M (g0 W) W) (h : ∀ n x, look M.gl n = some x → ∃ name k zs, P.globalNamed name = some n ∧ x = .agg (zs.map (D.i k)) ∧ zs ≠ [] ∧ Go.Lib.TabIs P W name k zs) : GlOk M (g0 W) W := by
  refine ⟨?_, h2⟩
  intro n x hn
  obtain ⟨name, k, zs, hg, rfl, hne, ht⟩ := h n x hn
  refine ⟨zs.map fun z => Value.int k z, qoE k zs, fun j v hj => ?_, ?_⟩
  · have hlt : j < zs.length := by
      have := (List.getElem?_eq_some_iff.1 hj).1
      simpa using this
    rw [qDz, ht.cell hg j hlt]
    have : (zs.map fun z => Value.int k z)[j]? = some (.int k (zs.getD j 0)) := by simp [List.getD, hlt]
    rw [this] at hj
    exact hj
  · have hpos : 0 < zs.length := by cases zs with | nil => exact absurd rfl hne | cons => simp
    have := qsE (ht.cell hg (zs.length - 1) (by omega))
    simp only [List.length_map]
    omega
theorem qm9 {P : Program} {W : World} {name : String} {g t : Nat} {tn : String} {x : DataW Unit}
    (hg : P.globalNamed name = some g) (hty : (P.globals[g]?).map (·.type) = some t) (hct : P.cellsOf t = 1) :
    ∀ {laid : List (String × DataW Unit)} {ps : List MemPlace}, DataW.LaidVars P W laid ps → (name, DataW.iface tn x) ∈ laid → (∃ ev, W.cell? ⟨g, 0, none⟩ = some ev ∧ (ev = .nilIface ∨ ∃ te pe, ev = .iface te pe)) ∧ 0 < (g0 W).pub g
  | [], _, _, hm => by cases hm
  | (nm, d) :: rest, ps, h, hm => by
    obtain ⟨g', t', cs, fuel, p, q, hg', ht', hvar, hd, hrest, _⟩ := h
    rcases List.mem_cons.1 hm with e | hm
    · cases e
      obtain rfl := Option.some.inj (hg.symm.trans hg')
      obtain rfl := Option.some.inj (hty.symm.trans ht')
      have hcs : ∃ u v, cs.toList = [.iface u v] := by
        generalize hl : cs.toList = l at hd
        cases fuel with
        | zero => simp [DataW.trod] at hd
        | succ fuel =>
          unfold DataW.trod at hd
          split at hd
          all_goals try (exact ⟨_, _, rfl⟩)
          all_goals exfalso
          all_goals try (cases hd; done)
          all_goals try (simp only [Option.map_eq_some_iff, qDI, Prod.mk.injEq, reduceCtorEq, false_and, and_false, exists_false, exists_const] at hd; done)
          all_goals try split at hd
          all_goals try (cases hd; done)
          all_goals try (simp only [Option.map_eq_some_iff, qDI, Prod.mk.injEq, reduceCtorEq, false_and, and_false, exists_false, exists_const] at hd; done)
          all_goals try split at hd
          all_goals try (cases hd; done)
          all_goals try (simp only [Option.map_eq_some_iff, qDI, Prod.mk.injEq, reduceCtorEq, false_and, and_false, exists_false, exists_const] at hd; done)
          all_goals (obtain ⟨en, _, hd⟩ := Option.bind_eq_some_iff.1 hd; simp only at hd; split at hd <;> cases hd)
      obtain ⟨u, v, hcs⟩ := hcs
      have hc1 : cs = #[.iface u v] := by rw [← Array.toList_inj]; exact hcs
      subst hc1
      have hh : ∃ T f, W.heap[g]? = some (.cells #[.iface u v] T f) := by
        simp only [World.var?, hg, Option.bind_some] at hvar
        split at hvar
        · rename_i cs' T f he
          simp only [Option.some.injEq] at hvar
          subst hvar
          exact ⟨T, f, he⟩
        · cases hvar
      obtain ⟨T, f, hh⟩ := hh
      refine ⟨⟨.iface u v, ?_, .inr ⟨u, v, rfl⟩⟩, ?_⟩
      · simp [World.cell?, hh]
      · simp [g0, hh]
    · exact qm9 hg hty hct hrest hm
end W

/- The program is what the small semantics runs: the seat's table, shared by its laws. -/
set_option linter.unusedVariables false
set_option linter.unusedSimpArgs false
namespace Go.Proofs.YtdgbjjpdepdmmaaGreatDoor
open Go.ChangeShapes Go.WideShapes Go.ChangeAt Go.RowKit W
set_option maxRecDepth 100000
theorem own : ownKnob Tryz.prog.godebug = none := by kernel_rfl
theorem qxM {H : Type} : Bulk (Rows.uptoBulk (H := H)) Rows.uptoBulkAll :=
  ⟨fun _ => rfl, fun l => by cases l <;> simp [Rows.uptoBulk], rfl, fun _ _ => rfl, fun _ => rfl, rfl, fun _ _ => rfl⟩
def pg0 : W.Pg := ⟨W.prog, fun _ _ _ => none⟩
def maps : Maps := { fm := (List.range 408).map fun i => (i, i), tm := (List.range 378).map fun i => (i, i), gl := [(0, glD 0), (5, glD 5), (6, glD 6), (7, glD 7)], bk := [(141, ⟨4, true⟩), (239, ⟨6, true⟩), (240, ⟨10, true⟩)], gi := [3, 4] }
theorem qDs : zM maps Tryz.prog { loc := [4, 10, 11], org := [(4, 4), (18, 4), (24, 4), (30, 4), (31, 4), (36, 4), (38, 4), (40, 4), (10, 10), (78, 10), (79, 10), (87, 10), (88, 10), (94, 10), (95, 10), (100, 10), (101, 10), (106, 10), (11, 11)], mv := [], bl := [(1, [3, 64, 65, 66]), (0, [])], ll := [(0, [3, 64, 65, 66])], cp := [68] } true Tryz.f5 = some zI := by kernel_rfl
theorem qDl : zM maps Tryz.prog { loc := [1, 2], org := [(1, 1), (2, 2), (13, 2)], mv := [(3, 6, 1)], bl := [], ll := [] } true Tryz.f8 = some qfO := by kernel_rfl
theorem qBi : zM maps Tryz.prog { loc := [2, 7], org := [(2, 2), (13, 2), (25, 2), (43, 2), (7, 7)], mv := [(13, 0, 0), (13, 3, 0), (3, 3, 0), (3, 4, 1)], bl := [(1, [2, 4, 5, 26, 27, 28]), (0, [2, 4, 5])], ll := [(0, [2, 4, 5, 26, 27, 28])] } true Tryz.f11 = some f_recheck_Check := by kernel_rfl
theorem qCk : zM maps Tryz.prog { loc := [2], org := [(2, 2)], mv := [(2, 3, 0), (2, 1, 0), (2, 2, 1), (1, 3, 0)], bl := [], ll := [] } true Tryz.f13 = some qaf := by kernel_rfl
theorem qCK : zM maps Tryz.prog { loc := [], org := [], mv := [], bl := [], ll := [] } true Tryz.f14 = some yN := by kernel_rfl
theorem qB5 : zM maps Tryz.prog { loc := [], org := [], mv := [], bl := [(1, [0, 3]), (0, [])], ll := [(0, [0, 3])] } true Tryz.f15 = some yM := by kernel_rfl
theorem qA6 : zM maps Tryz.prog { loc := [2], org := [(2, 2), (10, 2), (32, 2), (39, 2), (53, 2)], mv := [(13, 0, 0), (13, 3, 0), (4, 5, 0), (3, 4, 0), (3, 2, 0), (3, 3, 1)], bl := [(1, [2, 5, 6]), (0, [2, 5])], ll := [(0, [2, 5, 6])] } true Tryz.f16 = some f_waferref17_Check := by kernel_rfl
theorem qBH : zM maps Tryz.prog { loc := [2], org := [(2, 2), (15, 2)], mv := [], bl := [], ll := [] } false Tryz.f20 = some f_recheck_Check_1 := by kernel_rfl
theorem qB8 : zM maps Tryz.prog { loc := [], org := [], mv := [], bl := [], ll := [] } false Tryz.f21 = some f_recheck_must := by kernel_rfl
theorem qBI : zM maps Tryz.prog { loc := [1], org := [(1, 1), (7, 1), (12, 1), (18, 1), (24, 1), (32, 1), (38, 1), (44, 1), (50, 1), (56, 1), (61, 1), (64, 1), (67, 1), (81, 1)], mv := [(6, 3, 0), (5, 3, 0), (4, 3, 0), (1, 4, 0)], bl := [], ll := [] } true Tryz.f22 = some qcS := by kernel_rfl
theorem qCc : zM maps Tryz.prog { loc := [10], org := [(10, 10), (47, 10)], mv := [], bl := [(3, [4, 5, 6, 22, 23, 24]), (2, [4, 5, 6, 22, 23, 24]), (1, [4, 5, 6, 22, 23, 24]), (0, [5])], ll := [(0, [4, 5, 6, 22, 23, 24])], rl := [(2, [4, 5, 6, 8, 22, 23, 24])], rk := [(2, 141)] } true Tryz.f23 = some f_front_NewEnv := by kernel_rfl
theorem qB1 : zM maps Tryz.prog { loc := [2, 8, 10, 12, 14, 16], org := [(2, 2), (21, 2), (25, 2), (30, 2), (37, 2), (48, 2), (60, 2), (72, 2), (84, 2), (96, 2), (108, 2), (8, 8), (68, 8), (10, 10), (80, 10), (12, 12), (92, 12), (14, 14), (104, 14), (16, 16), (116, 16)], mv := [(9, 4, 0), (9, 5, 1), (1, 3, 0)], bl := [(1, [0, 2, 4, 38, 39, 40]), (0, [2, 4]), (3, [2, 4, 61, 62, 63]), (2, [2, 4]), (5, [2, 4, 73, 74, 75]), (4, [2, 4]), (7, [2, 4, 85, 86, 87]), (6, [2, 4]), (9, [2, 4, 97, 98, 99]), (8, [2, 4]), (11, [4, 109, 110, 111]), (10, [])], ll := [(0, [0, 2, 4, 38, 39, 40]), (2, [2, 4, 61, 62, 63]), (4, [2, 4, 73, 74, 75]), (6, [2, 4, 85, 86, 87]), (8, [2, 4, 97, 98, 99]), (10, [4, 109, 110, 111])] } false Tryz.f24 = some f_recheck_checker_heads := by kernel_rfl
theorem qCl : zM maps Tryz.prog { loc := [3, 5, 10, 12], org := [(3, 3), (31, 3), (43, 3), (5, 5), (57, 5), (68, 5), (75, 5), (107, 5), (125, 5), (10, 10), (98, 10), (104, 10), (12, 12), (114, 12), (119, 12)], mv := [(11, 0, 0), (11, 1, 0)], bl := [(1, [0, 17, 18, 19]), (0, [0]), (5, [0, 5, 8, 51, 52, 53, 91, 92, 93]), (4, [0, 5, 51, 52, 53]), (7, [0, 5, 51, 52, 53, 108, 109, 110]), (6, [0, 5, 51, 52, 53]), (3, [0, 51, 52, 53]), (2, [])], ll := [(0, [0, 17, 18, 19]), (2, [0, 51, 52, 53]), (4, [0, 5, 8, 51, 52, 53, 91, 92, 93]), (6, [0, 5, 51, 52, 53, 108, 109, 110])] } false Tryz.f25 = some f_recheck_checker_records := by kernel_rfl
theorem qBL : zM maps Tryz.prog { loc := [3, 5, 8, 10], org := [(3, 3), (22, 3), (25, 3), (26, 3), (30, 3), (31, 3), (32, 3), (5, 5), (49, 5), (8, 8), (65, 8), (80, 8), (83, 8), (10, 10), (104, 10)], mv := [], bl := [(1, [0, 15, 16, 17]), (0, [0]), (3, [0, 42, 43, 44]), (2, [0]), (5, [0, 6, 57, 58, 59]), (4, [0]), (7, [0, 90, 91, 92]), (6, [])], ll := [(0, [0, 15, 16, 17]), (2, [0, 42, 43, 44]), (4, [0, 6, 57, 58, 59]), (6, [0, 90, 91, 92])] } false Tryz.f26 = some f_recheck_checker_declared := by kernel_rfl
theorem qCD : zM maps Tryz.prog { loc := [5], org := [(5, 5), (17, 5)], mv := [(7, 1, 0), (7, 2, 1)], bl := [(3, [0, 8, 9, 10, 18, 19, 20]), (2, [0, 8, 9, 10]), (1, [0, 8, 9, 10]), (0, [])], ll := [(0, [0, 8, 9, 10]), (2, [0, 8, 9, 10, 18, 19, 20])] } false Tryz.f28 = some f_recheck_checker_body := by kernel_rfl
theorem qBq : zM maps Tryz.prog { loc := [5], org := [(5, 5), (21, 5)], mv := [(6, 4, 1), (6, 0, 9), (6, 3, 0), (5, 3, 1), (2, 3, 1)], bl := [(1, [2, 3, 4]), (0, [2, 3])], ll := [(0, [2, 3, 4])] } false Tryz.f33 = some f_scan_All := by kernel_rfl
theorem qCZ : zM maps Tryz.prog { loc := [], org := [], mv := [(1, 3, 0), (1, 1, 0), (1, 2, 1)], bl := [], ll := [] } true Tryz.f34 = some qdt := by kernel_rfl
theorem qBN : zM maps Tryz.prog { loc := [], org := [], mv := [(1, 1, 0)], bl := [(1, [0, 3, 4]), (0, [])], ll := [(0, [0, 3, 4])] } true Tryz.f35 = some qcf := by kernel_rfl
theorem qCn : zM maps Tryz.prog { loc := [], org := [], mv := [], bl := [(0, [])], ll := [] } true Tryz.f36 = some qbC := by kernel_rfl
theorem qBc : zM maps Tryz.prog { loc := [1], org := [(1, 1), (7, 1), (12, 1), (19, 1), (26, 1), (32, 1), (39, 1), (45, 1), (52, 1), (58, 1), (64, 1), (70, 1), (78, 1), (84, 1), (93, 1), (104, 1), (110, 1), (119, 1), (129, 1), (139, 1), (145, 1)], mv := [], bl := [(1, [1, 3]), (0, [1]), (3, [1, 4]), (2, [1]), (5, [1, 5]), (4, [1]), (7, [1, 6]), (6, [])], ll := [(0, [1, 3]), (2, [1, 4]), (4, [1, 5]), (6, [1, 6])] } true Tryz.f37 = some y1 := by kernel_rfl
theorem qCA : zM maps Tryz.prog { loc := [], org := [], mv := [(6, 7, 0), (6, 0, 0), (6, 6, 0)], bl := [(1, [0, 1, 5, 6]), (0, [5])], ll := [(0, [0, 1, 5, 6])] } true Tryz.f38 = some f_waferref17_Others := by kernel_rfl
theorem qBW : zM maps Tryz.prog { loc := [8], org := [(8, 8)], mv := [], bl := [(3, [0, 3, 4, 5, 6]), (2, [0, 3, 4, 5]), (1, [0, 3, 4, 5]), (0, [3])], ll := [(0, [0, 3, 4, 5]), (2, [0, 3, 4, 5, 6])] } true Tryz.f39 = some f_waferref11_Recs := by kernel_rfl
theorem qC3 : zM maps Tryz.prog { loc := [3, 6], org := [(3, 3), (12, 3), (17, 3), (22, 3), (34, 3), (39, 3), (45, 3), (6, 6)], mv := [], bl := [(1, [0, 3, 4]), (0, [])], ll := [(0, [0, 3, 4])] } true Tryz.f40 = some f_waferref17_ctx_names := by kernel_rfl
theorem qBb : zM maps Tryz.prog { loc := [3, 5, 7], org := [(3, 3), (30, 3), (36, 3), (51, 3), (57, 3), (62, 3), (143, 3), (151, 3), (163, 3), (171, 3), (5, 5), (46, 5), (7, 7), (65, 7), (80, 7), (85, 7), (123, 7), (131, 7)], mv := [(21, 0, 0), (21, 1, 0), (20, 8, 0), (20, 0, 0), (20, 7, 0)], bl := [(1, [0, 3, 4]), (0, [0, 3]), (5, [0, 3, 6, 7, 8, 9, 11, 12]), (4, [0, 3, 6, 7, 8, 11]), (7, [0, 3, 6, 7, 15]), (6, [0, 3, 6]), (3, [0, 3, 6]), (2, [0, 3]), (9, [0, 3, 18]), (8, [0, 3]), (11, [0, 3, 21, 22]), (10, [])], ll := [(0, [0, 3, 4]), (2, [0, 3, 6]), (4, [0, 3, 6, 7, 8, 9, 11, 12]), (6, [0, 3, 6, 7, 15]), (8, [0, 3, 18]), (10, [0, 3, 21, 22])] } true Tryz.f41 = some f_waferref17_ctx_types := by kernel_rfl
theorem qBg : zM maps Tryz.prog { loc := [], org := [], mv := [], bl := [(1, [0, 1, 5]), (0, [])], ll := [(0, [0, 1, 5])] } true Tryz.f43 = some f_waferref17_ctx_body := by kernel_rfl
theorem qBS : zM maps Tryz.prog { loc := [], org := [], mv := [], bl := [], ll := [] } true Tryz.f49 = some qbn := by kernel_rfl
theorem qCO : zM maps Tryz.prog { loc := [], org := [], mv := [], bl := [], ll := [] } true Tryz.f50 = some qay := by kernel_rfl
theorem qBt : zM maps Tryz.prog { loc := [], org := [], mv := [(1, 3, 0)], bl := [], ll := [] } true Tryz.f51 = some qaU := by kernel_rfl
theorem qBF : zM maps Tryz.prog { loc := [5], org := [(5, 5), (16, 5)], mv := [(9, 1, 0), (9, 2, 0)], bl := [(3, [3, 8, 9, 10, 17, 18, 19]), (2, [3, 8, 9, 10]), (1, [3, 8, 9, 10]), (0, [3])], ll := [(0, [3, 8, 9, 10]), (2, [3, 8, 9, 10, 17, 18, 19])] } true Tryz.f52 = some qdk := by kernel_rfl
theorem qBu : zM maps Tryz.prog { loc := [4], org := [(4, 4), (15, 4), (21, 4), (28, 4), (35, 4), (40, 4)], mv := [], bl := [(1, [9, 10, 11]), (0, [])], ll := [(0, [9, 10, 11])] } true Tryz.f53 = some qaQ := by kernel_rfl
theorem qBB : zM maps Tryz.prog { loc := [], org := [], mv := [(1, 1, 0), (1, 2, 1), (1, 0, 0), (1, 2, 0)], bl := [], ll := [] } true Tryz.f54 = some zm := by kernel_rfl
theorem qBD : zM maps Tryz.prog { loc := [], org := [], mv := [(1, 1, 0), (1, 2, 1), (1, 0, 0), (1, 2, 0)], bl := [], ll := [] } true Tryz.f56 = some kR := by kernel_rfl
theorem qBX : zM maps Tryz.prog { loc := [1], org := [(1, 1), (3, 1), (8, 1)], mv := [], bl := [], ll := [] } true Tryz.f57 = some qbw := by kernel_rfl
theorem qCG : zM maps Tryz.prog { loc := [1], org := [(1, 1)], mv := [], bl := [], ll := [] } true Tryz.f58 = some qbu := by kernel_rfl
theorem qCQ : zM maps Tryz.prog { loc := [], org := [], mv := [(1, 1, 0), (1, 2, 1), (1, 0, 0), (1, 2, 0)], bl := [], ll := [] } true Tryz.f59 = some zf := by kernel_rfl
theorem qCp : zM maps Tryz.prog { loc := [], org := [], mv := [(1, 1, 0), (1, 2, 1), (1, 0, 0), (1, 2, 0)], bl := [], ll := [] } true Tryz.f61 = some zR := by kernel_rfl
theorem qCd : zM maps Tryz.prog { loc := [], org := [], mv := [(0, 0, 0), (0, 1, 0)], bl := [], ll := [] } false Tryz.f65 = some f_recheck_name := by kernel_rfl
theorem qBP : zM maps Tryz.prog { loc := [], org := [], mv := [(0, 2, 0)], bl := [], ll := [] } false Tryz.f66 = some f_recheck_checker_heads_1 := by kernel_rfl
theorem qB4 : zM maps Tryz.prog { loc := [], org := [], mv := [], bl := [], ll := [] } true Tryz.f68 = some f_recheck_checker_own := by kernel_rfl
theorem qBZ : zM maps Tryz.prog { loc := [3], org := [(3, 3)], mv := [(4, 0, 0), (4, 1, 0)], bl := [], ll := [] } true Tryz.f70 = some f_recheck_checker_typ := by kernel_rfl
theorem qA3 : zM maps Tryz.prog { loc := [3, 5, 7, 8], org := [(3, 3), (10, 3), (13, 3), (22, 3), (33, 3), (44, 3), (93, 3), (94, 3), (100, 3), (109, 3), (114, 3), (119, 3), (138, 3), (143, 3), (51, 3), (53, 3), (60, 3), (5, 5), (7, 7), (8, 8)], mv := [(26, 0, 0), (26, 2, 0), (24, 0, 0), (24, 2, 0), (19, 0, 0), (19, 2, 0), (17, 0, 0), (17, 2, 0), (2, 4, 0)], bl := [(1, [0, 23, 24, 25]), (0, []), (3, [0, 3, 34, 35, 36]), (2, [0, 3]), (4, [])], ll := [(0, [0, 23, 24, 25]), (2, [0, 3, 34, 35, 36])] } false Tryz.f71 = some f_recheck_checker_expr := by kernel_rfl
theorem qBV : zM maps Tryz.prog { loc := [], org := [], mv := [(0, 0, 0), (0, 1, 0)], bl := [], ll := [] } false Tryz.f72 = some f_recheck_typed := by kernel_rfl
theorem qCS : zM maps Tryz.prog { loc := [2, 3], org := [(2, 2), (3, 3)], mv := [(1, 5, 0)], bl := [], ll := [] } true Tryz.f75 = some f_recheck_same := by kernel_rfl
theorem qCo : zM maps Tryz.prog { loc := [3, 4, 6], org := [(3, 3), (7, 3), (17, 3), (23, 3), (28, 3), (38, 3), (49, 3), (54, 3), (65, 3), (98, 3), (101, 3), (106, 3), (109, 3), (116, 3), (128, 3), (131, 3), (4, 4), (69, 4), (73, 4), (74, 4), (79, 4), (6, 6)], mv := [(2, 0, 0), (2, 2, 0), (30, 0, 0), (30, 2, 0), (28, 0, 0), (28, 2, 0), (26, 0, 0), (26, 2, 0), (22, 0, 0), (22, 2, 0), (19, 0, 0), (19, 2, 0), (17, 0, 0), (17, 2, 0), (7, 5, 0)], bl := [(2, [0, 4, 80, 81, 82]), (1, [0, 4]), (0, [])], ll := [(1, [0, 4, 80, 81, 82])] } false Tryz.f77 = some f_recheck_checker_stmt := by kernel_rfl
theorem qCP : zM maps Tryz.prog { loc := [3], org := [(3, 3), (16, 3)], mv := [(5, 4, 1)], bl := [], ll := [] } false Tryz.f82 = some f_scan_All_1 := by kernel_rfl
theorem qBG : zM maps Tryz.prog { loc := [2, 4], org := [(2, 2), (4, 4), (61, 4), (62, 4)], mv := [(4, 2, 1), (12, 2, 1), (11, 2, 0), (10, 2, 1), (9, 10, 0), (8, 2, 1), (7, 10, 0)], bl := [(0, [0, 2, 3, 4])], ll := [] } true Tryz.f83 = some f_scan_scanner_next := by kernel_rfl
theorem qBl : zM maps Tryz.prog { loc := [], org := [], mv := [(1, 1, 0), (1, 2, 1), (1, 0, 0), (1, 2, 0)], bl := [], ll := [] } true Tryz.f84 = some f_slices_Contains___string_string_ := by kernel_rfl
theorem qCM : zM maps Tryz.prog { loc := [], org := [], mv := [(14, 2, 0), (13, 2, 0), (13, 0, 0), (13, 1, 0), (9, 4, 0)], bl := [(1, [0, 3, 4, 5, 6]), (0, [0, 3, 5]), (3, [0, 9, 10, 12]), (2, [0, 9, 10, 12]), (7, [0, 9, 10, 12]), (6, [0, 9, 10, 12]), (5, [0, 9, 10, 11, 12]), (4, [0, 9, 10, 11])], ll := [(0, [0, 3, 4, 5, 6]), (2, [0, 9, 10, 12]), (4, [0, 9, 10, 11, 12]), (6, [0, 9, 10, 12])] } true Tryz.f85 = some qgp := by kernel_rfl
theorem qBE : zM maps Tryz.prog { loc := [], org := [], mv := [(1, 1, 0)], bl := [], ll := [] } true Tryz.f86 = some qbO := by kernel_rfl
theorem qCg : zM maps Tryz.prog { loc := [], org := [], mv := [], bl := [], ll := [] } true Tryz.f87 = some yE := by kernel_rfl
theorem qCE : zM maps Tryz.prog { loc := [], org := [], mv := [], bl := [(1, [0, 3]), (0, [])], ll := [(0, [0, 3])] } true Tryz.f88 = some yA := by kernel_rfl
theorem qCL : zM maps Tryz.prog { loc := [], org := [], mv := [], bl := [(3, [0, 3, 4, 5]), (2, [0, 3, 4]), (1, [0, 3, 4]), (0, [3])], ll := [(0, [0, 3, 4]), (2, [0, 3, 4, 5])] } true Tryz.f89 = some qap := by kernel_rfl
theorem qCB : zM maps Tryz.prog { loc := [], org := [], mv := [], bl := [(3, [0, 3, 4]), (2, [0, 3]), (1, [0, 3]), (0, [])], ll := [(0, [0, 3]), (2, [0, 3, 4])] } true Tryz.f90 = some yu := by kernel_rfl
theorem qBj : zM maps Tryz.prog { loc := [], org := [], mv := [], bl := [(1, [0, 3]), (0, [])], ll := [(0, [0, 3])] } true Tryz.f91 = some yf := by kernel_rfl
theorem qCw : zM maps Tryz.prog { loc := [], org := [], mv := [], bl := [(1, [0, 3, 4]), (0, [])], ll := [(0, [0, 3, 4])] } true Tryz.f93 = some f_waferref17_once := by kernel_rfl
theorem qBK : zM maps Tryz.prog { loc := [1], org := [(1, 1), (9, 1), (13, 1), (20, 1), (29, 1), (36, 1), (45, 1), (52, 1), (61, 1), (68, 1), (77, 1), (84, 1)], mv := [(21, 9, 0), (21, 0, 0), (21, 8, 0), (17, 9, 0), (17, 0, 0), (17, 8, 0), (13, 9, 0), (13, 0, 0), (13, 8, 0), (9, 9, 0), (9, 0, 0), (9, 8, 0), (5, 9, 0), (5, 0, 0), (5, 8, 0), (1, 3, 0)], bl := [(1, [1, 3, 4]), (0, [1, 3]), (3, [1, 3, 5]), (2, [1, 3]), (5, [1, 3, 6]), (4, [1, 3]), (7, [1, 3, 7]), (6, [1, 3]), (9, [1, 3, 8]), (8, [3])], ll := [(0, [1, 3, 4]), (2, [1, 3, 5]), (4, [1, 3, 6]), (6, [1, 3, 7]), (8, [1, 3, 8])] } true Tryz.f94 = some f_waferref17_all := by kernel_rfl
theorem qCu : zM maps Tryz.prog { loc := [2], org := [(2, 2), (7, 2), (13, 2)], mv := [], bl := [(1, [1, 2, 5]), (0, [])], ll := [(0, [1, 2, 5])] } true Tryz.f95 = some f_waferref17_imported := by kernel_rfl
theorem qC0 : zM maps Tryz.prog { loc := [1], org := [(1, 1), (4, 1), (8, 1), (14, 1), (16, 1), (17, 1), (23, 1), (24, 1), (29, 1), (34, 1), (38, 1), (43, 1), (49, 1), (53, 1), (57, 1), (64, 1), (68, 1), (74, 1), (78, 1), (84, 1), (90, 1), (96, 1)], mv := [], bl := [(2, [1, 3]), (1, []), (0, [])], ll := [(1, [1, 3])] } true Tryz.f97 = some f_waferref17_RightLit := by kernel_rfl
theorem qBA : zM maps Tryz.prog { loc := [2], org := [(2, 2), (5, 2)], mv := [], bl := [], ll := [] } true Tryz.f98 = some f_waferref17_is := by kernel_rfl
theorem qy3 : zM maps Tryz.prog { loc := [2, 3], org := [(2, 2), (6, 2), (12, 2), (19, 2), (26, 2), (35, 2), (41, 2), (3, 3), (8, 3), (14, 3), (21, 3), (29, 3), (46, 3)], mv := [], bl := [(1, [2, 3, 5]), (0, [])], ll := [(0, [2, 3, 5])] } true Tryz.f105 = some f_waferref11_Alike := by kernel_rfl
theorem qAH : zM maps Tryz.prog { loc := [], org := [], mv := [(1, 1, 0), (1, 2, 1), (1, 0, 0), (1, 2, 0)], bl := [], ll := [] } true Tryz.f125 = some zg := by kernel_rfl
theorem qzd : zM maps Tryz.prog { loc := [1], org := [(1, 1), (3, 1), (8, 1)], mv := [], bl := [], ll := [] } true Tryz.f126 = some qfC := by kernel_rfl
theorem qyF : zM maps Tryz.prog { loc := [2], org := [(2, 2), (8, 2), (13, 2), (19, 2)], mv := [], bl := [], ll := [] } true Tryz.f127 = some yG := by kernel_rfl
theorem qAV : zM maps Tryz.prog { loc := [], org := [], mv := [(1, 1, 0), (1, 2, 1), (1, 0, 0), (1, 2, 0)], bl := [], ll := [] } true Tryz.f128 = some zQ := by kernel_rfl
theorem qyU : zM maps Tryz.prog { loc := [1], org := [(1, 1)], mv := [], bl := [], ll := [] } true Tryz.f129 = some qfy := by kernel_rfl
theorem qzS : zM maps Tryz.prog { loc := [], org := [], mv := [(1, 1, 0), (1, 2, 1), (1, 0, 0), (1, 2, 0)], bl := [], ll := [] } true Tryz.f130 = some yV := by kernel_rfl
theorem qzM : zM maps Tryz.prog { loc := [], org := [], mv := [], bl := [(1, [0, 1, 7, 8]), (0, [])], ll := [(0, [0, 1, 7, 8])] } true Tryz.f132 = some zH := by kernel_rfl
theorem qAr : zM maps Tryz.prog { loc := [], org := [], mv := [], bl := [(1, [0, 1, 7, 8]), (0, [])], ll := [(0, [0, 1, 7, 8])] } true Tryz.f133 = some kV := by kernel_rfl
theorem qAT : zM maps Tryz.prog { loc := [1, 5], org := [(1, 1), (6, 1), (5, 5)], mv := [], bl := [(1, [3, 7, 8, 9]), (0, [3])], ll := [(0, [3, 7, 8, 9])] } true Tryz.f134 = some qcL := by kernel_rfl
theorem qzy : zM maps Tryz.prog { loc := [1], org := [(1, 1), (3, 1), (8, 1), (13, 1), (19, 1)], mv := [], bl := [], ll := [] } true Tryz.f135 = some qaN := by kernel_rfl
theorem qAo : zM maps Tryz.prog { loc := [], org := [], mv := [], bl := [(1, [0, 1, 7, 8]), (0, [])], ll := [(0, [0, 1, 7, 8])] } true Tryz.f136 = some zo := by kernel_rfl
theorem qyB : zM maps Tryz.prog { loc := [], org := [], mv := [], bl := [(1, [0, 1, 7, 8]), (0, [])], ll := [(0, [0, 1, 7, 8])] } true Tryz.f137 = some jd := by kernel_rfl
theorem qzJ : zM maps Tryz.prog { loc := [1], org := [(1, 1), (4, 1), (7, 1), (11, 1), (16, 1), (22, 1), (25, 1), (29, 1), (34, 1), (39, 1), (45, 1), (52, 1), (56, 1), (60, 1), (64, 1), (69, 1)], mv := [(1, 3, 0)], bl := [(0, [])], ll := [] } true Tryz.f147 = some f_types_Right := by kernel_rfl
theorem qzm : zM maps Tryz.prog { loc := [3], org := [(3, 3), (5, 3), (9, 3), (21, 3)], mv := [], bl := [(0, [])], ll := [] } true Tryz.f148 = some f_front_Env_Named := by kernel_rfl
theorem qzg : zM maps Tryz.prog { loc := [2], org := [(2, 2)], mv := [(2, 3, 0), (2, 0, 0), (2, 2, 0)], bl := [], ll := [] } false Tryz.f149 = some f_types_Words := by kernel_rfl
theorem qAt : zM maps Tryz.prog { loc := [2], org := [(2, 2)], mv := [], bl := [], ll := [] } true Tryz.f150 = some f_types_Basic := by kernel_rfl
theorem qAb : zM maps Tryz.prog { loc := [3], org := [(3, 3), (9, 3), (16, 3)], mv := [], bl := [], ll := [] } true Tryz.f151 = some f_recheck_bare := by kernel_rfl
theorem qAD : zM maps Tryz.prog { loc := [3], org := [(3, 3), (6, 3), (7, 3), (9, 3), (15, 3), (41, 3), (45, 3), (52, 3), (56, 3), (63, 3), (69, 3), (75, 3)], mv := [(2, 5, 0)], bl := [(2, [3, 65, 66]), (1, []), (0, [])], ll := [(1, [3, 65, 66])] } false Tryz.f153 = some f_recheck_checker_lit := by kernel_rfl
theorem qzH : zM maps Tryz.prog { loc := [3, 4], org := [(3, 3), (11, 3), (16, 3), (27, 3), (34, 3), (39, 3), (4, 4)], mv := [(5, 4, 0), (4, 0, 0), (4, 1, 0)], bl := [], ll := [] } false Tryz.f154 = some f_recheck_checker_name := by kernel_rfl
theorem qyI : zM maps Tryz.prog { loc := [2, 3], org := [(2, 2), (5, 2), (11, 2), (18, 2), (25, 2), (32, 2), (3, 3), (7, 3), (13, 3), (20, 3), (27, 3), (34, 3)], mv := [], bl := [], ll := [] } true Tryz.f160 = some f_tree_SameExpr := by kernel_rfl
theorem qz2 : zM maps Tryz.prog { loc := [], org := [], mv := [], bl := [], ll := [] } true Tryz.f162 = some f_types_plain := by kernel_rfl
theorem qy5 : zM maps Tryz.prog { loc := [3, 5], org := [(3, 3), (6, 3), (10, 3), (15, 3), (21, 3), (28, 3), (39, 3), (49, 3), (5, 5)], mv := [], bl := [(0, [0, 3]), (2, [0, 3, 50, 51, 52]), (1, [0, 3])], ll := [(1, [0, 3, 50, 51, 52])] } false Tryz.f171 = some f_recheck_checker_standard := by kernel_rfl
theorem qAc : zM maps Tryz.prog { loc := [2], org := [(2, 2)], mv := [], bl := [], ll := [] } true Tryz.f172 = some f_waferref11_Basic := by kernel_rfl
theorem qyE : zM maps Tryz.prog { loc := [], org := [], mv := [(13, 0, 0), (13, 1, 0), (2, 2, 0)], bl := [(2, [0, 2, 3]), (1, [0, 2, 3]), (0, [2, 3])], ll := [(0, [0, 2, 3])] } false Tryz.f173 = some qbi := by kernel_rfl
theorem qz3 : zM maps Tryz.prog { loc := [], org := [], mv := [], bl := [], ll := [] } true Tryz.f174 = some qeQ := by kernel_rfl
theorem qzK : zM maps Tryz.prog { loc := [2], org := [(2, 2)], mv := [(5, 3, 0), (4, 0, 0), (4, 1, 0), (2, 2, 0), (2, 0, 0), (2, 1, 0)], bl := [(0, [2, 4])], ll := [] } true Tryz.f175 = some qax := by kernel_rfl
theorem qzt : zM maps Tryz.prog { loc := [], org := [], mv := [], bl := [], ll := [] } true Tryz.f176 = some qfk := by kernel_rfl
theorem qAB : zM maps Tryz.prog { loc := [2], org := [(2, 2)], mv := [(12, 0, 0), (12, 1, 0), (10, 2, 0), (10, 3, 2), (10, 1, 0), (10, 3, 1), (10, 0, 0), (10, 3, 0), (7, 2, 0), (4, 2, 0), (2, 2, 0)], bl := [(0, [2, 3, 4, 5, 6, 7])], ll := [] } true Tryz.f177 = some jK := by kernel_rfl
theorem qzq : zM maps Tryz.prog { loc := [], org := [], mv := [(1, 11, 0), (1, 9, 0), (1, 10, 1)], bl := [], ll := [] } true Tryz.f178 = some qcM := by kernel_rfl
theorem qzl : zM maps Tryz.prog { loc := [2], org := [(2, 2)], mv := [(7, 0, 0), (7, 1, 0), (5, 0, 0), (5, 1, 0), (3, 2, 0)], bl := [(0, [0, 2, 4])], ll := [] } true Tryz.f179 = some qaw := by kernel_rfl
theorem qzG : zM maps Tryz.prog { loc := [2], org := [(2, 2)], mv := [], bl := [(1, [0, 2, 5, 6, 7]), (0, [0, 2])], ll := [(0, [0, 2, 5, 6, 7])], cp := [9] } true Tryz.f180 = some yc := by kernel_rfl
theorem qyD : zM maps Tryz.prog { loc := [], org := [], mv := [], bl := [(1, [0, 1, 7, 8]), (0, [])], ll := [(0, [0, 1, 7, 8])] } true Tryz.f181 = some f_slices_Index___string_string_ := by kernel_rfl
theorem qAP : zM maps Tryz.prog { loc := [2], org := [(2, 2), (9, 2), (15, 2), (22, 2), (28, 2)], mv := [], bl := [(1, [1, 2, 5]), (0, [])], ll := [(0, [1, 2, 5])] } true Tryz.f184 = some jf := by kernel_rfl
theorem qAq : zM maps Tryz.prog { loc := [1], org := [(1, 1), (6, 1), (13, 1)], mv := [], bl := [(1, [1, 3, 4]), (0, [3])], ll := [(0, [1, 3, 4])] } true Tryz.f185 = some y2 := by kernel_rfl
theorem qyR : zM maps Tryz.prog { loc := [1], org := [(1, 1), (4, 1), (9, 1), (16, 1), (22, 1), (28, 1)], mv := [], bl := [(1, [1, 3]), (0, [])], ll := [(0, [1, 3])] } true Tryz.f186 = some yz := by kernel_rfl
theorem qAi : zM maps Tryz.prog { loc := [2], org := [(2, 2)], mv := [(1, 2, 1), (1, 0, 0), (1, 1, 0)], bl := [], ll := [] } true Tryz.f187 = some f_waferref17_basic := by kernel_rfl
theorem qyH : zM maps Tryz.prog { loc := [], org := [], mv := [], bl := [(1, [0, 1, 7, 8]), (0, [])], ll := [(0, [0, 1, 7, 8])] } true Tryz.f230 = some zp := by kernel_rfl
theorem qzX : zM maps Tryz.prog { loc := [], org := [], mv := [(1, 1, 0), (1, 2, 1), (1, 0, 0), (1, 2, 0)], bl := [], ll := [] } true Tryz.f231 = some f_slices_ContainsFunc___api_Type_api_Type_ := by kernel_rfl
theorem qzp : zM maps Tryz.prog { loc := [2], org := [(2, 2)], mv := [], bl := [], ll := [] } true Tryz.f232 = some qbE := by kernel_rfl
theorem qAK : zM maps Tryz.prog { loc := [], org := [], mv := [], bl := [(1, [0, 1, 7, 8]), (0, [])], ll := [(0, [0, 1, 7, 8])] } true Tryz.f233 = some jb := by kernel_rfl
theorem qyC : zM maps Tryz.prog { loc := [], org := [], mv := [], bl := [(1, [0, 1, 7, 8]), (0, [])], ll := [(0, [0, 1, 7, 8])] } true Tryz.f234 = some qaa := by kernel_rfl
theorem qy1 : zM maps Tryz.prog { loc := [3], org := [(3, 3), (11, 3), (15, 3), (24, 3), (30, 3), (34, 3), (38, 3)], mv := [(9, 4, 0), (9, 0, 0), (9, 3, 0), (4, 6, 0), (4, 0, 0), (4, 5, 0)], bl := [(0, [])], ll := [] } true Tryz.f242 = some f_types_sizes_words := by kernel_rfl
theorem qz6 : zM maps Tryz.prog { loc := [], org := [], mv := [(1, 1, 0), (1, 2, 1), (1, 0, 0), (1, 2, 0)], bl := [], ll := [] } true Tryz.f244 = some f_strings_Contains := by kernel_rfl
theorem qzW : zM maps Tryz.prog { loc := [2, 3], org := [(2, 2), (5, 2), (11, 2), (18, 2), (25, 2), (3, 3), (7, 3), (13, 3), (20, 3), (27, 3)], mv := [], bl := [], ll := [] } true Tryz.f252 = some f_tree_sameType := by kernel_rfl
theorem qz1 : zM maps Tryz.prog { loc := [8, 9], org := [(8, 8), (9, 9)], mv := [], bl := [(1, [1, 2, 15, 16, 17]), (0, [])], ll := [(0, [1, 2, 15, 16, 17])] } true Tryz.f253 = some f_slices_EqualFunc___api_Expr___api_Expr_api_Expr_api_Expr_ := by kernel_rfl
theorem qzi : zM maps Tryz.prog { loc := [8, 9], org := [(8, 8), (9, 9)], mv := [], bl := [(1, [1, 2, 15, 16, 17]), (0, [])], ll := [(0, [1, 2, 15, 16, 17])] } true Tryz.f254 = some f_slices_EqualFunc___api_Type___api_Type_api_Type_api_Type_ := by kernel_rfl
theorem qzD : zM maps Tryz.prog { loc := [], org := [], mv := [(1, 3, 0), (1, 1, 0), (1, 2, 1), (1, 0, 0), (1, 2, 0)], bl := [], ll := [] } true Tryz.f255 = some qcr := by kernel_rfl
theorem qzY : zM maps Tryz.prog { loc := [3], org := [(3, 3), (9, 3), (12, 3), (17, 3), (24, 3), (33, 3), (41, 3), (46, 3), (55, 3), (62, 3), (78, 3)], mv := [(4, 14, 0)], bl := [(1, [3, 71, 72, 73]), (0, [])], ll := [(0, [3, 71, 72, 73])] } true Tryz.f256 = some f_front_Env_Right := by kernel_rfl
theorem qzB : zM maps Tryz.prog { loc := [], org := [], mv := [], bl := [], ll := [] } false Tryz.f258 = some qf9 := by kernel_rfl
theorem qAE : zM maps Tryz.prog { loc := [], org := [], mv := [], bl := [(1, [0, 1, 5]), (0, [0, 5])], ll := [(0, [0, 1, 5])] } true Tryz.f259 = some qcg := by kernel_rfl
theorem qAU : zM maps Tryz.prog { loc := [], org := [], mv := [(1, 2, 0)], bl := [], ll := [] } true Tryz.f260 = some qfa := by kernel_rfl
theorem qAs : zM maps Tryz.prog { loc := [], org := [], mv := [(1, 1, 0)], bl := [], ll := [] } true Tryz.f261 = some qhc := by kernel_rfl
theorem qyJ : zM maps Tryz.prog { loc := [], org := [], mv := [(1, 2, 0)], bl := [], ll := [] } true Tryz.f262 = some qgG := by kernel_rfl
theorem qzw : zM maps Tryz.prog { loc := [], org := [], mv := [(3, 7, 0), (3, 4, 0), (3, 5, 4), (3, 3, 0), (3, 5, 3), (3, 2, 0), (3, 5, 2), (3, 1, 0), (3, 5, 1)], bl := [], ll := [] } false Tryz.f263 = some qbh := by kernel_rfl
theorem qyS : zM maps Tryz.prog { loc := [], org := [], mv := [], bl := [], ll := [] } true Tryz.f264 = some qbI := by kernel_rfl
theorem qzL : zM maps Tryz.prog { loc := [], org := [], mv := [], bl := [(1, [0, 1, 7, 8]), (0, [])], ll := [(0, [0, 1, 7, 8])] } true Tryz.f292 = some f_slices_IndexFunc___api_Type_api_Type_ := by kernel_rfl
theorem qyN : zM maps Tryz.prog { loc := [], org := [], mv := [(1, 3, 0), (1, 1, 0), (1, 2, 1), (1, 0, 0), (1, 2, 0)], bl := [], ll := [] } true Tryz.f294 = some f_strings_Index := by kernel_rfl
theorem qzz : zM maps Tryz.prog { loc := [], org := [], mv := [], bl := [], ll := [] } true Tryz.f299 = some j0 := by kernel_rfl
theorem qAG : zM maps Tryz.prog { loc := [], org := [], mv := [(17, 1, 0), (15, 1, 0), (13, 1, 0), (11, 1, 0), (9, 1, 0), (7, 1, 0), (4, 1, 0)], bl := [(0, [])], ll := [] } false Tryz.f301 = some f_front_forms := by kernel_rfl
theorem qyX : zM maps Tryz.prog { loc := [], org := [], mv := [(45, 0, 0), (45, 1, 0)], bl := [(1, [0, 1, 2, 8, 9]), (0, [0, 1, 2, 8, 9]), (2, [0, 1, 2, 8, 9, 10]), (5, [1, 8, 9, 10, 11, 12, 13, 16, 99, 100, 101]), (4, [1, 8, 9, 10, 11, 12, 13, 99, 100, 101]), (3, [9, 12, 13])], ll := [(3, [1, 8, 9, 10, 11, 12, 13, 99, 100, 101])] } false Tryz.f303 = some jX := by kernel_rfl
theorem qAO : zM maps Tryz.prog { loc := [], org := [], mv := [(31, 5, 0), (31, 3, 0), (31, 4, 1), (26, 3, 0), (26, 4, 1), (17, 7, 0), (9, 1, 0), (9, 2, 1), (9, 0, 0), (9, 2, 0), (5, 4, 0), (5, 0, 0), (5, 3, 0)], bl := [(0, [0, 1, 5]), (2, [0, 1, 5, 6, 7, 8, 9, 10]), (1, [])], ll := [(1, [0, 1, 5, 6, 7, 8, 9, 10])] } true Tryz.f322 = some f_internal_stringslite_Index := by kernel_rfl
theorem qy9 : zM maps Tryz.prog { loc := [], org := [], mv := [], bl := [], ll := [] } true Tryz.f324 = some qaZ := by kernel_rfl
theorem qDr : qCy Tryz.prog maps pg0 := by
  intro f' i hl fn' hf
  have e : f' = i := qh0 hl
  subst e
  show FOk Tryz.prog maps f' fn'
  revert hf
  unfold pg0 prog
  simp only []
  refine kH ⟨_, _, _, Tryz.func5, by decide +kernel, qDs⟩ ?_
  refine kH ⟨_, _, _, Tryz.func8, by decide +kernel, qDl⟩ ?_
  refine kH ⟨_, _, _, Tryz.func11, by decide +kernel, qBi⟩ ?_
  refine kH ⟨_, _, _, Tryz.func13, by decide +kernel, qCk⟩ ?_
  refine kH ⟨_, _, _, Tryz.func14, by decide +kernel, qCK⟩ ?_
  refine kH ⟨_, _, _, Tryz.func15, by decide +kernel, qB5⟩ ?_
  refine kH ⟨_, _, _, Tryz.func16, by decide +kernel, qA6⟩ ?_
  refine kH ⟨_, _, _, Tryz.func20, by decide +kernel, qBH⟩ ?_
  refine kH ⟨_, _, _, Tryz.func21, by decide +kernel, qB8⟩ ?_
  refine kH ⟨_, _, _, Tryz.func22, by decide +kernel, qBI⟩ ?_
  refine kH ⟨_, _, _, Tryz.func23, by decide +kernel, qCc⟩ ?_
  refine kH ⟨_, _, _, Tryz.func24, by decide +kernel, qB1⟩ ?_
  refine kH ⟨_, _, _, Tryz.func25, by decide +kernel, qCl⟩ ?_
  refine kH ⟨_, _, _, Tryz.func26, by decide +kernel, qBL⟩ ?_
  refine kH ⟨_, _, _, Tryz.func28, by decide +kernel, qCD⟩ ?_
  refine kH ⟨_, _, _, Tryz.func33, by decide +kernel, qBq⟩ ?_
  refine kH ⟨_, _, _, Tryz.func34, by decide +kernel, qCZ⟩ ?_
  refine kH ⟨_, _, _, Tryz.func35, by decide +kernel, qBN⟩ ?_
  refine kH ⟨_, _, _, Tryz.func36, by decide +kernel, qCn⟩ ?_
  refine kH ⟨_, _, _, Tryz.func37, by decide +kernel, qBc⟩ ?_
  refine kH ⟨_, _, _, Tryz.func38, by decide +kernel, qCA⟩ ?_
  refine kH ⟨_, _, _, Tryz.func39, by decide +kernel, qBW⟩ ?_
  refine kH ⟨_, _, _, Tryz.func40, by decide +kernel, qC3⟩ ?_
  refine kH ⟨_, _, _, Tryz.func41, by decide +kernel, qBb⟩ ?_
  refine kH ⟨_, _, _, Tryz.func43, by decide +kernel, qBg⟩ ?_
  refine kH ⟨_, _, _, Tryz.func49, by decide +kernel, qBS⟩ ?_
  refine kH ⟨_, _, _, Tryz.func50, by decide +kernel, qCO⟩ ?_
  refine kH ⟨_, _, _, Tryz.func51, by decide +kernel, qBt⟩ ?_
  refine kH ⟨_, _, _, Tryz.func52, by decide +kernel, qBF⟩ ?_
  refine kH ⟨_, _, _, Tryz.func53, by decide +kernel, qBu⟩ ?_
  refine kH ⟨_, _, _, Tryz.func54, by decide +kernel, qBB⟩ ?_
  refine kH ⟨_, _, _, Tryz.func56, by decide +kernel, qBD⟩ ?_
  refine kH ⟨_, _, _, Tryz.func57, by decide +kernel, qBX⟩ ?_
  refine kH ⟨_, _, _, Tryz.func58, by decide +kernel, qCG⟩ ?_
  refine kH ⟨_, _, _, Tryz.func59, by decide +kernel, qCQ⟩ ?_
  refine kH ⟨_, _, _, Tryz.func61, by decide +kernel, qCp⟩ ?_
  refine kH ⟨_, _, _, Tryz.func65, by decide +kernel, qCd⟩ ?_
  refine kH ⟨_, _, _, Tryz.func66, by decide +kernel, qBP⟩ ?_
  refine kH ⟨_, _, _, Tryz.func68, by decide +kernel, qB4⟩ ?_
  refine kH ⟨_, _, _, Tryz.func70, by decide +kernel, qBZ⟩ ?_
  refine kH ⟨_, _, _, Tryz.func71, by decide +kernel, qA3⟩ ?_
  refine kH ⟨_, _, _, Tryz.func72, by decide +kernel, qBV⟩ ?_
  refine kH ⟨_, _, _, Tryz.func75, by decide +kernel, qCS⟩ ?_
  refine kH ⟨_, _, _, Tryz.func77, by decide +kernel, qCo⟩ ?_
  refine kH ⟨_, _, _, Tryz.func82, by decide +kernel, qCP⟩ ?_
  refine kH ⟨_, _, _, Tryz.func83, by decide +kernel, qBG⟩ ?_
  refine kH ⟨_, _, _, Tryz.func84, by decide +kernel, qBl⟩ ?_
  refine kH ⟨_, _, _, Tryz.func85, by decide +kernel, qCM⟩ ?_
  refine kH ⟨_, _, _, Tryz.func86, by decide +kernel, qBE⟩ ?_
  refine kH ⟨_, _, _, Tryz.func87, by decide +kernel, qCg⟩ ?_
  refine kH ⟨_, _, _, Tryz.func88, by decide +kernel, qCE⟩ ?_
  refine kH ⟨_, _, _, Tryz.func89, by decide +kernel, qCL⟩ ?_
  refine kH ⟨_, _, _, Tryz.func90, by decide +kernel, qCB⟩ ?_
  refine kH ⟨_, _, _, Tryz.func91, by decide +kernel, qBj⟩ ?_
  refine kH ⟨_, _, _, Tryz.func93, by decide +kernel, qCw⟩ ?_
  refine kH ⟨_, _, _, Tryz.func94, by decide +kernel, qBK⟩ ?_
  refine kH ⟨_, _, _, Tryz.func95, by decide +kernel, qCu⟩ ?_
  refine kH ⟨_, _, _, Tryz.func97, by decide +kernel, qC0⟩ ?_
  refine kH ⟨_, _, _, Tryz.func98, by decide +kernel, qBA⟩ ?_
  refine kH ⟨_, _, _, Tryz.func105, by decide +kernel, qy3⟩ ?_
  refine kH ⟨_, _, _, Tryz.func125, by decide +kernel, qAH⟩ ?_
  refine kH ⟨_, _, _, Tryz.func126, by decide +kernel, qzd⟩ ?_
  refine kH ⟨_, _, _, Tryz.func127, by decide +kernel, qyF⟩ ?_
  refine kH ⟨_, _, _, Tryz.func128, by decide +kernel, qAV⟩ ?_
  refine kH ⟨_, _, _, Tryz.func129, by decide +kernel, qyU⟩ ?_
  refine kH ⟨_, _, _, Tryz.func130, by decide +kernel, qzS⟩ ?_
  refine kH ⟨_, _, _, Tryz.func132, by decide +kernel, qzM⟩ ?_
  refine kH ⟨_, _, _, Tryz.func133, by decide +kernel, qAr⟩ ?_
  refine kH ⟨_, _, _, Tryz.func134, by decide +kernel, qAT⟩ ?_
  refine kH ⟨_, _, _, Tryz.func135, by decide +kernel, qzy⟩ ?_
  refine kH ⟨_, _, _, Tryz.func136, by decide +kernel, qAo⟩ ?_
  refine kH ⟨_, _, _, Tryz.func137, by decide +kernel, qyB⟩ ?_
  refine kH ⟨_, _, _, Tryz.func147, by decide +kernel, qzJ⟩ ?_
  refine kH ⟨_, _, _, Tryz.func148, by decide +kernel, qzm⟩ ?_
  refine kH ⟨_, _, _, Tryz.func149, by decide +kernel, qzg⟩ ?_
  refine kH ⟨_, _, _, Tryz.func150, by decide +kernel, qAt⟩ ?_
  refine kH ⟨_, _, _, Tryz.func151, by decide +kernel, qAb⟩ ?_
  refine kH ⟨_, _, _, Tryz.func153, by decide +kernel, qAD⟩ ?_
  refine kH ⟨_, _, _, Tryz.func154, by decide +kernel, qzH⟩ ?_
  refine kH ⟨_, _, _, Tryz.func160, by decide +kernel, qyI⟩ ?_
  refine kH ⟨_, _, _, Tryz.func162, by decide +kernel, qz2⟩ ?_
  refine kH ⟨_, _, _, Tryz.func171, by decide +kernel, qy5⟩ ?_
  refine kH ⟨_, _, _, Tryz.func172, by decide +kernel, qAc⟩ ?_
  refine kH ⟨_, _, _, Tryz.func173, by decide +kernel, qyE⟩ ?_
  refine kH ⟨_, _, _, Tryz.func174, by decide +kernel, qz3⟩ ?_
  refine kH ⟨_, _, _, Tryz.func175, by decide +kernel, qzK⟩ ?_
  refine kH ⟨_, _, _, Tryz.func176, by decide +kernel, qzt⟩ ?_
  refine kH ⟨_, _, _, Tryz.func177, by decide +kernel, qAB⟩ ?_
  refine kH ⟨_, _, _, Tryz.func178, by decide +kernel, qzq⟩ ?_
  refine kH ⟨_, _, _, Tryz.func179, by decide +kernel, qzl⟩ ?_
  refine kH ⟨_, _, _, Tryz.func180, by decide +kernel, qzG⟩ ?_
  refine kH ⟨_, _, _, Tryz.func181, by decide +kernel, qyD⟩ ?_
  refine kH ⟨_, _, _, Tryz.func184, by decide +kernel, qAP⟩ ?_
  refine kH ⟨_, _, _, Tryz.func185, by decide +kernel, qAq⟩ ?_
  refine kH ⟨_, _, _, Tryz.func186, by decide +kernel, qyR⟩ ?_
  refine kH ⟨_, _, _, Tryz.func187, by decide +kernel, qAi⟩ ?_
  refine kH ⟨_, _, _, Tryz.func230, by decide +kernel, qyH⟩ ?_
  refine kH ⟨_, _, _, Tryz.func231, by decide +kernel, qzX⟩ ?_
  refine kH ⟨_, _, _, Tryz.func232, by decide +kernel, qzp⟩ ?_
  refine kH ⟨_, _, _, Tryz.func233, by decide +kernel, qAK⟩ ?_
  refine kH ⟨_, _, _, Tryz.func234, by decide +kernel, qyC⟩ ?_
  refine kH ⟨_, _, _, Tryz.func242, by decide +kernel, qy1⟩ ?_
  refine kH ⟨_, _, _, Tryz.func244, by decide +kernel, qz6⟩ ?_
  refine kH ⟨_, _, _, Tryz.func252, by decide +kernel, qzW⟩ ?_
  refine kH ⟨_, _, _, Tryz.func253, by decide +kernel, qz1⟩ ?_
  refine kH ⟨_, _, _, Tryz.func254, by decide +kernel, qzi⟩ ?_
  refine kH ⟨_, _, _, Tryz.func255, by decide +kernel, qzD⟩ ?_
  refine kH ⟨_, _, _, Tryz.func256, by decide +kernel, qzY⟩ ?_
  refine kH ⟨_, _, _, Tryz.func258, by decide +kernel, qzB⟩ ?_
  refine kH ⟨_, _, _, Tryz.func259, by decide +kernel, qAE⟩ ?_
  refine kH ⟨_, _, _, Tryz.func260, by decide +kernel, qAU⟩ ?_
  refine kH ⟨_, _, _, Tryz.func261, by decide +kernel, qAs⟩ ?_
  refine kH ⟨_, _, _, Tryz.func262, by decide +kernel, qyJ⟩ ?_
  refine kH ⟨_, _, _, Tryz.func263, by decide +kernel, qzw⟩ ?_
  refine kH ⟨_, _, _, Tryz.func264, by decide +kernel, qyS⟩ ?_
  refine kH ⟨_, _, _, Tryz.func292, by decide +kernel, qzL⟩ ?_
  refine kH ⟨_, _, _, Tryz.func294, by decide +kernel, qyN⟩ ?_
  refine kH ⟨_, _, _, Tryz.func299, by decide +kernel, qzz⟩ ?_
  refine kH ⟨_, _, _, Tryz.func301, by decide +kernel, qAG⟩ ?_
  refine kH ⟨_, _, _, Tryz.func303, by decide +kernel, qyX⟩ ?_
  refine kH ⟨_, _, _, Tryz.func322, by decide +kernel, qAO⟩ ?_
  refine kH ⟨_, _, _, Tryz.func324, by decide +kernel, qy9⟩ ?_
  exact qC2
theorem qAe : qpY Tryz.prog maps := by
  intro f' k l hl hk
  have e : f' = k := qh0 hl
  subst e
  simp only [maps, W.look, qDH] at hk
  by_cases h141 : f' = 141
  · subst h141
    simp at hk
    subst hk
    exact ⟨32, 58, 196, 3, 4, 0, Tryz.f141, Tryz.func141, by decide +kernel, by kernel_rfl, by kernel_rfl, by kernel_rfl, Tryz.underlying32, by kernel_rfl, by kernel_rfl, Tryz.underlying3, Tryz.underlying4⟩
  rw [if_neg (by simpa using h141)] at hk
  by_cases h239 : f' = 239
  · subst h239
    simp at hk
    subst hk
    exact ⟨31, 56, 257, 3, 4, 0, Tryz.f239, Tryz.func239, by decide +kernel, by kernel_rfl, by kernel_rfl, by kernel_rfl, Tryz.underlying31, by kernel_rfl, by kernel_rfl, Tryz.underlying3, Tryz.underlying4⟩
  rw [if_neg (by simpa using h239)] at hk
  by_cases h240 : f' = 240
  · subst h240
    simp at hk
    subst hk
    exact ⟨33, 63, 258, 3, 4, 0, Tryz.f240, Tryz.func240, by decide +kernel, by kernel_rfl, by kernel_rfl, by kernel_rfl, Tryz.underlying33, by kernel_rfl, by kernel_rfl, Tryz.underlying3, Tryz.underlying4⟩
  rw [if_neg (by simpa using h240)] at hk
  cases hk
theorem tab : Tab Tryz.prog maps pg0 := ⟨qDr, qAe⟩
theorem qDk : Tab Tryz.prog maps W.pgA := ⟨fun f' i hl fn' hf => tab.1 f' i hl fn' (by
  unfold W.pgA at hf
  simp only [qDH] at hf
  split at hf
  · cases hf
  · split at hf
    · cases hf
    · exact hf), tab.2⟩
theorem qyY : Tab Tryz.prog maps W.pg := ⟨fun f' i hl fn' hf => tab.1 f' i hl fn' (by
  unfold W.pg at hf
  simp only [qDH] at hf
  split at hf
  · cases hf
  · split at hf
    · cases hf
    · split at hf
      · cases hf
      · exact hf), tab.2⟩
theorem ixC : IxC Tryz.prog 257 := fun s c w => Tryz.strings_IndexByte s c w
theorem teS : TeC Tryz.prog 304 3 2 := fun fn s base bits ev w h1 h2 h3 => (Tryz.toError_syntax fn s base bits ev w h1 h2 h3).mono (by rintro e w' ⟨N, q1, _, _, q2⟩; exact ⟨N, q1, q2⟩)
theorem teR : TeC Tryz.prog 304 4 1 := fun fn s base bits ev w h1 h2 h3 => (Tryz.toError_range fn s base bits ev w h1 h2 h3).mono (by rintro e w' ⟨N, q1, _, _, q2⟩; exact ⟨N, q1, q2⟩)
theorem quP {g : Gh} {w : World} {vs : List V} {H : List W.Obj} {r : Cr} (h : ixX vs H = some r) {argv : List Value} (ha : ArgsRep maps g w 0 vs argv) (hH : RelH maps g w H) : ql1 Tryz.prog 257 argv.toArray w (jQ maps g w r) := by
  have hs : Tryz.f257.body.isSome = true := by kernel_rfl
  obtain ⟨c, hc⟩ := Option.isSome_iff_exists.1 hs
  exact qrL ixC Tryz.func257 (by decide +kernel) hc h ha hH
theorem quC {g : Gh} {w : World} {vs : List V} {H : List W.Obj} {r : Cr} (h : teX vs H = some r) {argv : List Value} (ha : ArgsRep maps g w 0 vs argv) (hH : RelH maps g w H) : ql1 Tryz.prog 304 argv.toArray w (jQ maps g w r) := by
  have hs : Tryz.f304.body.isSome = true := by kernel_rfl
  obtain ⟨c, hc⟩ := Option.isSome_iff_exists.1 hs
  exact qxf teS teR (by simp [maps]) (by simp [maps]) (by decide +kernel) (fun t' ht => qh0 ht) Tryz.func304 (by decide +kernel) hc h ha hH
theorem quS : qa1 Tryz.prog maps W.pgA.ext := by
  intro i vs H r h f' hl g w argv ha hH
  have e : f' = i := qh0 hl
  subst e
  unfold W.pgA at h
  simp only [qDH] at h
  split at h
  · rename_i hb
    have e2 : f' = 257 := by simpa using hb
    subst e2
    exact quP h ha hH
  · split at h
    · rename_i hb
      have e2 : f' = 304 := by simpa using hb
      subst e2
      exact quC h ha hH
    · cases h
theorem qll : qa1 Tryz.prog maps W.pg.ext := by
  intro i vs H r h f' hl g w argv ha hH
  have e : f' = i := qh0 hl
  subst e
  unfold W.pg at h
  simp only [qDH] at h
  split at h
  · rename_i hb
    have e2 : f' = 257 := by simpa using hb
    subst e2
    exact quP h ha hH
  · split at h
    · rename_i hb
      have e2 : f' = 304 := by simpa using hb
      subst e2
      exact quC h ha hH
    · split at h
      · rename_i hb
        have e2 : f' = 261 := by simpa using hb
        subst e2
        unfold kwX at h
        split at h
        · cases h
          cases ha
          obtain ⟨lo, hk⟩ := qlZ qrk qyZ
          obtain ⟨n, hn⟩ := qdr.1 hk
          exact qsm (sound (by kernel_rfl) qDk quS qrk n) hn hl hH
        · cases h
      · cases h
theorem qC5 : Tab Tryz.prog maps W.pgK := ⟨fun f' i hl fn' hf => qyY.1 f' i hl fn' (by
  unfold W.pgK at hf
  simp only [qDH] at hf
  split at hf
  · cases hf
  · exact hf), tab.2⟩
theorem qDf : IxC Tryz.prog 302 := fun s c w => Tryz.stringslite_IndexByte s c w
theorem qz8 {g : Gh} {w : World} {vs : List V} {H : List W.Obj} {r : Cr} (h : ixX vs H = some r) {argv : List Value} (ha : ArgsRep maps g w 0 vs argv) (hH : RelH maps g w H) : ql1 Tryz.prog 302 argv.toArray w (jQ maps g w r) := by
  have hs : Tryz.f302.body.isSome = true := by kernel_rfl
  obtain ⟨c, hc⟩ := Option.isSome_iff_exists.1 hs
  exact qrL qDf Tryz.func302 (by decide +kernel) hc h ha hH
theorem qBU {g : Gh} {w : World} {vs : List V} {H : List W.Obj} {r : Cr} (h : idX vs H = some r) {argv : List Value} (ha : ArgsRep maps g w 0 vs argv) (hH : RelH maps g w H) (hl : W.look maps.fm 14 = some 14) : ql1 Tryz.prog 14 argv.toArray w (jQ maps g w r) := by
  unfold idX at h
  split at h
  · rename_i t
    rw [qDH] at h
    split at h
    · rename_i hb
      cases h
      simp only [qDB] at hb
      obtain ⟨lo, hk⟩ := qno (qj6.1 hb.1) (Nat.le_of_ble_eq_true hb.2)
      obtain ⟨n, hn⟩ := qdr.1 hk
      exact qlj (l := [.s t]) (sound (by kernel_rfl) qyY qll qnq n) hn hl hH ha
    · cases h
  · cases h
theorem qBy {g : Gh} {w : World} {vs : List V} {H : List W.Obj} {r : Cr} (h : idX vs H = some r) {argv : List Value} (ha : ArgsRep maps g w 0 vs argv) (hH : RelH maps g w H) (hl : W.look maps.fm 15 = some 15) : ql1 Tryz.prog 15 argv.toArray w (jQ maps g w r) := by
  unfold idX at h
  split at h
  · rename_i t
    rw [qDH] at h
    split at h
    · rename_i hb
      cases h
      simp only [qDB] at hb
      have hk := qnv (qj6.1 hb.1) (Nat.le_of_ble_eq_true hb.2) (H := [])
      obtain ⟨n, hn⟩ := qdr.1 hk
      exact qlj (l := [.s t]) (sound (by kernel_rfl) qyY qll qnq n) hn hl hH ha
    · cases h
  · cases h
theorem qxm : qa1 Tryz.prog maps W.pgK.ext := by
  intro i vs H r h f' hl g w argv ha hH
  have e : f' = i := qh0 hl
  subst e
  unfold W.pgK at h
  simp only [qDH] at h
  split at h
  · rename_i hb
    simp only [Bool.or_eq_true] at hb
    rcases hb with hb | hb
    · obtain rfl := qDR hb
      exact qBU h ha hH hl
    · obtain rfl := qDR hb
      exact qBy h ha hH hl
  · split at h
    · rename_i hb
      have e2 : f' = 302 := by simpa using hb
      subst e2
      exact qz8 h ha hH
    · exact qll _ _ _ _ h _ hl g w argv ha hH
end Go.Proofs.YtdgbjjpdepdmmaaGreatDoor

set_option linter.unusedSimpArgs false
set_option linter.unusedVariables false
namespace W
open Go (IntKind BinOp UnOp)
set_option maxRecDepth 20000
def isZ (r : Option Cr) (b : Bool) : Bool := match r with
  | some ⟨false, true, .d (.i .i64 e), _, _⟩ => (match eqI e 0, b with | true, true => true | false, false => true | _, _ => false)
  | _ => false
def tI : List D := [.i .i64 1, .i .i64 0, .s [], .nil]
def eL (op : Int) (s : List Nat) : D := .agg [.i .i64 op, .i .i64 1, .i .i64 0, .s [], .nil, .i .i32 0, .s s, .nil]
def qxi (i : Bool) : D := .sl (if i then [.s [79, 117, 116], .s [76]] else [.s [79, 117, 116]])
def m0 (i : Bool) : D := .agg [.s [77], qxi i, .nil, .nil, .nil, .nil, .nil, .sl [.agg [.i .i64 14, .sl [eL 1 [76, 46, 118]], .nil, .nil]]]
def m1 (i : Bool) : D := .agg [.s [77], qxi i, .nil, .nil, .nil, .sl [.agg [.s [114], .b false, .i .i64 8, .i .i64 0, .s [76, 46, 82], .nil]], .nil, .nil]
def m2 (i : Bool) : D := .agg [.s [77], qxi i, .nil, .nil, .nil, .nil, .nil, .sl [.agg [.i .i64 14, .sl [eL 6 [76, 46, 102]], .nil, .nil]]]
def m3 (i : Bool) : D := .agg [.s [77], qxi i, .nil, .nil, .nil, .nil, .nil, .sl [.agg [.i .i64 0, .sl [eL 1 [76, 46, 118], eL 0 []], .nil, .nil]]]
noncomputable def both (m : D) (l : D) (ok : Bool) : Bool := isZ (qf2 pgK 6000 11 [.d m, .d (.sl [l])] []) ok && isZ (qf2 pgK 6000 16 [.d m, .d (.sl [l])] []) ok
end W

set_option linter.unusedSimpArgs false
set_option linter.unusedVariables false
namespace W
open Go (IntKind BinOp UnOp)
set_option maxRecDepth 20000
noncomputable def bdyK (fn : Fn) (vs : List V) (H : List Obj) : Option Cr := qgQ H fn.own fn.res (exL pgK fn.body { env := ya 0 vs, H, lo := H.length })
theorem c_5 {v0 v1 v2 v3 : V} {H : List Obj} : qs pgK 5 [v0, v1, v2, v3] H = bdyK zI [v0, v1, v2, v3] H := qK (fn := zI) rfl rfl
theorem qzb {v0 v1 : V} {H : List Obj} : qs pgK 13 [v0, v1] H = bdyK qaf [v0, v1] H := qK (fn := qaf) rfl rfl
theorem qwh {v0 v1 : V} {H : List Obj} : qs pgK 16 [v0, v1] H = bdyK f_waferref17_Check [v0, v1] H := qK (fn := f_waferref17_Check) rfl rfl
theorem qqq {v0 v1 : V} {H : List Obj} : qs pgK 21 [v0, v1] H = bdyK f_recheck_must [v0, v1] H := qK (fn := f_recheck_must) rfl rfl
theorem qyV {v0 : V} {H : List Obj} : qs pgK 22 [v0] H = bdyK qcS [v0] H := qK (fn := qcS) rfl rfl
theorem qBp {v0 v1 : V} {H : List Obj} : qs pgK 23 [v0, v1] H = bdyK f_front_NewEnv [v0, v1] H := qK (fn := f_front_NewEnv) rfl rfl
theorem qA7 {v0 : V} {H : List Obj} : qs pgK 24 [v0] H = bdyK f_recheck_checker_heads [v0] H := qK (fn := f_recheck_checker_heads) rfl rfl
theorem qB9 {v0 : V} {H : List Obj} : qs pgK 25 [v0] H = bdyK f_recheck_checker_records [v0] H := qK (fn := f_recheck_checker_records) rfl rfl
theorem qA2 {v0 : V} {H : List Obj} : qs pgK 26 [v0] H = bdyK f_recheck_checker_declared [v0] H := qK (fn := f_recheck_checker_declared) rfl rfl
theorem qA5 {v0 v1 : V} {H : List Obj} : qs pgK 28 [v0, v1] H = bdyK f_recheck_checker_body [v0, v1] H := qK (fn := f_recheck_checker_body) rfl rfl
theorem qyP {v0 : V} {H : List Obj} : qs pgK 37 [v0] H = bdyK y1 [v0] H := qK (fn := y1) rfl rfl
theorem qBQ {v0 v1 : V} {H : List Obj} : qs pgK 38 [v0, v1] H = bdyK f_waferref17_Others [v0, v1] H := qK (fn := f_waferref17_Others) rfl rfl
theorem qCr {v0 : V} {H : List Obj} : qs pgK 39 [v0] H = bdyK f_waferref11_Recs [v0] H := qK (fn := f_waferref11_Recs) rfl rfl
theorem qCf {v0 : V} {H : List Obj} : qs pgK 40 [v0] H = bdyK f_waferref17_ctx_names [v0] H := qK (fn := f_waferref17_ctx_names) rfl rfl
theorem qBT {v0 : V} {H : List Obj} : qs pgK 41 [v0] H = bdyK f_waferref17_ctx_types [v0] H := qK (fn := f_waferref17_ctx_types) rfl rfl
theorem qBo {v0 v1 : V} {H : List Obj} : qs pgK 43 [v0, v1] H = bdyK f_waferref17_ctx_body [v0, v1] H := qK (fn := f_waferref17_ctx_body) rfl rfl
theorem qts {v0 : V} {H : List Obj} : qs pgK 49 [v0] H = bdyK qbn [v0] H := qK (fn := qbn) rfl rfl
theorem qpx {v0 : V} {H : List Obj} : qs pgK 50 [v0] H = bdyK qay [v0] H := qK (fn := qay) rfl rfl
theorem qzo {v0 : V} {H : List Obj} : qs pgK 51 [v0] H = bdyK qaU [v0] H := qK (fn := qaU) rfl rfl
theorem qAx {v0 : V} {H : List Obj} : qs pgK 52 [v0] H = bdyK qdk [v0] H := qK (fn := qdk) rfl rfl
theorem qyW {v0 : V} {H : List Obj} : qs pgK 53 [v0] H = bdyK qaQ [v0] H := qK (fn := qaQ) rfl rfl
theorem qAA {v0 v1 : V} {H : List Obj} : qs pgK 54 [v0, v1] H = bdyK zm [v0, v1] H := qK (fn := zm) rfl rfl
theorem qzh {v0 v1 : V} {H : List Obj} : qs pgK 56 [v0, v1] H = bdyK kR [v0, v1] H := qK (fn := kR) rfl rfl
theorem qAn {v0 : V} {H : List Obj} : qs pgK 57 [v0] H = bdyK qbw [v0] H := qK (fn := qbw) rfl rfl
theorem qzs {v0 : V} {H : List Obj} : qs pgK 58 [v0] H = bdyK qbu [v0] H := qK (fn := qbu) rfl rfl
theorem qzv {v0 v1 : V} {H : List Obj} : qs pgK 59 [v0, v1] H = bdyK zf [v0, v1] H := qK (fn := zf) rfl rfl
theorem qC8 {v0 v1 : V} {H : List Obj} : qs pgK 61 [v0, v1] H = bdyK zR [v0, v1] H := qK (fn := zR) rfl rfl
theorem qCa {v0 : V} {H : List Obj} : qs pgK 65 [v0] H = bdyK f_recheck_name [v0] H := qK (fn := f_recheck_name) rfl rfl
theorem qBO {v0 v1 : V} {H : List Obj} : qs pgK 66 [v0, v1] H = bdyK f_recheck_checker_heads_1 [v0, v1] H := qK (fn := f_recheck_checker_heads_1) rfl rfl
theorem qDb {v0 v1 : V} {H : List Obj} : qs pgK 68 [v0, v1] H = bdyK f_recheck_checker_own [v0, v1] H := qK (fn := f_recheck_checker_own) rfl rfl
theorem qDe {v0 v1 : V} {H : List Obj} : qs pgK 70 [v0, v1] H = bdyK f_recheck_checker_typ [v0, v1] H := qK (fn := f_recheck_checker_typ) rfl rfl
theorem qCs {v0 v1 : V} {H : List Obj} : qs pgK 71 [v0, v1] H = bdyK f_recheck_checker_expr [v0, v1] H := qK (fn := f_recheck_checker_expr) rfl rfl
theorem qtC {v0 : V} {H : List Obj} : qs pgK 72 [v0] H = bdyK f_recheck_typed [v0] H := qK (fn := f_recheck_typed) rfl rfl
theorem qBf {v0 v1 : V} {H : List Obj} : qs pgK 75 [v0, v1] H = bdyK f_recheck_same [v0, v1] H := qK (fn := f_recheck_same) rfl rfl
theorem qDg {v0 v1 : V} {H : List Obj} : qs pgK 77 [v0, v1] H = bdyK f_recheck_checker_stmt [v0, v1] H := qK (fn := f_recheck_checker_stmt) rfl rfl
theorem qDp {v0 v1 : V} {H : List Obj} : qs pgK 84 [v0, v1] H = bdyK f_slices_Contains___string_string_ [v0, v1] H := qK (fn := f_slices_Contains___string_string_) rfl rfl
theorem qs6 {v0 : V} {H : List Obj} : qs pgK 87 [v0] H = bdyK yE [v0] H := qK (fn := yE) rfl rfl
theorem qAj {v0 : V} {H : List Obj} : qs pgK 88 [v0] H = bdyK yA [v0] H := qK (fn := yA) rfl rfl
theorem qAJ {v0 : V} {H : List Obj} : qs pgK 89 [v0] H = bdyK qap [v0] H := qK (fn := qap) rfl rfl
theorem qAC {v0 : V} {H : List Obj} : qs pgK 90 [v0] H = bdyK yu [v0] H := qK (fn := yu) rfl rfl
theorem qzN {v0 : V} {H : List Obj} : qs pgK 91 [v0] H = bdyK yf [v0] H := qK (fn := yf) rfl rfl
theorem qBC {v0 : V} {H : List Obj} : qs pgK 93 [v0] H = bdyK f_waferref17_once [v0] H := qK (fn := f_waferref17_once) rfl rfl
theorem qBR {v0 : V} {H : List Obj} : qs pgK 94 [v0] H = bdyK f_waferref17_all [v0] H := qK (fn := f_waferref17_all) rfl rfl
theorem qCj {v0 v1 : V} {H : List Obj} : qs pgK 95 [v0, v1] H = bdyK f_waferref17_imported [v0, v1] H := qK (fn := f_waferref17_imported) rfl rfl
theorem qCq {v0 : V} {H : List Obj} : qs pgK 97 [v0] H = bdyK f_waferref17_RightLit [v0] H := qK (fn := f_waferref17_RightLit) rfl rfl
theorem qBJ {v0 v1 : V} {H : List Obj} : qs pgK 98 [v0, v1] H = bdyK f_waferref17_is [v0, v1] H := qK (fn := f_waferref17_is) rfl rfl
theorem qyl {v0 v1 : V} {H : List Obj} : qs pgK 105 [v0, v1] H = bdyK f_waferref11_Alike [v0, v1] H := qK (fn := f_waferref11_Alike) rfl rfl
theorem qwc {v0 v1 : V} {H : List Obj} : qs pgK 125 [v0, v1] H = bdyK zg [v0, v1] H := qK (fn := zg) rfl rfl
theorem qmQ {v0 v1 : V} {H : List Obj} : qs pgK 127 [v0, v1] H = bdyK yG [v0, v1] H := qK (fn := yG) rfl rfl
theorem qCN {v0 v1 : V} {H : List Obj} : qs pgK 128 [v0, v1] H = bdyK zQ [v0, v1] H := qK (fn := zQ) rfl rfl
theorem qvi {v0 v1 : V} {H : List Obj} : qs pgK 132 [v0, v1] H = bdyK zH [v0, v1] H := qK (fn := zH) rfl rfl
theorem quY {v0 v1 : V} {H : List Obj} : qs pgK 133 [v0, v1] H = bdyK kV [v0, v1] H := qK (fn := kV) rfl rfl
theorem qvz {v0 : V} {H : List Obj} : qs pgK 134 [v0] H = bdyK qcL [v0] H := qK (fn := qcL) rfl rfl
theorem quN {v0 : V} {H : List Obj} : qs pgK 135 [v0] H = bdyK qaN [v0] H := qK (fn := qaN) rfl rfl
theorem qvh {v0 v1 : V} {H : List Obj} : qs pgK 136 [v0, v1] H = bdyK zo [v0, v1] H := qK (fn := zo) rfl rfl
theorem qBn {v0 v1 : V} {H : List Obj} : qs pgK 137 [v0, v1] H = bdyK jd [v0, v1] H := qK (fn := jd) rfl rfl
theorem qCY {v0 : V} {H : List Obj} : qs pgK 147 [v0] H = bdyK f_types_Right [v0] H := qK (fn := f_types_Right) rfl rfl
theorem qC1 {v0 v1 : V} {H : List Obj} : qs pgK 148 [v0, v1] H = bdyK f_front_Env_Named [v0, v1] H := qK (fn := f_front_Env_Named) rfl rfl
theorem qCF {v0 v1 : V} {H : List Obj} : qs pgK 149 [v0, v1] H = bdyK f_types_Words [v0, v1] H := qK (fn := f_types_Words) rfl rfl
theorem qyu {v0 : V} {H : List Obj} : qs pgK 150 [v0] H = bdyK f_types_Basic [v0] H := qK (fn := f_types_Basic) rfl rfl
theorem qyw {v0 v1 v2 : V} {H : List Obj} : qs pgK 151 [v0, v1, v2] H = bdyK f_recheck_bare [v0, v1, v2] H := qK (fn := f_recheck_bare) rfl rfl
theorem qyj {v0 v1 : V} {H : List Obj} : qs pgK 153 [v0, v1] H = bdyK f_recheck_checker_lit [v0, v1] H := qK (fn := f_recheck_checker_lit) rfl rfl
theorem qCR {v0 v1 : V} {H : List Obj} : qs pgK 154 [v0, v1] H = bdyK f_recheck_checker_name [v0, v1] H := qK (fn := f_recheck_checker_name) rfl rfl
theorem qys {v0 v1 : V} {H : List Obj} : qs pgK 160 [v0, v1] H = bdyK f_tree_SameExpr [v0, v1] H := qK (fn := f_tree_SameExpr) rfl rfl
theorem qBk {v0 : V} {H : List Obj} : qs pgK 162 [v0] H = bdyK f_types_plain [v0] H := qK (fn := f_types_plain) rfl rfl
theorem qCe {v0 v1 : V} {H : List Obj} : qs pgK 171 [v0, v1] H = bdyK f_recheck_checker_standard [v0, v1] H := qK (fn := f_recheck_checker_standard) rfl rfl
theorem qyx {v0 : V} {H : List Obj} : qs pgK 172 [v0] H = bdyK f_waferref11_Basic [v0] H := qK (fn := f_waferref11_Basic) rfl rfl
theorem qCH {v0 v1 : V} {H : List Obj} : qs pgK 181 [v0, v1] H = bdyK f_slices_Index___string_string_ [v0, v1] H := qK (fn := f_slices_Index___string_string_) rfl rfl
theorem qm2 {v0 v1 : V} {H : List Obj} : qs pgK 184 [v0, v1] H = bdyK jf [v0, v1] H := qK (fn := jf) rfl rfl
theorem qvk {v0 : V} {H : List Obj} : qs pgK 185 [v0] H = bdyK y2 [v0] H := qK (fn := y2) rfl rfl
theorem qu4 {v0 : V} {H : List Obj} : qs pgK 186 [v0] H = bdyK yz [v0] H := qK (fn := yz) rfl rfl
theorem qyy {v0 : V} {H : List Obj} : qs pgK 187 [v0] H = bdyK f_waferref17_basic [v0] H := qK (fn := f_waferref17_basic) rfl rfl
theorem qvs {v0 v1 : V} {H : List Obj} : qs pgK 230 [v0, v1] H = bdyK zp [v0, v1] H := qK (fn := zp) rfl rfl
theorem qt5 {v0 v1 : V} {H : List Obj} : qs pgK 231 [v0, v1] H = bdyK f_slices_ContainsFunc___api_Type_api_Type_ [v0, v1] H := qK (fn := f_slices_ContainsFunc___api_Type_api_Type_) rfl rfl
theorem qA8 {v0 v1 : V} {H : List Obj} : qs pgK 232 [v0, v1] H = bdyK qbE [v0, v1] H := qK (fn := qbE) rfl rfl
theorem qBv {v0 v1 : V} {H : List Obj} : qs pgK 233 [v0, v1] H = bdyK jb [v0, v1] H := qK (fn := jb) rfl rfl
theorem qBa {v0 v1 : V} {H : List Obj} : qs pgK 242 [v0, v1] H = bdyK f_types_sizes_words [v0, v1] H := qK (fn := f_types_sizes_words) rfl rfl
theorem qCx {v0 v1 : V} {H : List Obj} : qs pgK 244 [v0, v1] H = bdyK f_strings_Contains [v0, v1] H := qK (fn := f_strings_Contains) rfl rfl
theorem qyf {v0 v1 : V} {H : List Obj} : qs pgK 252 [v0, v1] H = bdyK f_tree_sameType [v0, v1] H := qK (fn := f_tree_sameType) rfl rfl
theorem qyk {v0 v1 v2 : V} {H : List Obj} : qs pgK 253 [v0, v1, v2] H = bdyK f_slices_EqualFunc___api_Expr___api_Expr_api_Expr_api_Expr_ [v0, v1, v2] H := qK (fn := f_slices_EqualFunc___api_Expr___api_Expr_api_Expr_api_Expr_) rfl rfl
theorem qyo {v0 v1 v2 : V} {H : List Obj} : qs pgK 254 [v0, v1, v2] H = bdyK f_slices_EqualFunc___api_Type___api_Type_api_Type_api_Type_ [v0, v1, v2] H := qK (fn := f_slices_EqualFunc___api_Type___api_Type_api_Type_api_Type_) rfl rfl
theorem qCz {v0 v1 : V} {H : List Obj} : qs pgK 256 [v0, v1] H = bdyK f_front_Env_Right [v0, v1] H := qK (fn := f_front_Env_Right) rfl rfl
theorem qvK {v0 v1 : V} {H : List Obj} : qs pgK 292 [v0, v1] H = bdyK f_slices_IndexFunc___api_Type_api_Type_ [v0, v1] H := qK (fn := f_slices_IndexFunc___api_Type_api_Type_) rfl rfl
theorem qCU {v0 v1 : V} {H : List Obj} : qs pgK 294 [v0, v1] H = bdyK f_strings_Index [v0, v1] H := qK (fn := f_strings_Index) rfl rfl
theorem qCV {v0 : V} {H : List Obj} : qs pgK 301 [v0] H = bdyK f_front_forms [v0] H := qK (fn := f_front_forms) rfl rfl
theorem qBr {v0 v1 : V} {H : List Obj} : qs pgK 322 [v0, v1] H = bdyK f_internal_stringslite_Index [v0, v1] H := qK (fn := f_internal_stringslite_Index) rfl rfl
end W

set_option linter.unusedSimpArgs false
set_option linter.unusedVariables false
namespace W
open Go (IntKind BinOp UnOp)
def qnB (size : Nat) : List D → Nat → Option V
  | [], _ => none
  | x :: _, 0 => bif qDG x.cells.length size then some (.cp x) else none
  | _ :: l, n + 1 => qnB size l n
theorem qrw (size : Nat) : ∀ (xs : List D) (n : Nat), qnB size xs n = (match xs[n]? with | some y => bif qDG y.cells.length size then some (.cp y) else none | none => none)
  | [], n => by simp [qnB]
  | x :: l, 0 => by simp [qnB]
  | x :: l, n + 1 => by simp [qnB, qrw size l n]
theorem qgV {size : Nat} {x : D} {l : List D} : qnB size (x :: l) 0 = bif qDG x.cells.length size then some (.cp x) else none := (rfl)
theorem qy2 {size : Nat} {x : D} {l : List D} {n : Nat} : qnB size (x :: l) (n + 1) = qnB size l n := (rfl)
theorem qfo {xs : List D} {k : IntKind} {n : Int} {size : Nat} : iaV (.d (.sl xs)) (.d (.i k n)) size none = bif leI 0 n then qnB size xs n.toNat else none := by
  rw [qrw]; rfl
theorem kn {H : List Obj} {pan : Bool} {v : V} {e : Env} {H' : List Obj} {lo : Nat} (h1 : v.leaves = true) (h2 : (v.ref ≤ H.length) = True) (h0 : settle H.length H' v = v) (hl : (H.length ≤ lo) = True) : leave H pan v ⟨e, H', lo⟩ = some ⟨pan, true, v, H, lo⟩ :=
  qat h1 (by rw [h2]; trivial) (by rw [hl]; trivial) h0
theorem qoN {H : List Obj} {pan : Bool} {v : V} {e : Env} {H' : List Obj} {lo : Nat} (h1 : v.leaves = true) (hl : (lo < H.length) = True) (h0 : settle H.length H' v = v) : leave H pan v ⟨e, H', lo⟩ = some ⟨pan, false, v, H', lo⟩ :=
  qjS h1 (.inr (by rw [hl]; trivial)) h0
theorem qjT {H : List Obj} {pan : Bool} {v : V} {e : Env} {H' : List Obj} {lo : Nat} (h1 : v.leaves = true) (hl : (H.length < v.ref) = True) (h0 : settle H.length H' v = v) : leave H pan v ⟨e, H', lo⟩ = some ⟨pan, false, v, H', lo⟩ :=
  qjS h1 (.inl (by rw [hl]; trivial)) h0
theorem yW {a b : Nat} (h : (a ≤ b) = True) : min a b = a := Nat.min_eq_left (by rw [h]; trivial)
theorem qyg {a b : Nat} (h : (b ≤ a) = True) : min a b = b := Nat.min_eq_right (by rw [h]; trivial)
theorem qnG {n : Int} (h1 : (-9223372036854775808 ≤ n) = True) (h2 : (n ≤ 9223372036854775807) = True) : wr .i64 n = n := qby (by rw [h1]; trivial) (by rw [h2]; trivial)
theorem qDa {n : Int} (h1 : (-2147483648 ≤ n) = True) (h2 : (n ≤ 2147483647) = True) : wr .i32 n = n := qzn (by rw [h1]; trivial) (by rw [h2]; trivial)
theorem qqu {k : D} : qdp k [] = some none := (rfl)
theorem qDo {x y : List Nat} {v : V} {l : List (D × V)} : qdp (.s x) ((.s y, v) :: l) = bif eqT x y then some (some v) else qdp (.s x) l := by
  simp only [qdp, D.same]; cases eqT x y <;> rfl
theorem qq8 {k : D} {v : V} : qdP k v [] = some [(k, v)] := (rfl)
def qwt (p : D × V) : Option (List (D × V)) → Option (List (D × V))
  | some r => some (p :: r)
  | none => none
theorem qvr {p : D × V} {r : List (D × V)} : qwt p (some r) = some (p :: r) := (rfl)
theorem qDh {x y : List Nat} {v w : V} {l : List (D × V)} : qdP (.s x) v ((.s y, w) :: l) = bif eqT x y then some ((.s y, v) :: l) else qwt (.s y, w) (qdP (.s x) v l) := by
  simp only [qdP, D.same]
  cases eqT x y
  · simp only [cond_false]; cases qdP (.s x) v l <;> rfl
  · rfl
noncomputable def qv9 (pg : Pg) (fn : Fn) (H : List Obj) (f : V) (r : Option (Ex × St)) : Option Cr :=
  match f, r with
  | .fn h first cap, some (.nrm, st) => bif V.ok.oks (first ++ cap) then handle pg (exL pg) fn H h (first ++ cap) (.d .ni) st else none
  | .fn h first cap, some (.ret, st) => bif V.ok.oks (first ++ cap) then handle pg (exL pg) fn H h (first ++ cap) (.d .ni) st else none
  | .fn h first cap, some (.pan v, st) => bif V.ok.oks (first ++ cap) && qmz v then handle pg (exL pg) fn H h (first ++ cap) v st else none
  | _, _ => none
theorem qlh {pg : Pg} {fn : Fn} {H : List Obj} {t : Nat} {rest : C} {st : St} : qs8 pg fn H t rest (some (.nrm, st)) = qv9 pg fn H (get t st.env) (exL pg rest st) := by
  show deferred pg (exL pg) fn H t rest st = _
  unfold deferred qv9
  cases get t st.env with
  | fn h first cap =>
    simp only []
    cases exL pg rest st with
    | none => cases V.ok.oks (first ++ cap) <;> rfl
    | some y =>
      obtain ⟨ex, s⟩ := y
      cases ex <;> cases hk : V.ok.oks (first ++ cap) <;> simp [hk]
  | _ => rfl
theorem qve {pg : Pg} {fn : Fn} {H : List Obj} {h : Nat} {first cap : List V} {st : St} : qv9 pg fn H (.fn h first cap) (some (.nrm, st)) = bif V.ok.oks (first ++ cap) then handle pg (exL pg) fn H h (first ++ cap) (.d .ni) st else none := (rfl)
theorem qoK {pg : Pg} {fn : Fn} {H : List Obj} {h : Nat} {first cap : List V} {st : St} : qv9 pg fn H (.fn h first cap) (some (.ret, st)) = bif V.ok.oks (first ++ cap) then handle pg (exL pg) fn H h (first ++ cap) (.d .ni) st else none := (rfl)
theorem qlM {pg : Pg} {fn : Fn} {H : List Obj} {h : Nat} {first cap : List V} {v : V} {st : St} : qv9 pg fn H (.fn h first cap) (some (.pan v, st)) = bif V.ok.oks (first ++ cap) && qmz v then handle pg (exL pg) fn H h (first ++ cap) v st else none := (rfl)
def qwu (fn : Fn) (H : List Obj) (e : Env) (r : Option (Ex × St)) : Option Cr :=
  match r with
  | some (.nrm, st) => qgQ H fn.own fn.res (some (.ret, ⟨e, st.H, st.lo⟩))
  | some (.ret, st) => qgQ H fn.own fn.res (some (.ret, ⟨e, st.H, st.lo⟩))
  | _ => none
theorem ql5 {fn : Fn} {H : List Obj} {e : Env} {st : St} : qwu fn H e (some (.nrm, st)) = qgQ H fn.own fn.res (some (.ret, ⟨e, st.H, st.lo⟩)) := (rfl)
theorem qug {fn : Fn} {H : List Obj} {e : Env} {st : St} : qwu fn H e (some (.ret, st)) = qgQ H fn.own fn.res (some (.ret, ⟨e, st.H, st.lo⟩)) := (rfl)
theorem qzP {fn : Fn} {H : List Obj} {v0 v : V} {st : St} : handle pgK (exL pgK) fn H 20 [v0] v st = qwu fn H st.env (exL pgK f_recheck_Check_1.body ⟨(4, v) :: ya 0 [v0], st.H, st.lo⟩) := by
  unfold handle qwu
  have h1 : pgK.fn 20 = some f_recheck_Check_1 := rfl
  simp only [h1]
  have h2 : f_recheck_Check_1.rcv = some 4 := rfl
  simp only [h2]
  have h3 : (qDG f_recheck_Check_1.np [v0].length && f_recheck_Check_1.res.isEmpty) = true := rfl
  simp only [h3, cond_true]
  cases exL pgK f_recheck_Check_1.body ⟨(4, v) :: ya 0 [v0], st.H, st.lo⟩ with
  | none => rfl
  | some y => obtain ⟨ex, s⟩ := y; cases ex <;> rfl
theorem qxt {v0 v1 : V} {H : List Obj} : qs pgK 11 [v0, v1] H = qs8 pgK f_recheck_Check H 8 f_recheck_Check_D (exL pgK f_recheck_Check.body { env := ya 0 [v0, v1], H, lo := H.length }) := qmR (fn := f_recheck_Check) rfl rfl rfl rfl
theorem qj9 {t : Nat} {x : V} : qmz (.ifc t x) = x.ok := (rfl)
theorem qkG {x o : Obj} {l : List Obj} : kO (x :: l) 0 o = o :: l := (rfl)
theorem qni {x o : Obj} {l : List Obj} {n : Nat} : kO (x :: l) (n + 1) o = x :: kO l n o := (rfl)
theorem qk7 {bx : Bool} {no : List Nat} {n : Nat} {cs : List V} {st : St} : qe1 bx no (some n) (.agg cs) st = some { st with env := (n, .agg cs) :: st.env } := (rfl)
theorem quj {bx : Bool} {no : List Nat} {n : Nat} {xs : List D} {st : St} : qe1 bx no (some n) (.fsl xs) st = some { st with env := (n, .fsl xs) :: st.env } := (rfl)
theorem qzk : D.one .np = true := (rfl)
theorem qp9 : D.one .nm = true := (rfl)
theorem qAz : D.one .ni = true := (rfl)
theorem qAm : D.one .nf = true := (rfl)
theorem qeH {pg : Pg} {i : Nat} {first cap : List V} {args : List O} {st : St} (hl : V.allLeave (first ++ args.map (rd st.env) ++ cap) = true) : qpt pg (.fn i first cap) args st = qhG (qs pg i (first ++ args.map (rd st.env) ++ cap) st.H) args st := by
  simp only [qpt, hl, if_true, qhG]
  all_goals rfl
theorem qn4 : f_recheck_Check.body = (.seq (.ops [⟨(some 2), .box true (.t 0), none⟩,
    ⟨(some 4), .alloc false [(.i .i64 0)], none⟩])
  (.ops [⟨(some 8), .mkFn 20 [] [(.t 4)], none⟩])) := (rfl)
theorem qq6 : f_recheck_Check.res = [(.cell 4 ⟨1, false⟩)] := (rfl)
theorem qqD : f_recheck_Check.own = true := (rfl)
section
variable {pg : Pg} {k p0 p1 : Nat} {l : L} {live : List Nat} {a b : C} {c : V} {base : Env} {H : List Obj} {lo i : Nat} {st : St} {v : V}
noncomputable def qxI (pg : Pg) (l : L) (p0 p1 : Nat) (live : List Nat) (a b : C) (c : V) (st : St) : Option Nat → Option (Ex × St)
  | some n => rounds (exL pg a) (exL pg b) l c p0 p1 (qa4 live st.env) n st.H st.lo
  | none => none
noncomputable def qzC (pg : Pg) (k : Nat) (l : L) (p0 p1 : Nat) (live : List Nat) (a b : C) (st : St) : V → Option (Ex × St)
  | .fn k' [] [c] => bif qDG k' k && c.ok then qxI pg l p0 p1 live a b c st (qbt c st.H st.lo) else none
  | _ => none
theorem qtV {f : O} : exL pg (.rangeB k l f p0 p1 live a b) st = qzC pg k l p0 p1 live a b st (rd st.env f) := by
  rw [qcD]
  simp only [step]
  unfold qzC qxI
  generalize rd st.env f = w
  cases w with
  | fn k' x y => cases x with
    | nil => cases y with
      | nil => rfl
      | cons c t => cases t with
        | nil =>
          simp only []
          cases (qDG k' k && c.ok) with
          | false => rfl
          | true => cases qbt c st.H st.lo <;> rfl
        | cons _ _ => rfl
    | cons _ _ => rfl
  | _ => rfl
theorem qxq {k' : Nat} : qzC pg k l p0 p1 live a b st (.fn k' [] [c]) = bif qDG k' k && c.ok then qxI pg l p0 p1 live a b c st (qbt c st.H st.lo) else none := (rfl)
theorem qsa {n : Nat} : qxI pg l p0 p1 live a b c st (some n) = rounds (exL pg a) (exL pg b) l c p0 p1 (qa4 live st.env) n st.H st.lo := (rfl)
noncomputable def qsd (pg : Pg) (l : L) (c : V) (p0 p1 : Nat) (a b : C) (base : Env) (i : Nat) : Option (Ex × St) → Option (Ex × St)
  | some (.nrm, st) => rounds (exL pg a) (exL pg b) l c p0 p1 base i st.H st.lo
  | some (.exit j, st) => some (.exit j, ⟨base, st.H, st.lo⟩)
  | some (.ret, st) => some (.ret, ⟨base, st.H, st.lo⟩)
  | _ => none
noncomputable def qwJ (pg : Pg) (l : L) (c : V) (p0 p1 : Nat) (a b : C) (base : Env) (i : Nat) : Option (Ex × St) → Option (Ex × St)
  | some (.nrm, st) => qsd pg l c p0 p1 a b base i (exL pg b st)
  | _ => none
noncomputable def qzr (pg : Pg) (l : L) (c : V) (p0 p1 : Nat) (a b : C) (base : Env) (i : Nat) (H : List Obj) (lo : Nat) : Option V → Option (Ex × St)
  | some v => bif v.ok then qwJ pg l c p0 p1 a b base i (exL pg a ⟨(p1, v) :: (p0, .d (.i .i64 i)) :: base, H, lo⟩) else none
  | none => none
theorem qvR : rounds (exL pg a) (exL pg b) l c p0 p1 base 0 H lo = some (.nrm, ⟨base, H, lo⟩) := (rfl)
theorem qu2 : rounds (exL pg a) (exL pg b) l c p0 p1 base (i + 1) H lo = qzr pg l c p0 p1 a b base i H lo (qiM l c i H lo) := by
  simp only [rounds]
  unfold qzr qwJ qsd
  cases qiM l c i H lo with
  | none => rfl
  | some v =>
    simp only []
    cases v.ok with
    | false => rfl
    | true =>
      simp only [cond_true]
      cases exL pg a ⟨(p1, v) :: (p0, .d (.i .i64 i)) :: base, H, lo⟩ with
      | none => rfl
      | some y =>
        obtain ⟨ex, s⟩ := y
        cases ex <;> first
          | rfl
          | (cases exL pg b s with
             | none => rfl
             | some z => obtain ⟨ex, s⟩ := z; cases ex <;> rfl)
theorem qsq : qzr pg l c p0 p1 a b base i H lo (some v) = bif v.ok then qwJ pg l c p0 p1 a b base i (exL pg a ⟨(p1, v) :: (p0, .d (.i .i64 i)) :: base, H, lo⟩) else none := (rfl)
theorem qtZ : qwJ pg l c p0 p1 a b base i (some (.nrm, st)) = qsd pg l c p0 p1 a b base i (exL pg b st) := (rfl)
theorem qv7 : qsd pg l c p0 p1 a b base i (some (.nrm, st)) = rounds (exL pg a) (exL pg b) l c p0 p1 base i st.H st.lo := (rfl)
theorem qtf {j : Nat} : qsd pg l c p0 p1 a b base i (some (.exit j, st)) = some (.exit j, ⟨base, st.H, st.lo⟩) := (rfl)
theorem quc : qsd pg l c p0 p1 a b base i (some (.ret, st)) = some (.ret, ⟨base, st.H, st.lo⟩) := (rfl)
theorem qne {e : Env} : qa4 [] e = [] := (rfl)
theorem qmv {n : Nat} {l : List Nat} {e : Env} : qa4 (n :: l) e = (n, bif (get n e).ok then get n e else .undef) :: qa4 l e := (rfl)
end
def pg0 : Pg := ⟨fun _ => none, fun _ _ _ => none⟩
theorem qkR : qeB = qs pg0 := by
  funext f vs H
  rw [qd4]; rfl
def bcV : V → Option Nat
  | .d (.i .i64 n) => bif Nat.ble (n + 1).toNat 4611686018427387904 && leI 0 (n + 1) then some (n + 1).toNat else none
  | _ => none
def bcC : Option (Ex × St) → Option Nat
  | some (.nrm, st) => bcV (get 3 st.env)
  | _ => none
theorem qBh {n : Int} : bcV (.d (.i .i64 n)) = bif Nat.ble (n + 1).toNat 4611686018427387904 && leI 0 (n + 1) then some (n + 1).toNat else none := (rfl)
theorem qxz {st : St} : bcC (some (.nrm, st)) = bcV (get 3 st.env) := (rfl)
theorem qoe {c : V} {H : List Obj} {lo : Nat} : qbt c H lo = bcC (z6 (qs pg0) qcF ⟨[(1, c)], H, lo⟩) := by
  unfold qbt bcC bcV
  rw [qkR]
  cases z6 (qs pg0) qcF ⟨[(1, c)], H, lo⟩ with
  | none => rfl
  | some y => obtain ⟨ex, s⟩ := y; cases ex <;> rfl
def baC : Option (Ex × St) → Option V
  | some (.nrm, st) => some (get 16 st.env)
  | _ => none
theorem qwR {st : St} : baC (some (.nrm, st)) = some (get 16 st.env) := (rfl)
theorem qtI {l : L} {c : V} {i : Nat} {H : List Obj} {lo : Nat} : qiM l c i H lo = baC (z6 (qs pg0) (qcY l) ⟨[(3, .d (.i .i64 i)), (1, c)], H, lo⟩) := by
  unfold qiM baC
  rw [qkR]
  cases z6 (qs pg0) (qcY l) ⟨[(3, .d (.i .i64 i)), (1, c)], H, lo⟩ with
  | none => rfl
  | some y => obtain ⟨ex, s⟩ := y; cases ex <;> rfl
def qrB : Option Obj → Option V
  | some (.map es) => some (.d (.i .i64 es.length))
  | _ => none
def qra (H : List Obj) : V → Option V
  | .d .nm => some (.d (.i .i64 0))
  | .map id => qrB H[id]?
  | _ => none
theorem qsf {es : List (D × V)} : qrB (some (.map es)) = some (.d (.i .i64 es.length)) := (rfl)
theorem qvv {H : List Obj} : qra H (.d .nm) = some (.d (.i .i64 0)) := (rfl)
theorem qsM {H : List Obj} {id : Nat} : qra H (.map id) = qrB H[id]? := (rfl)
theorem qp4 {call : Call} {x : O} {st : St} : kM call (.bi .lenM [x]) st = okS (qra st.H (rd st.env x)) st := by
  show qiy x st = _
  unfold qiy qra qrB okS
  cases rd st.env x with
  | d y => cases y <;> rfl
  | map id => simp only []; cases st.H[id]? with
    | none => rfl
    | some o => cases o <;> rfl
  | _ => rfl
end W

set_option linter.unusedSimpArgs false
set_option linter.unusedVariables false
namespace W
open Go (IntKind BinOp UnOp)
set_option maxRecDepth 20000
def stD : Nat → D → Bool
  | 0, _ => false
  | k + 1, .agg [_, _, .s nm, .nil] => decide (nm.length ≤ 65)
  | k + 1, .agg [_, _, .s nm, .sl l] => decide (nm.length ≤ 65) && decide (l.length ≤ 1000) && l.all (stD k)
  | _ + 1, _ => false
def TyA : Nat → D → Prop
  | 0, x => ∃ f n nm o, x = .agg [.i .i64 f, .i .i64 n, .s nm, o] ∧ D.one o = true
  | k + 1, x => ∃ f n nm, x = .agg [.i .i64 f, .i .i64 n, .s nm, .nil] ∨ ∃ l, x = .agg [.i .i64 f, .i .i64 n, .s nm, .sl l] ∧ True ∧ ∀ y ∈ l, TyA k y
theorem st0 {x : D} (h : TyA 0 x) {H : List Obj} : qs pgK 184 [.d x, .d (.i .i64 0)] H = some ⟨false, true, .d (.b (stD 0 x)), H, H.length⟩ := by
  obtain ⟨f, n, nm, o, rfl, ho⟩ := h
  rw [qm2]
  simp only [bdyK, jf, k_, o_, m_, g_, q_, l_, i_, zt, zN, a_, d_, n_, e_, x_, s_, c_, u_, jv, qn, qDz, Nat.reduceAdd, qu, qw, qx, qk, zy, kL, qE, qy, qz, ki, qDy, qDF, qX, kU, z8, jO, ho, kj, qDA, yI, qI, kE, qJ, zj, qN, qd, kS, qG, qZ, qa, qc, Nat.reduceEqDiff, qH, reduceCtorEq, qi, kf, kA, qDC, kq, Int.reduceLT, decide_true, ql, qS, kx, qDL, kh, qDt, ↓reduceIte, kr, qD, qY, qar, qA, qL, qQ, kC, qO, qj, qT, kX, qm, qB, qU, qC, ji, qDS, kD, qDx, kn, stD]
theorem tt0 {x : D} (h : TyA 0 x) {H : List Obj} : qs pgK 127 [.d x, .d (.i .i64 0)] H = some ⟨false, true, .d (.b (stD 0 x)), H, H.length⟩ := by
  obtain ⟨f, n, nm, o, rfl, ho⟩ := h
  have hm : min (H.length) (H.length + 1) = H.length := by omega
  rw [qmQ]
  simp only [bdyK, yG, k_, o_, h_, g_, m_, q_, l_, qn, qDz, Nat.reduceAdd, qu, qw, qx, qk, zy, kL, qE, qy, qz, ki, qDy, qDF, qX, kU, z8, jO, ho, kj, qDA, yI, qI, kE, qJ, zj, qN, Nat.reduceEqDiff, qH, reduceCtorEq, kP, qgg, zw, qd, kS, qG, qZ, qa, qc, qq, kp, kv, qpR, zk, qDu, qDw, q9, ql, qi, kf, kA, qDC, kW, Int.reduceLT, decide_false, qS, ky, kh, qDt, ↓reduceIte, kr, qD, qY, z7, qQ, qO, qj, qT, kX, qm, qB, qU, qC, ji, qDS, kD, qDx, kn, stD]
end W

set_option linter.unusedSimpArgs false
set_option linter.unusedVariables false
namespace W
open Go (IntKind BinOp UnOp)
set_option maxRecDepth 20000
theorem qqr {l : List D} {i : Nat} {y : D} {k : IntKind} {z : Nat} (h : l[i]? = some y) (hz : y.cells.length = z) : iaV (.d (.sl l)) (.d (.i k (i : Int))) z none = some (.cp y) := by
  simp [iaV, qc9, h, qfH, hz]
theorem TyA.cells {k : Nat} {x : D} (h : TyA k x) : ∃ a b c o, x = .agg [a, b, c, o] ∧ D.one a = true ∧ D.one b = true ∧ D.one c = true ∧ D.one o = true := by
  cases k with
  | zero => obtain ⟨f, n, nm, o, rfl, ho⟩ := h; exact ⟨_, _, _, _, rfl, rfl, rfl, rfl, ho⟩
  | succ k =>
    obtain ⟨f, n, nm, h⟩ := h
    rcases h with rfl | ⟨l, rfl, _⟩ <;> exact ⟨_, _, _, _, rfl, rfl, rfl, rfl, rfl⟩
def qB6 (b : Bool) (H : List Obj) (r : Option (Ex × St)) : Prop :=
  match b with
  | true => ∃ e, r = some (.exit 0, ⟨e, H, H.length⟩)
  | false => ∃ e, r = some (.ret, ⟨e, H, H.length⟩) ∧ get 4 e = .d (.b false)
theorem qrJ {k : Nat} (hk : k < 100) (ih : ∀ y, TyA k y → ∀ H : List Obj, qs pgK 184 [.d y, .d (.i .i64 (k : Int))] H = some ⟨false, true, .d (.b (stD k y)), H, H.length⟩) {f n : Int} {nm : List Nat} {l : List D} (hl : l.length ≤ 1000) (hm : ∀ y ∈ l, TyA k y) {H : List Obj} :
    ∀ (m i : Nat) (e0 : Env), i + m = l.length → get 1 e0 = .d (.i .i64 ((k + 1 : Nat) : Int)) → get 2 e0 = .box [.d (.i .i64 f), .d (.i .i64 n), .d (.s nm), .d (.sl l)] → get 5 e0 = .d (.i .i64 (i : Int)) → qB6 ((l.drop i).all (stD k)) H (exL pgK zt ⟨e0, H, H.length⟩)
  | 0, i, e0, hi, g1, g2, g5 => by
    have h1 : ((i : Int) < (l.length : Int)) = False := by rw [eq_iff_iff]; simp; omega
    have hd : l.drop i = [] := List.drop_eq_nil_of_le (by omega)
    rw [hd]
    simp only [zt, jy]
    simp only [List.all_nil, zN, k_, m_, a_, d_, n_, e_, x_, o_, s_, g_, c_, u_, qo, g1, kc, g2, zx, g5, qp, qw, qx, qk, qd, kL, Nat.reduceEqDiff, qH, qE, qy, qz, qI, qZ, qb, ke, ja, qDz, ql, jB, qq, kQ, kI, jC, qDv, qDu, qDw, q9, ko, jR, qi, kf, qDJ, kq, h1, decide_false, qa, qc, qA, qL, qDt, ↓reduceIte, j7, zY]
    exact ⟨_, rfl⟩
  | m + 1, i, e0, hi, g1, g2, g5 => by
    have h1 : ((i : Int) < (l.length : Int)) = True := by rw [eq_iff_iff]; simp; omega
    have hlt : i < l.length := by omega
    have hy : l[i]? = some l[i] := List.getElem?_eq_getElem hlt
    have hmem : l[i] ∈ l := List.getElem_mem hlt
    obtain ⟨a, b, c, o, ha, o1, o2, o3, o4⟩ := (hm _ hmem).cells
    have hix : ∀ {kk : IntKind}, iaV (.d (.sl l)) (.d (.i kk (i : Int))) 4 none = some (.cp (.agg [a, b, c, o])) := by
      intro kk; rw [← ha]; exact qqr hy (by rw [ha]; rfl)
    have hc := ih _ (hm _ hmem) H
    have he := fun e0 => qrJ (f := f) (n := n) (nm := nm) hk ih hl hm (H := H) m (i + 1) e0 (by omega)
    have hd : l.drop i = l[i] :: l.drop (i + 1) := List.drop_eq_getElem_cons hlt
    rw [hd]
    have hs : wr .i64 (((k + 1 : Nat) : Int) - 1) = (k : Int) := by rw [qby (by omega) (by omega)]; omega
    have hp : wr .i64 ((i : Int) + 1) = ((i + 1 : Nat) : Int) := by rw [qby (by omega) (by omega)]; omega
    rw [ha] at hc
    simp only [zt] at he
    simp only [zt]
    rw [jy]
    generalize C.loop [1, 2, 5] zN = L at he ⊢
    cases hb : stD k l[i] with
    | true =>
      rw [ha] at hb
      rw [hb] at hc
      simp only [List.all_cons, ha, hb, Bool.true_and]
      simp only [zN, k_, m_, a_, d_, n_, e_, x_, o_, s_, g_, c_, u_, qo, g1, kc, g2, zx, g5, qp, qw, qx, qk, qd, kL, Nat.reduceEqDiff, qH, qE, qy, qz, qI, qZ, qb, ke, ja, qDz, ql, jB, qq, kQ, kI, jC, qDv, qDu, qDw, q9, ko, jR, qi, kf, qDJ, kq, h1, decide_true, qa, qc, qA, qL, ↓reduceIte, qP, qF, qW, hix, yg, zO, qDE, qDD, Nat.reduceAdd, jh, kA, qDC, kS, qcT, hs, qt, qDy, qDF, qf, qC, qh, qDA, qV, hc, qr, qe, qg, qDx, yW, kK, zW, qDL, qDt, kg, zJ, hp]
      exact he _ rfl rfl rfl
    | false =>
      rw [ha] at hb
      rw [hb] at hc
      simp only [List.all_cons, ha, hb, Bool.false_and]
      simp only [zN, k_, m_, a_, d_, n_, e_, x_, o_, s_, g_, c_, u_, qo, g1, kc, g2, zx, g5, qp, qw, qx, qk, qd, kL, Nat.reduceEqDiff, qH, qE, qy, qz, qI, qZ, qb, ke, ja, qDz, ql, jB, qq, kQ, kI, jC, qDv, qDu, qDw, q9, ko, jR, qi, kf, qDJ, kq, h1, decide_true, qa, qc, qA, qL, ↓reduceIte, qP, qF, qW, hix, yg, zO, qDE, qDD, Nat.reduceAdd, jh, kA, qDC, kS, qcT, hs, qt, qDy, qDF, qf, qC, qh, qDA, qV, hc, qr, qe, qg, qDx, yW, kK, zW, qDM, qG, qQ, ze, kC]
      exact ⟨_, rfl, rfl⟩
theorem qwA {k : Nat} (hk : k < 100) (ih : ∀ y, TyA k y → ∀ H : List Obj, qs pgK 184 [.d y, .d (.i .i64 (k : Int))] H = some ⟨false, true, .d (.b (stD k y)), H, H.length⟩) {x : D} (hx : TyA (k + 1) x) {H : List Obj} :
    qs pgK 184 [.d x, .d (.i .i64 ((k + 1 : Nat) : Int))] H = some ⟨false, true, .d (.b (stD (k + 1) x)), H, H.length⟩ := by
  have hk1 : (((k + 1 : Nat) : Int) < 1) = False := by rw [eq_iff_iff]; simp; omega
  obtain ⟨f, n, nm, h⟩ := hx
  by_cases hn : nm.length ≤ 65
  · have n1 : (65 < (nm.length : Int)) = False := by rw [eq_iff_iff]; simp; omega
    rcases h with rfl | ⟨l, rfl, hl, hm⟩
    · rw [qm2]
      have hs : stD (k + 1) (.agg [.i .i64 f, .i .i64 n, .s nm, .nil]) = true := by simp [stD, hn]
      simp only [bdyK, jf, k_, o_, m_, g_, q_, l_, i_, zt, zN, a_, d_, n_, e_, x_, s_, c_, u_, jv, qn, qDz, Nat.reduceAdd, qu, qw, qx, qk, zy, kL, qE, qy, qz, ki, qDy, qDF, qX, kU, z8, jO, yD, kj, qDA, yI, qI, kE, qJ, zj, qN, qd, kS, qG, qZ, qa, qc, Nat.reduceEqDiff, qH, reduceCtorEq, qi, kf, kA, qDC, kq, hk1, decide_false, ql, qS, kx, qDM, kh, ↓reduceIte, qb, ke, ja, jB, qq, kQ, kI, jC, qDv, qDu, qDw, q9, qM, kT, kW, n1, qD, ku, qDt, ko, ye, qt, qf, qC, qh, qV, qs6, yE, jS, Int.reduceLE, decide_true, qQ, qO, qj, qT, kX, qm, qB, qU, ji, qDS, kD, qDx, kn, qr, qe, qg, yW, kK, zW, qDL, qA, qL, qP, qF, jy, qo, kc, zx, qp, qDJ, Int.reduceLT, j7, zY, zC, hs]
    · by_cases h2 : l.length ≤ 1000
      · have l1 : ((l.length : Int) ≤ 1000) = True := by rw [eq_iff_iff]; simp; omega
        have hloop := fun e0 => qrJ (f := f) (n := n) (nm := nm) hk ih h2 hm (H := H) l.length 0 e0 (by omega)
        simp only [qDQ] at hloop
        rw [qm2]
        simp only [bdyK, jf, k_, o_, m_, g_, q_, l_, i_, qn, qDz, Nat.reduceAdd, qu, qw, qx, qk, zy, kL, qE, qy, qz, ki, qDy, qDF, qX, kU, z8, jO, qab, kj, qDA, yI, qI, kE, qJ, zj, qN, qd, kS, qG, qZ, qa, qc, Nat.reduceEqDiff, qH, reduceCtorEq, qi, kf, kA, qDC, kq, hk1, decide_false, ql, qS, kx, qDM, kh, ↓reduceIte, qb, ke, ja, jB, qq, kQ, kI, jC, qDv, qDu, qDw, q9, qM, kT, kW, n1, qD, ku, qDt, ko, jR, qt, qf, qC, qh, qV, qs6, yE, jS, l1, decide_true, qQ, qO, qj, qT, kX, qm, qB, qU, ji, qDS, kD, qDx, kn, qr, qe, qg, yW, kK, zW, qDL, qA, qL, qP, qF]
        generalize hq : exL pgK zt _ = q
        have hL : qB6 (l.all (stD k)) H q := by rw [← hq]; exact hloop _ rfl rfl rfl
        have hs : stD (k + 1) (.agg [.i .i64 f, .i .i64 n, .s nm, .sl l]) = l.all (stD k) := by simp [stD, hn, h2]
        rw [hs]
        clear hq
        cases hb : l.all (stD k) with
        | true =>
          rw [hb] at hL
          obtain ⟨e, rfl⟩ := hL
          simp only [zC, ↓reduceIte, qp, jv, k_, o_, qc, qw, qx, qk, qd, kS, qG, qI, qZ, qa, qQ, qO, qj, qT, qE, kX, qm, qB, qU, qC, ji, qDS, kD, qDx, kn]
        | false =>
          rw [hb] at hL
          obtain ⟨e, rfl, hg⟩ := hL
          simp only [ze, jv, k_, o_, kC, qO, qj, qT, hg, kX, qm, qB, qU, qC, ji, qDS, kD, qDx, kn]
      · have l1 : ((l.length : Int) ≤ 1000) = False := by rw [eq_iff_iff]; simp; omega
        have hs : stD (k + 1) (.agg [.i .i64 f, .i .i64 n, .s nm, .sl l]) = false := by simp [stD, h2]
        rw [qm2]
        simp only [bdyK, jf, k_, o_, m_, g_, q_, l_, i_, zt, zN, a_, d_, n_, e_, x_, s_, c_, u_, jv, qn, qDz, Nat.reduceAdd, qu, qw, qx, qk, zy, kL, qE, qy, qz, ki, qDy, qDF, qX, kU, z8, jO, qab, kj, qDA, yI, qI, kE, qJ, zj, qN, qd, kS, qG, qZ, qa, qc, Nat.reduceEqDiff, qH, reduceCtorEq, qi, kf, kA, qDC, kq, hk1, decide_false, ql, qS, kx, qDM, kh, ↓reduceIte, qb, ke, ja, jB, qq, kQ, kI, jC, qDv, qDu, qDw, q9, qM, kT, kW, n1, qD, ku, qDt, ko, jR, qt, qf, qC, qh, qV, qs6, yE, jS, l1, qQ, qO, qj, qT, kX, qm, qB, qU, ji, qDS, kD, qDx, kn, qr, qe, qg, yW, kK, zW, qA, qL, kC, hs]
  · have n1 : (65 < (nm.length : Int)) = True := by rw [eq_iff_iff]; simp; omega
    rcases h with rfl | ⟨l, rfl, hl, hm⟩
    · have hs : stD (k + 1) (.agg [.i .i64 f, .i .i64 n, .s nm, .nil]) = false := by simp [stD, hn]
      rw [qm2]
      simp only [bdyK, jf, k_, o_, m_, g_, q_, l_, i_, zt, zN, a_, d_, n_, e_, x_, s_, c_, u_, jv, qn, qDz, Nat.reduceAdd, qu, qw, qx, qk, zy, kL, qE, qy, qz, ki, qDy, qDF, qX, kU, z8, jO, yD, kj, qDA, yI, qI, kE, qJ, zj, qN, qd, kS, qG, qZ, qa, qc, Nat.reduceEqDiff, qH, reduceCtorEq, qi, kf, kA, qDC, kq, hk1, decide_false, ql, qS, kx, qDM, kh, ↓reduceIte, qb, ke, ja, jB, qq, kQ, kI, jC, qDv, qDu, qDw, q9, qM, kT, kW, n1, decide_true, qD, ku, qDt, qDL, kr, qY, qar, qA, qL, qQ, kC, qO, qj, qT, kX, qm, qB, qU, qC, ji, qDS, kD, qDx, kn, hs]
    · have hs : stD (k + 1) (.agg [.i .i64 f, .i .i64 n, .s nm, .sl l]) = false := by simp [stD, hn]
      rw [qm2]
      simp only [bdyK, jf, k_, o_, m_, g_, q_, l_, i_, zt, zN, a_, d_, n_, e_, x_, s_, c_, u_, jv, qn, qDz, Nat.reduceAdd, qu, qw, qx, qk, zy, kL, qE, qy, qz, ki, qDy, qDF, qX, kU, z8, jO, qab, kj, qDA, yI, qI, kE, qJ, zj, qN, qd, kS, qG, qZ, qa, qc, Nat.reduceEqDiff, qH, reduceCtorEq, qi, kf, kA, qDC, kq, hk1, decide_false, ql, qS, kx, qDM, kh, ↓reduceIte, qb, ke, ja, jB, qq, kQ, kI, jC, qDv, qDu, qDw, q9, qM, kT, kW, n1, decide_true, qD, ku, qDt, qDL, kr, qY, qar, qA, qL, qQ, kC, qO, qj, qT, kX, qm, qB, qU, qC, ji, qDS, kD, qDx, kn, hs]
theorem qt8 : ∀ (k : Nat), k ≤ 100 → ∀ {x : D}, TyA k x → ∀ {H : List Obj}, qs pgK 184 [.d x, .d (.i .i64 (k : Int))] H = some ⟨false, true, .d (.b (stD k x)), H, H.length⟩
  | 0, _, x, hx, H => st0 hx
  | k + 1, hk, x, hx, H => qwA (by omega) (fun y hy H => qt8 k (by omega) hy) hx
end W

set_option linter.unusedSimpArgs false
set_option linter.unusedVariables false
namespace W
open Go (IntKind BinOp UnOp)
set_option maxRecDepth 20000
abbrev deep (H : List Obj) (k : Nat) : List Obj := H ++ [.cells [.d (.i .i64 ((k + 1 : Nat) : Int))]]
theorem qjc {H : List Obj} {k : Nat} : (deep H k)[H.length]? = some (.cells [.d (.i .i64 ((k + 1 : Nat) : Int))]) := by simp [deep]
theorem qA9 {k : Nat} (hk : k < 100) (ih : ∀ y, TyA k y → ∀ H : List Obj, qs pgK 127 [.d y, .d (.i .i64 (k : Int))] H = some ⟨false, true, .d (.b (stD k y)), H, H.length⟩) {y : D} (hy : TyA k y) {H : List Obj} :
    qs pgK 232 [.d y, .ptr H.length 0] (deep H k) = some ⟨false, true, .d (.b (!stD k y)), deep H k, (deep H k).length⟩ := by
  have hc := ih _ hy (deep H k)
  have hs : wr .i64 (((k + 1 : Nat) : Int) - 1) = (k : Int) := by rw [qby (by omega) (by omega)]; omega
  have ha := qjc (H := H) (k := k)
  obtain ⟨a, b, c, o, rfl, o1, o2, o3, o4⟩ := hy.cells
  generalize deep H k = G at hc ha ⊢
  rw [qA8]
  simp only [bdyK, qbE, k_, o_, s_, h_, g_, c_, u_, m_, qn, qDz, Nat.reduceAdd, qu, qw, qx, qk, zy, kL, qE, qy, qz, ki, qDy, qDF, qX, kU, o1, o2, o3, o4, kj, qDA, yI, qI, kE, qJ, zj, zG, qN, qd, kS, qG, qZ, qa, qc, qq, Nat.reduceEqDiff, qH, ke, kI, qDE, qDD, qDx, jU, qDQ, qDN, qDT, q9, kY, ju, za, kz, kJ, ql, reduceCtorEq, kp, kv, ha, zk, qDu, qDw, qi, kf, kA, qDC, qcT, hs, qt, qf, qC, qh, qV, hc, qr, qe, qg, yW, kK, zW, qQ, qO, qj, qT, kX, qm, qB, qU, ji, qDS, kD, kn]
def qB3 (b : Bool) (G : List Obj) (r : Option (Ex × St)) : Prop :=
  match b with
  | true => ∃ e, r = some (.exit 0, ⟨e, G, G.length⟩)
  | false => ∃ e j, r = some (.ret, ⟨e, G, G.length⟩) ∧ get 4 e = .d (.i .i64 (Int.ofNat j))
theorem qrf {G : List Obj} {p : Nat} {q : D → Bool} {l : List D} (hl : l.length ≤ 1000) (hz : ∀ y ∈ l, ∃ a b c o, y = .agg [a, b, c, o] ∧ D.one a = true ∧ D.one b = true ∧ D.one c = true ∧ D.one o = true)
    (hq : ∀ y ∈ l, qs pgK 232 [.d y, .ptr p 0] G = some ⟨false, true, .d (.b (!q y)), G, G.length⟩) :
    ∀ (m i : Nat) (e0 : Env), i + m = l.length → get 0 e0 = .d (.sl l) → get 1 e0 = .fn 232 [] [.ptr p 0] → get 7 e0 = .d (.i .i64 (l.length : Int)) → get 8 e0 = .d (.i .i64 (i : Int)) → qB3 ((l.drop i).all q) G (exL pgK f_slices_IndexFunc___api_Type_api_Type__L0 ⟨e0, G, G.length⟩)
  | 0, i, e0, hi, g0, g1, g7, g8 => by
    have h1 : ((i : Int) < (l.length : Int)) = False := by rw [eq_iff_iff]; simp; omega
    have hd : l.drop i = [] := List.drop_eq_nil_of_le (by omega)
    rw [hd]
    simp only [f_slices_IndexFunc___api_Type_api_Type__L0, jy]
    simp only [List.all_nil, f_slices_IndexFunc___api_Type_api_Type__B0, k_, e_, m_, x_, o_, s_, g_, qo, g0, kc, g1, qcd, g7, g8, qp, qw, qx, qk, qi, kf, qDJ, kL, reduceCtorEq, qH, Nat.reduceEqDiff, qE, qy, kq, h1, decide_false, ql, qI, qZ, qa, qc, qA, qL, qDt, ↓reduceIte, j7, zY]
    exact ⟨_, rfl⟩
  | m + 1, i, e0, hi, g0, g1, g7, g8 => by
    have h1 : ((i : Int) < (l.length : Int)) = True := by rw [eq_iff_iff]; simp; omega
    have hlt : i < l.length := by omega
    have hy : l[i]? = some l[i] := List.getElem?_eq_getElem hlt
    have hmem : l[i] ∈ l := List.getElem_mem hlt
    obtain ⟨a, b, c, o, ha, o1, o2, o3, o4⟩ := hz _ hmem
    have hix : ∀ {kk : IntKind}, iaV (.d (.sl l)) (.d (.i kk (i : Int))) 4 none = some (.cp (.agg [a, b, c, o])) := by
      intro kk; rw [← ha]; exact qqr hy (by rw [ha]; rfl)
    have hc := hq _ hmem
    have he := fun e0 => qrf (q := q) hl hz hq m (i + 1) e0 (by omega)
    have hd : l.drop i = l[i] :: l.drop (i + 1) := List.drop_eq_getElem_cons hlt
    rw [hd]
    have hp : wr .i64 ((i : Int) + 1) = ((i + 1 : Nat) : Int) := by rw [qby (by omega) (by omega)]; omega
    rw [ha] at hc
    simp only [f_slices_IndexFunc___api_Type_api_Type__L0] at he
    simp only [f_slices_IndexFunc___api_Type_api_Type__L0]
    rw [jy]
    generalize C.loop [0, 1, 7, 8] f_slices_IndexFunc___api_Type_api_Type__B0 = L at he ⊢
    cases hb : q l[i] with
    | true =>
      rw [ha] at hb
      rw [hb] at hc
      simp only [List.all_cons, ha, hb, Bool.true_and]
      simp only [f_slices_IndexFunc___api_Type_api_Type__B0, k_, e_, m_, x_, o_, s_, g_, qo, g0, kc, g1, qcd, g7, g8, qp, qw, qx, qk, qi, kf, qDJ, kL, reduceCtorEq, qH, Nat.reduceEqDiff, qE, qy, kq, h1, decide_true, ql, qI, qZ, qa, qc, qA, qL, ↓reduceIte, qP, qF, qd, qz, qdn, qeG, qW, hix, yg, qq, zO, qDE, qDD, qDz, Nat.reduceAdd, jh, qt, qfd, qDy, qDF, List.nil_append, List.cons_append, qf, qC, kN, qh, qDA, qeH, hc, qDL, qr, qe, qg, qDx, yW, qDt, kg, kA, qDC, kS, zJ, hp]
      exact he _ rfl rfl rfl rfl
    | false =>
      rw [ha] at hb
      rw [hb] at hc
      simp only [List.all_cons, ha, hb, Bool.false_and]
      simp only [f_slices_IndexFunc___api_Type_api_Type__B0, k_, e_, m_, x_, o_, s_, g_, qo, g0, kc, g1, qcd, g7, g8, qp, qw, qx, qk, qi, kf, qDJ, kL, reduceCtorEq, qH, Nat.reduceEqDiff, qE, qy, kq, h1, decide_true, ql, qI, qZ, qa, qc, qA, qL, ↓reduceIte, qP, qF, qd, qz, qdn, qeG, qW, hix, yg, qq, zO, qDE, qDD, qDz, Nat.reduceAdd, jh, qt, qfd, qDy, qDF, List.nil_append, List.cons_append, qf, qC, kN, qh, qDA, qeH, hc, qDM, qr, qe, qg, qDx, yW, qQ, ze, kC]
      exact ⟨_, i, rfl, rfl⟩
theorem qCW {G : List Obj} {p : Nat} {q : D → Bool} {l : List D} (hl : l.length ≤ 1000) (hz : ∀ y ∈ l, ∃ a b c o, y = .agg [a, b, c, o] ∧ D.one a = true ∧ D.one b = true ∧ D.one c = true ∧ D.one o = true)
    (hq : ∀ y ∈ l, qs pgK 232 [.d y, .ptr p 0] G = some ⟨false, true, .d (.b (!q y)), G, G.length⟩) (hp : p < G.length) : qs pgK 231 [.d (.sl l), .fn 232 [] [.ptr p 0]] G = some ⟨false, true, .d (.b (!l.all q)), G, G.length⟩ := by
  have hloop := fun e0 => qrf (G := G) (p := p) (q := q) hl hz hq l.length 0 e0 (by omega)
  simp only [qDQ] at hloop
  have hpl : (p + 1 ≤ G.length) = True := eq_true hp
  rw [qt5]
  simp only [bdyK, f_slices_ContainsFunc___api_Type_api_Type_, k_, o_, v_, c_, g_, m_, qn, qDz, Nat.reduceAdd, qu, qw, qx, qk, qd, kS, qG, qI, qZ, qa, qc, jW, reduceCtorEq, qH, qE, zn, kG, Nat.reduceEqDiff, qgx, qeG, qt, qDy, qDF, qf, qC, yF, yC, qc1, qhz, qDA, qh, qV, qvK, f_slices_IndexFunc___api_Type_api_Type_, i_, n_, kL, qy, qz, ko, jR, ql, qF]
  generalize hr : exL pgK f_slices_IndexFunc___api_Type_api_Type__L0 _ = r
  have hL : qB3 (l.all q) G r := by rw [← hr]; exact hloop _ rfl rfl rfl rfl
  clear hr
  cases hb : l.all q with
  | true =>
    rw [hb] at hL
    obtain ⟨e, rfl⟩ := hL
    simp only [zC, ↓reduceIte, qp, f_slices_IndexFunc___api_Type_api_Type__R1, k_, o_, i_, Int.reduceNeg, qc, qw, qx, qk, qd, kS, qG, qI, qZ, qa, qQ, qO, qj, qT, qE, kX, qm, qB, qU, qC, ji, qDS, kD, qDx, kn, qr, qe, kG, qg, yW, qi, kf, kA, qDC, kL, qy, jz, Int.reduceLE, decide_false, ql, qz, qDL]
  | false =>
    rw [hb] at hL
    obtain ⟨e, j, rfl, hg⟩ := hL
    have hj : ((0 : Int) ≤ Int.ofNat j) = True := eq_true (Int.natCast_nonneg j)
    simp only [ze, f_slices_IndexFunc___api_Type_api_Type__R1, k_, o_, i_, Int.reduceNeg, kC, qO, qj, qT, hg, kX, qm, qB, qU, qC, ji, qDS, kD, qDx, kn, qr, qe, kG, qg, yW, qI, qZ, qk, qi, kf, kA, qDC, kL, qE, qy, kS, jz, hj, decide_true, ql, qd, qz, qa, qc, qQ, qDM]
end W

set_option linter.unusedSimpArgs false
set_option linter.unusedVariables false
namespace W
open Go (IntKind BinOp UnOp)
set_option maxRecDepth 20000
theorem qxL {k : Nat} (hk : k < 100) (ih : ∀ y, TyA k y → ∀ H : List Obj, qs pgK 127 [.d y, .d (.i .i64 (k : Int))] H = some ⟨false, true, .d (.b (stD k y)), H, H.length⟩) {x : D} (hx : TyA (k + 1) x) {H : List Obj} :
    qs pgK 127 [.d x, .d (.i .i64 ((k + 1 : Nat) : Int))] H = some ⟨false, true, .d (.b (stD (k + 1) x)), H, H.length⟩ := by
  have hk1 : ((0 : Int) < ((k + 1 : Nat) : Int)) = True := eq_true (by omega)
  have hG : ∀ l : List D, qs pgK 231 [.d .nil, .fn 232 [] [.ptr H.length 0]] (deep H k) = some ⟨false, true, .d (.b false), deep H k, (deep H k).length⟩ := by
    intro l
    have hpl : (H.length + 1 ≤ (deep H k).length) = True := eq_true (by simp)
    generalize deep H k = G at hpl ⊢
    rw [qt5]
    simp only [bdyK, f_slices_ContainsFunc___api_Type_api_Type_, k_, o_, v_, c_, g_, m_, qn, qDz, Nat.reduceAdd, qu, qw, qx, qk, qd, kS, qG, qI, qZ, qa, qc, jW, reduceCtorEq, qH, qE, zn, kG, Nat.reduceEqDiff, qgx, qeG, qt, qDy, qDF, qf, qC, yF, yC, qc1, qhz, qDA, qh, qV, qvK, f_slices_IndexFunc___api_Type_api_Type_, i_, n_, f_slices_IndexFunc___api_Type_api_Type__L0, f_slices_IndexFunc___api_Type_api_Type__B0, e_, x_, s_, f_slices_IndexFunc___api_Type_api_Type__R1, Int.reduceNeg, kL, qy, qz, ko, ye, ql, qF, jy, qo, kc, qcd, qp, qi, kf, qDJ, kq, Int.reduceLT, decide_false, qA, qL, qDt, ↓reduceIte, j7, zY, zC, qQ, qO, qj, qT, kX, qm, qB, qU, ji, qDS, kD, qDx, kn, qr, qe, qg, yW, kA, qDC, jz, Int.reduceLE]
  have hlen : (deep H k).length = H.length + 1 := by simp [deep]
  obtain ⟨f, n, nm, h⟩ := hx
  by_cases hn : nm.length ≤ 65
  · have n1 : ((nm.length : Int) ≤ 65) = True := by rw [eq_iff_iff]; simp; omega
    rcases h with rfl | ⟨l, rfl, hl, hm⟩
    · have hs : stD (k + 1) (.agg [.i .i64 f, .i .i64 n, .s nm, .nil]) = true := by simp [stD, hn]
      have ha := qjc (H := H) (k := k)
      have hg := hG []
      rw [hlen] at hg
      simp only [deep] at ha hg
      rw [qmQ]
      simp only [bdyK, yG, k_, o_, h_, g_, m_, q_, l_, qn, qDz, Nat.reduceAdd, qu, qw, qx, qk, zy, kL, qE, qy, qz, ki, qDy, qDF, qX, kU, z8, jO, yD, kj, qDA, yI, qI, kE, qJ, zj, qN, Nat.reduceEqDiff, qH, reduceCtorEq, kP, qgg, zw, qd, kS, qG, qZ, qa, qc, qq, kp, kv, ha, zk, qDu, qDw, q9, ql, qi, kf, kA, qDC, kW, hk1, decide_true, qS, ky, kh, ↓reduceIte, qb, ke, ja, jB, kQ, kI, jC, qDv, qt, qf, qC, qh, qV, qpx, qay, List.length_append, qDE, qDD, qM, kT, jS, n1, qQ, qO, qj, qT, kX, qm, qB, qU, ji, qDS, kD, qDx, kn, qr, qe, qg, Nat.le_add_right, yW, qD, ku, ko, ye, qts, qbn, Int.reduceLE, qeC, yC, qc1, qhz, qgv, qeG, qdn, yF, hg, kK, zW, qDM, hs]
    · by_cases h2 : l.length ≤ 1000
      · have l1 : ((l.length : Int) ≤ 1000) = True := by rw [eq_iff_iff]; simp; omega
        have hs : stD (k + 1) (.agg [.i .i64 f, .i .i64 n, .s nm, .sl l]) = l.all (stD k) := by simp [stD, hn, h2]
        have ha := qjc (H := H) (k := k)
        have hg := qCW (G := deep H k) (p := H.length) (q := stD k) h2 (fun y hy => (hm y hy).cells) (fun y hy => qA9 hk ih (hm y hy)) (by simp [deep])
        rw [hlen] at hg
        simp only [deep] at ha hg
        rw [qmQ, hs]
        simp only [bdyK, yG, k_, o_, h_, g_, m_, q_, l_, qn, qDz, Nat.reduceAdd, qu, qw, qx, qk, zy, kL, qE, qy, qz, ki, qDy, qDF, qX, kU, z8, jO, qab, kj, qDA, yI, qI, kE, qJ, zj, qN, Nat.reduceEqDiff, qH, reduceCtorEq, kP, qgg, zw, qd, kS, qG, qZ, qa, qc, qq, kp, kv, ha, zk, qDu, qDw, q9, ql, qi, kf, kA, qDC, kW, hk1, decide_true, qS, ky, kh, ↓reduceIte, qb, ke, ja, jB, kQ, kI, jC, qDv, qt, qf, qC, qh, qV, qpx, qay, List.length_append, qDE, qDD, qM, kT, jS, n1, qQ, qO, qj, qT, kX, qm, qB, qU, ji, qDS, kD, qDx, kn, qr, qe, qg, Nat.le_add_right, yW, qD, ku, ko, jR, qts, qbn, l1, qeC, yC, qc1, qhz, qgv, qeG, qdn, yF, hg, kK, zW, Bool.not_not]
      · have l1 : ((l.length : Int) ≤ 1000) = False := by rw [eq_iff_iff]; simp; omega
        have hs : stD (k + 1) (.agg [.i .i64 f, .i .i64 n, .s nm, .sl l]) = false := by simp [stD, h2]
        have ha := qjc (H := H) (k := k)
        simp only [deep] at ha
        rw [qmQ, hs]
        simp only [bdyK, yG, k_, o_, h_, g_, m_, q_, l_, qn, qDz, Nat.reduceAdd, qu, qw, qx, qk, zy, kL, qE, qy, qz, ki, qDy, qDF, qX, kU, z8, jO, qab, kj, qDA, yI, qI, kE, qJ, zj, qN, Nat.reduceEqDiff, qH, reduceCtorEq, kP, qgg, zw, qd, kS, qG, qZ, qa, qc, qq, kp, kv, ha, zk, qDu, qDw, q9, ql, qi, kf, kA, qDC, kW, hk1, decide_true, qS, ky, kh, ↓reduceIte, qb, ke, ja, jB, kQ, kI, jC, qDv, qt, qf, qC, qh, qV, qpx, qay, List.length_append, qDE, qDD, qM, kT, jS, n1, qQ, qO, qj, qT, kX, qm, qB, qU, ji, qDS, kD, qDx, kn, qr, qe, qg, Nat.le_add_right, yW, qD, ku, ko, jR, qts, qbn, l1, decide_false, qDt, kr, qY, z7]
  · have n1 : ((nm.length : Int) ≤ 65) = False := by rw [eq_iff_iff]; simp; omega
    have ha := qjc (H := H) (k := k)
    simp only [deep] at ha
    rcases h with rfl | ⟨l, rfl, hl, hm⟩
    · have hs : stD (k + 1) (.agg [.i .i64 f, .i .i64 n, .s nm, .nil]) = false := by simp [stD, hn]
      rw [qmQ, hs]
      simp only [bdyK, yG, k_, o_, h_, g_, m_, q_, l_, qn, qDz, Nat.reduceAdd, qu, qw, qx, qk, zy, kL, qE, qy, qz, ki, qDy, qDF, qX, kU, z8, jO, yD, kj, qDA, yI, qI, kE, qJ, zj, qN, Nat.reduceEqDiff, qH, reduceCtorEq, kP, qgg, zw, qd, kS, qG, qZ, qa, qc, qq, kp, kv, ha, zk, qDu, qDw, q9, ql, qi, kf, kA, qDC, kW, hk1, decide_true, qS, ky, kh, ↓reduceIte, qb, ke, ja, jB, kQ, kI, jC, qDv, qt, qf, qC, qh, qV, qpx, qay, List.length_append, qDE, qDD, qM, kT, jS, n1, decide_false, qQ, qO, qj, qT, kX, qm, qB, qU, ji, qDS, kD, qDx, kn, qr, qe, qg, Nat.le_add_right, yW, qD, ku, qDt, kr, qY, z7]
    · have hs : stD (k + 1) (.agg [.i .i64 f, .i .i64 n, .s nm, .sl l]) = false := by simp [stD, hn]
      rw [qmQ, hs]
      simp only [bdyK, yG, k_, o_, h_, g_, m_, q_, l_, qn, qDz, Nat.reduceAdd, qu, qw, qx, qk, zy, kL, qE, qy, qz, ki, qDy, qDF, qX, kU, z8, jO, qab, kj, qDA, yI, qI, kE, qJ, zj, qN, Nat.reduceEqDiff, qH, reduceCtorEq, kP, qgg, zw, qd, kS, qG, qZ, qa, qc, qq, kp, kv, ha, zk, qDu, qDw, q9, ql, qi, kf, kA, qDC, kW, hk1, decide_true, qS, ky, kh, ↓reduceIte, qb, ke, ja, jB, kQ, kI, jC, qDv, qt, qf, qC, qh, qV, qpx, qay, List.length_append, qDE, qDD, qM, kT, jS, n1, decide_false, qQ, qO, qj, qT, kX, qm, qB, qU, ji, qDS, kD, qDx, kn, qr, qe, qg, Nat.le_add_right, yW, qD, ku, qDt, kr, qY, z7]
theorem qvG : ∀ (k : Nat), k ≤ 100 → ∀ {x : D}, TyA k x → ∀ {H : List Obj}, qs pgK 127 [.d x, .d (.i .i64 (k : Int))] H = some ⟨false, true, .d (.b (stD k x)), H, H.length⟩
  | 0, _, x, hx, H => tt0 hx
  | k + 1, hk, x, hx, H => qxL (by omega) (fun y hy H => qvG k (by omega) hy) hx
end W

set_option linter.unusedSimpArgs false
set_option linter.unusedVariables false
namespace W
open Go (IntKind BinOp UnOp)
set_option maxRecDepth 20000
structure Nm (a : List Nat) : Prop where
  small : ∀ c ∈ a, c < 256
  len : a.length ≤ 65
theorem Nm.l1 {a : List Nat} (h : Nm a) : ((a.length : Int) ≤ 65) = True := by rw [eq_iff_iff]; have := h.len; simp; omega
theorem Nm.l2 {a : List Nat} (h : Nm a) : (65 < (a.length : Int)) = False := by rw [eq_iff_iff]; have := h.len; simp; omega
theorem Nm.i14 {a : List Nat} (h : Nm a) {b : Bool} (hb : idB a = b) (H : List Obj) : qs pgK 14 [.d (.s a)] H = some ⟨false, true, .d (.b b), H, H.length⟩ := by rw [qC9 h.small (by have := h.len; omega), hb]
theorem Nm.i15 {a : List Nat} (h : Nm a) {b : Bool} (hb : idB a = b) (H : List Obj) : qs pgK 15 [.d (.s a)] H = some ⟨false, true, .d (.b b), H, H.length⟩ := by rw [qDi h.small (by have := h.len; omega), hb]
theorem nmM : Nm [77] := ⟨by simp, by simp⟩
def bad (x : Int) : Bool := match x with
  | .ofNat 32 => true
  | .ofNat 33 => true
  | .ofNat 40 => true
  | _ => false
def qdM (n : Nat) (m : D) : Prop := ∃ lo, qs pgK n [.d m, .d .nil] [] = some ⟨false, true, .d (.i .i64 0), [], lo⟩
def Bad (n : Nat) (m : D) : Prop := ∃ x lo, qs pgK n [.d m, .d .nil] [] = some ⟨false, true, .d (.i .i64 x), [], lo⟩ ∧ bad x = true
end W

set_option linter.unusedSimpArgs false
set_option linter.unusedVariables false
namespace W
open Go (IntKind BinOp UnOp)
set_option maxRecDepth 20000
def lty (f n : Int) (nm : List Nat) (o : D) : D := .agg [.i .i64 f, .i .i64 n, .s nm, o]
def lmod (f n : Int) (nm : List Nat) (o : D) (i : Int) (s : List Nat) : D := .agg [.s [77], .nil, .sl [.agg [.s [99], .b false, .i .i64 0, .i .i64 f, .i .i64 n, .s nm, o, .i .i32 i, .s s, .nil]], .nil, .nil, .nil, .nil, .nil]
theorem l22 {f n i : Int} {nm s : List Nat} {o : D} (ho : D.one o = true) (hT : TyA 8 (lty f n nm o)) {H : List Obj} : qs pgK 22 [.d (lmod f n nm o i s)] H = some ⟨false, true, .d (.b (decide (s.length ≤ 120) && stD 8 (lty f n nm o))), H, H.length⟩ := by
  have h8 := fun H => qvG 8 (by omega) hT (H := H)
  have e8 : (((8 : Nat) : Int)) = 8 := rfl
  rw [e8] at h8
  generalize stD 8 (lty f n nm o) = b at h8 ⊢
  by_cases hs : s.length ≤ 120
  · have s1 : ((s.length : Int) ≤ 120) = True := eq_true (by omega)
    cases b with
    | true =>
      rw [qyV]
      simp only [lty] at h8
      simp only [bdyK, qcS, k_, o_, a_, d_, n_, c_, v_, q_, l_, m_, u_, i_, lmod, qn, qDz, qu, qw, qx, qk, zy, kL, qE, qy, qz, ki, qDy, qDF, qX, kU, jO, yD, qab, kj, qDA, yI, qI, kE, qJ, zj, qN, qd, kS, qG, qZ, qa, qc, qb, Nat.reduceEqDiff, qH, ke, ja, ql, jB, qq, kQ, kI, jC, qDv, qDu, qDw, q9, ko, ye, qt, qf, qC, qh, qV, qts, qbn, g_, reduceCtorEq, qi, kf, kA, qDC, jS, Int.reduceLE, decide_true, qQ, qO, qj, qT, kX, qm, qB, qU, ji, qDS, kD, qDx, kn, qr, qe, qg, yW, jW, zn, kG, qS, ky, kh, ↓reduceIte, jR, qDE, qDD, qDW, qD, ku, kK, zW, qDL, kx, qDM, qDU, qpx, qay, qM, kT, qDt, qzo, qaU, qhT, yF, yC, qwc, zg, Nat.reduceAdd, qgx, qeG, qvs, zp, jJ, jF, e_, x_, s_, jH, Int.reduceNeg, qF, jy, qo, kc, qcd, qp, qDJ, kq, Int.reduceLT, decide_false, qA, qL, j7, zY, zC, jz, qcc, qAx, qdk, qeo, qes, z_, qeq, qen, h_, qel, qea, kW, qyW, qaQ, qct, qcu, qcq, qP, qAA, zm, qvi, zH, jZ, j1, j2, qzh, kR, quY, kV, jt, jr, jq, qdn, qW, qfo, qc9, Int.toNat_zero, qgV, jE, qfH, cond_true, yg, zO, jh, qfd, List.nil_append, List.append_nil, qeH, qAn, qbw, qgD, z8, ho, jU, qDX, qDQ, qDN, qDT, kY, ju, za, kz, kJ, qzs, qbu, qvz, qcL, qdF, qdC, qdL, zJ, Int.reduceAdd, qnG, quN, qaN, s1, Nat.reduceLeDiff, h8, qCN, zQ, qBv, jb, qae, qaq, qag, kg, qzv, zf, qvh, zo, jL, jI, jG, qC8, zR, qBn, jd, qas, qau, qan, hs]
    | false =>
      rw [qyV]
      simp only [lty] at h8
      simp only [bdyK, qcS, k_, o_, a_, d_, n_, c_, v_, q_, l_, m_, u_, i_, lmod, qn, qDz, qu, qw, qx, qk, zy, kL, qE, qy, qz, ki, qDy, qDF, qX, kU, jO, yD, qab, kj, qDA, yI, qI, kE, qJ, zj, qN, qd, kS, qG, qZ, qa, qc, qb, Nat.reduceEqDiff, qH, ke, ja, ql, jB, qq, kQ, kI, jC, qDv, qDu, qDw, q9, ko, ye, qt, qf, qC, qh, qV, qts, qbn, g_, reduceCtorEq, qi, kf, kA, qDC, jS, Int.reduceLE, decide_true, qQ, qO, qj, qT, kX, qm, qB, qU, ji, qDS, kD, qDx, kn, qr, qe, qg, yW, jW, zn, kG, qS, ky, kh, ↓reduceIte, jR, qDE, qDD, qDW, qD, ku, kK, zW, qDL, kx, qDM, qDU, qpx, qay, qM, kT, qDt, qzo, qaU, qhT, yF, yC, qwc, zg, Nat.reduceAdd, qgx, qeG, qvs, zp, jJ, jF, e_, x_, s_, jH, Int.reduceNeg, qF, jy, qo, kc, qcd, qp, qDJ, kq, Int.reduceLT, decide_false, qA, qL, j7, zY, zC, jz, qcc, qAx, qdk, qeo, qes, z_, qeq, qen, h_, qel, qea, kW, qyW, qaQ, qct, qcu, qcq, qP, qAA, zm, qvi, zH, jZ, j1, j2, qzh, kR, quY, kV, jt, jr, jq, qdn, qW, qfo, qc9, Int.toNat_zero, qgV, jE, qfH, cond_true, yg, zO, jh, qfd, List.nil_append, List.append_nil, qeH, qAn, qbw, qgD, z8, ho, jU, qDX, qDQ, qDN, qDT, kY, ju, za, kz, kJ, qzs, qbu, qvz, qcL, qdF, qdC, qdL, zJ, Int.reduceAdd, qnG, quN, qaN, s1, Nat.reduceLeDiff, h8, kr, qY, z7, ze, kC, qzv, zf, qvh, zo, jL, jI, jG, hs, Bool.and_false]
  · have s1 : ((s.length : Int) ≤ 120) = False := eq_false (by omega)
    rw [qyV]
    simp only [bdyK, qcS, k_, o_, a_, d_, n_, c_, v_, q_, l_, m_, u_, i_, lmod, qn, qDz, qu, qw, qx, qk, zy, kL, qE, qy, qz, ki, qDy, qDF, qX, kU, jO, yD, qab, kj, qDA, yI, qI, kE, qJ, zj, qN, qd, kS, qG, qZ, qa, qc, qb, Nat.reduceEqDiff, qH, ke, ja, ql, jB, qq, kQ, kI, jC, qDv, qDu, qDw, q9, ko, ye, qt, qf, qC, qh, qV, qts, qbn, g_, reduceCtorEq, qi, kf, kA, qDC, jS, Int.reduceLE, decide_true, qQ, qO, qj, qT, kX, qm, qB, qU, ji, qDS, kD, qDx, kn, qr, qe, qg, yW, jW, zn, kG, qS, ky, kh, ↓reduceIte, jR, qDE, qDD, qDW, qD, ku, kK, zW, qDL, kx, qDM, qDU, qpx, qay, qM, kT, qDt, qzo, qaU, qhT, yF, yC, qwc, zg, Nat.reduceAdd, qgx, qeG, qvs, zp, jJ, jF, e_, x_, s_, jH, Int.reduceNeg, qF, jy, qo, kc, qcd, qp, qDJ, kq, Int.reduceLT, decide_false, qA, qL, j7, zY, zC, jz, qcc, qAx, qdk, qeo, qes, z_, qeq, qen, h_, qel, qea, kW, qyW, qaQ, qct, qcu, qcq, qP, qAA, zm, qvi, zH, jZ, j1, j2, qzh, kR, quY, kV, jt, jr, jq, qdn, qW, qfo, qc9, Int.toNat_zero, qgV, jE, qfH, cond_true, yg, zO, jh, qfd, List.nil_append, List.append_nil, qeH, qAn, qbw, qgD, z8, ho, jU, qDX, qDQ, qDN, qDT, kY, ju, za, kz, kJ, qzs, qbu, qvz, qcL, qdF, qdC, qdL, zJ, Int.reduceAdd, qnG, quN, qaN, s1, kr, qY, z7, ze, kC, qzv, zf, qvh, zo, jL, jI, jG, hs, Bool.false_and]
theorem l37 {f n i : Int} {nm s : List Nat} {o : D} (ho : D.one o = true) (hT : TyA 8 (lty f n nm o)) {H : List Obj} : qs pgK 37 [.d (lmod f n nm o i s)] H = some ⟨false, true, .d (.b (decide (s.length ≤ 120) && stD 8 (lty f n nm o))), H, H.length⟩ := by
  have h8 := fun H => qt8 8 (by omega) hT (H := H)
  have e8 : (((8 : Nat) : Int)) = 8 := rfl
  rw [e8] at h8
  generalize stD 8 (lty f n nm o) = b at h8 ⊢
  by_cases hs : s.length ≤ 120
  · have s1 : ((120 : Int) < (s.length : Int)) = False := eq_false (by omega)
    cases b with
    | true =>
      rw [qyP]
      simp only [lty] at h8
      simp only [bdyK, y1, k_, o_, a_, d_, g_, m_, q_, l_, i_, qbQ, qbN, n_, e_, x_, h_, qbL, qbP, qb0, s_, qbY, qbJ, qbR, qbW, qbM, qbU, c_, u_, qbX, lmod, qn, qDz, qu, qw, qx, qk, zy, kL, qE, qy, qz, ki, qDy, qDF, qX, kU, jO, yD, qab, kj, qDA, yI, qI, kE, qJ, zj, qN, qd, kS, qG, qZ, qa, qc, qb, Nat.reduceEqDiff, qH, ke, ja, qDU, ql, jB, qq, kQ, kI, jC, qDu, qDw, q9, qM, kT, qDE, qDD, qDW, qi, kf, kA, qDC, kW, Int.reduceLT, decide_false, qS, kx, qDM, kh, ↓reduceIte, qDv, ko, ye, qt, qf, qC, qh, qV, qs6, yE, reduceCtorEq, jS, Int.reduceLE, decide_true, qQ, qO, qj, qT, kX, qm, qB, qU, ji, qDS, kD, qDx, kn, qr, qe, qg, yW, kK, zW, qDL, qD, ku, qDt, jR, qAj, yA, qaC, qaE, qaD, qA, qL, qP, qF, jy, qo, kc, qp, qDJ, kq, j7, zY, zC, qAJ, qap, qb6, qb8, qch, qcb, qce, qca, zK, kC, qAC, yu, qaF, qaK, qaL, qaB, qaA, qaI, zx, qW, qfo, qc9, Int.toNat_zero, qgV, jE, Nat.reduceAdd, qfH, cond_true, yg, zO, qfr, qks, yH, qjm, qDX, qDQ, qDN, qDT, jh, kF, List.reduceReplicate, Nat.reduceLT, jp, qDK, jN, yl, qcU, jT, z8, ho, ym, yT, yj, yY, yh, qzN, yf, qad, qam, qac, qvk, y2, qbV, qbZ, qbT, zJ, Int.reduceAdd, Int.reduceNeg, qnG, qu4, yz, qaH, qaJ, qaG, s1, Nat.reduceLeDiff, jU, kY, ju, za, kz, kJ, h8, kg, hs]
    | false =>
      rw [qyP]
      simp only [lty] at h8
      simp only [bdyK, y1, k_, o_, a_, d_, g_, m_, q_, l_, i_, qbQ, qbN, n_, e_, x_, h_, qbL, qbP, qb0, s_, qbY, qbJ, qbR, qbW, qbM, qbU, c_, u_, qbX, lmod, qn, qDz, qu, qw, qx, qk, zy, kL, qE, qy, qz, ki, qDy, qDF, qX, kU, jO, yD, qab, kj, qDA, yI, qI, kE, qJ, zj, qN, qd, kS, qG, qZ, qa, qc, qb, Nat.reduceEqDiff, qH, ke, ja, qDU, ql, jB, qq, kQ, kI, jC, qDu, qDw, q9, qM, kT, qDE, qDD, qDW, qi, kf, kA, qDC, kW, Int.reduceLT, decide_false, qS, kx, qDM, kh, ↓reduceIte, qDv, ko, ye, qt, qf, qC, qh, qV, qs6, yE, reduceCtorEq, jS, Int.reduceLE, decide_true, qQ, qO, qj, qT, kX, qm, qB, qU, ji, qDS, kD, qDx, kn, qr, qe, qg, yW, kK, zW, qDL, qD, ku, qDt, jR, qAj, yA, qaC, qaE, qaD, qA, qL, qP, qF, jy, qo, kc, qp, qDJ, kq, j7, zY, zC, qAJ, qap, qb6, qb8, qch, qcb, qce, qca, zK, kC, qAC, yu, qaF, qaK, qaL, qaB, qaA, qaI, zx, qW, qfo, qc9, Int.toNat_zero, qgV, jE, Nat.reduceAdd, qfH, cond_true, yg, zO, qfr, qks, yH, qjm, qDX, qDQ, qDN, qDT, jh, kF, List.reduceReplicate, Nat.reduceLT, jp, qDK, jN, yl, qcU, jT, z8, ho, ym, yT, yj, yY, yh, qzN, yf, qad, qam, qac, qvk, y2, qbV, qbZ, qbT, zJ, Int.reduceAdd, Int.reduceNeg, qnG, qu4, yz, qaH, qaJ, qaG, s1, Nat.reduceLeDiff, jU, kY, ju, za, kz, kJ, h8, ze, hs, Bool.and_false]
  · have s1 : ((120 : Int) < (s.length : Int)) = True := eq_true (by omega)
    rw [qyP]
    simp only [bdyK, y1, k_, o_, a_, d_, g_, m_, q_, l_, i_, qbQ, qbN, n_, e_, x_, h_, qbL, qbP, qb0, s_, qbY, qbJ, qbR, qbW, qbM, qbU, c_, u_, qbX, lmod, qn, qDz, qu, qw, qx, qk, zy, kL, qE, qy, qz, ki, qDy, qDF, qX, kU, jO, yD, qab, kj, qDA, yI, qI, kE, qJ, zj, qN, qd, kS, qG, qZ, qa, qc, qb, Nat.reduceEqDiff, qH, ke, ja, qDU, ql, jB, qq, kQ, kI, jC, qDu, qDw, q9, qM, kT, qDE, qDD, qDW, qi, kf, kA, qDC, kW, Int.reduceLT, decide_false, qS, kx, qDM, kh, ↓reduceIte, qDv, ko, ye, qt, qf, qC, qh, qV, qs6, yE, reduceCtorEq, jS, Int.reduceLE, decide_true, qQ, qO, qj, qT, kX, qm, qB, qU, ji, qDS, kD, qDx, kn, qr, qe, qg, yW, kK, zW, qDL, qD, ku, qDt, jR, qAj, yA, qaC, qaE, qaD, qA, qL, qP, qF, jy, qo, kc, qp, qDJ, kq, j7, zY, zC, qAJ, qap, qb6, qb8, qch, qcb, qce, qca, zK, kC, qAC, yu, qaF, qaK, qaL, qaB, qaA, qaI, zx, qW, qfo, qc9, Int.toNat_zero, qgV, jE, Nat.reduceAdd, qfH, cond_true, yg, zO, qfr, qks, yH, qjm, qDX, qDQ, qDN, qDT, jh, kF, List.reduceReplicate, Nat.reduceLT, jp, qDK, jN, yl, qcU, jT, z8, ho, ym, yT, yj, yY, yh, qzN, yf, qad, qam, qac, qvk, y2, qbV, qbZ, qbT, zJ, Int.reduceAdd, Int.reduceNeg, qnG, qu4, yz, qaH, qaJ, qaG, s1, kr, qY, qar, ze, hs, Bool.false_and]
end W

