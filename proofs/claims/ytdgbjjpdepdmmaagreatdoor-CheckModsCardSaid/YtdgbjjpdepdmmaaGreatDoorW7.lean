/-
  A module is looked at beside others: what it imports is there, and exported; both checkers, of every mask, use and import.: part 7 of what the proof rests on (a value semantics for a part of the language, sound against the model; the walks).
-/
import Derived.Lib.Bytealg
import Derived.Shelf.Small.Strs
import Derived.Shelf.Pu.ToError
import Derived.Shelf.Pu.ToErrorRange
import Derived.Test.YtdgbjjpdepdmmaaGreatDoorProg
import Derived.WalkKit
import Derived.ProofKit
import Derived.OpenShut
import Derived.Carry
import Derived.ChangeSame
import Derived.RowKit
import Derived.Lib.LaidTab
import Derived.Test.YtdgbjjpdepdmmaaGreatDoorCards
import Derived.Test.YtdgbjjpdepdmmaaGreatDoorTie
import Derived.Deep.DeepHandedRow
import Derived.Deep.DeepWitnessRowRef
import Derived.Lay
import Derived.Test.YtdgbjjpdepdmmaaGreatDoorW6
set_option linter.unusedSimpArgs false
set_option linter.unusedVariables false
open Bool renaming false_eq_true → qFs, and_eq_true → qFt, cond_eq_ite → qFA, and_self → qFD, or_true → qFE, or_self → qFM, not_true → qFO
open List renaming getElem?_cons_zero → qFu, getElem?_cons_succ → qFy, map_cons → qFz, length_cons → qFF, length_nil → qFG, map_nil → qFI, set_cons_zero → qFJ, set_cons_succ → qFL, take_succ_cons → qFP, drop_zero → qFQ
open Option renaming map_some → qFv, bind_eq_some_iff → qFB, bind_eq_bind → qFH, pure_def → qFN
open Nat renaming le_refl → qFw, beq → qFx, zero_add → qFC, eq_of_beq_eq_true → qFK
namespace W
open Go (IntKind BinOp UnOp)
set_option maxRecDepth 20000
theorem qqQ {t : List Nat} {H : List Obj} : kn pg 84 [.d (.sl (RES.map D.s)), .d (.s t)] H = some ⟨false, true, .d (.b (decide (t ∈ RES))), H, H.length⟩ := by
  obtain ⟨r, h1, h2⟩ := qq4 (L := RES) (t := t) (by decide) (H := H)
  have h2' : kn pg 181 [.d (.sl (RES.map D.s)), .d (.s t)] H = some ⟨false, true, .d (.i .i64 r), H, H.length⟩ := h2
  rw [zl (fn := zi) rfl rfl, ← h1]
  by_cases h : (0 : Int) ≤ r
  all_goals simp only [zi, ql, qFC, Nat.reduceAdd, qq, qr, qs, qk, qb, zk, qF, qG, qZ, qa, qc, jh, reduceCtorEq, qD, qC, zw, kg, Nat.reduceEqDiff, qt, qFz, qFI, qe, qH, qh, qFD, qY, h2', qu, qd, qi, Nat.min_self, qg, ko, kM, qFE, kZ, qx, js, h, decide_true, qm, qw, qP, qQ, qn, kx, ja, qp, qE, kf, qbP, jM, zj, decide_false]
  all_goals rfl
theorem qve : ∃ lo, kn pg 85 [.d (.s qDz)] [] = some ⟨false, true, .d (.sl (RES.map D.s)), [], lo⟩ := qqC qso qA5
theorem qre {t : List Nat} : ∃ lo, kn pg 34 [.d (.s t)] [] = some ⟨false, true, .d (.b (decide (t ∈ RES))), [], lo⟩ := by
  obtain ⟨lo, hf⟩ := qve
  unfold qDz at hf
  rw [zl (fn := qcB) rfl rfl]
  simp only [qcB, ql, qFC, qq, qFG, qr, qs, qk, qb, zk, qF, qG, qZ, qa, qc, qt, qFz, qFI, qe, qH, qh, qFD, qY, hf, qu, qd, qi, jh, reduceCtorEq, qD, qC, zw, kg, kZ, Nat.reduceEqDiff, qx, qqQ, qw, qP, qQ, qn, kx, ja, qp, qE, kf]
  exact ⟨_, zY rfl (Nat.zero_le _) (Nat.zero_le _)⟩
def idF : Nat → List Nat → Bool
  | _, [] => true
  | i, c :: l => (cLt c || (decide (0 < i) && cDg c)) && idF (i + 1) l
def idB (s : List Nat) : Bool := !decide (s = []) && !decide (32 < s.length) && !decide (s ∈ KW) && !decide (s ∈ RES) && idF 0 s
theorem qti {s : List Nat} (hs : ∀ c ∈ s, c < 256) (hz : s.length ≤ 1000000000000) {H : List Obj} :
    ∀ (k i : Nat), s.length - i = k → i ≤ s.length → ∃ x e, (x = .nrm ∨ x = .ret) ∧ get 2 e = .d (.b (idF i (s.drop i))) ∧
      qbd pg (qaO 0 [] (qaK pg (.d (.s s)) (.d (.i .i64 (i : Nat))) H H.length)) qb4 = some (x, ⟨e, H, H.length⟩) := by
  intro k
  induction k with
  | zero =>
    intro i hk hi
    obtain rfl : i = s.length := by omega
    have h1 : ((s.length : Int) < (s.length : Int)) = False := by simp
    rw [qcI]
    simp only [kz, qT, qr, qs, qk, qb, kZ, reduceCtorEq, qD, qC, qx, qw, qG, qZ, qL, zx, qm, qg, ko, qFM, Nat.reduceEqDiff, kX, h1, decide_false, qa, qc, qB, qK, qFs, ↓reduceIte, qbN, qag, yq, qo, qb4, zk, qF, qP]
    exact ⟨_, _, .inr rfl, by rw [List.drop_length]; simp [get, idF], rfl⟩
  | succ k ih =>
    intro i hk hi
    have h1 : ((i : Int) < (s.length : Int)) = True := by rw [eq_iff_iff]; simp; omega
    have hlt : i < s.length := by omega
    have hdr : s.drop i = s[i] :: s.drop (i + 1) := by simp
    have hw : wr .i64 ((i : Int) + 1) = ((i + 1 : Nat) : Int) := by rw [qcY (by omega) (by omega)]; omega
    have hix : ixV (.d (.s s)) (.d (.i .i64 (i : Int))) = some (.d (.i .u8 ((s[i] : Nat) : Int))) := quA (by omega) (by simp [hlt])
    have hc : s[i] < 256 := hs _ (List.getElem_mem hlt)
    rw [qcI]
    obtain ⟨x, e, q1, q2, q3⟩ := ih (i + 1) (by omega) (by omega)
    rw [hdr]
    generalize s[i] = c at hix hc
    have g : c < 48 ∨ (48 ≤ c ∧ c < 58) ∨ (58 ≤ c ∧ c < 65) ∨ (65 ≤ c ∧ c < 91) ∨ (91 ≤ c ∧ c < 97) ∨ (97 ≤ c ∧ c < 123) ∨ 123 ≤ c := by omega
    rcases g with g | g | g | g | g | g | g
    · have hL : cLt c = false := by simp only [cLt, Bool.or_eq_true, qFt, decide_eq_true_eq, Bool.or_eq_false_iff, Bool.and_eq_false_iff, decide_eq_false_iff_not]; omega
      have hD : cDg c = false := by simp only [cDg, qFt, decide_eq_true_eq, Bool.and_eq_false_iff, decide_eq_false_iff_not]; omega
      have e97 : ((97 : Int) ≤ (c : Int)) = False := by rw [eq_iff_iff]; simp only [iff_true, iff_false]; omega
      have e122 : ((c : Int) ≤ 122) = True := by rw [eq_iff_iff]; simp only [iff_true, iff_false]; omega
      have e65 : ((65 : Int) ≤ (c : Int)) = False := by rw [eq_iff_iff]; simp only [iff_true, iff_false]; omega
      have e90 : ((c : Int) ≤ 90) = True := by rw [eq_iff_iff]; simp only [iff_true, iff_false]; omega
      have e48 : ((48 : Int) ≤ (c : Int)) = False := by rw [eq_iff_iff]; simp only [iff_true, iff_false]; omega
      have e57 : ((c : Int) ≤ 57) = True := by rw [eq_iff_iff]; simp only [iff_true, iff_false]; omega
      by_cases h0 : 0 < i
      · have h0' : ((0 : Int) < (i : Int)) = True := by rw [eq_iff_iff]; simp only [iff_true]; omega
        simp only [kz, qT, qr, qs, qk, qb, kZ, reduceCtorEq, qD, qC, qx, qw, qG, qZ, qL, zx, qm, qg, ko, qFM, Nat.reduceEqDiff, kX, h1, decide_true, qa, qc, qB, qK, ↓reduceIte, qR, qz, kL, hix, kM, qFE, zk, js, e97, decide_false, ki, kq, kG, qFs, ku, qI, qW, zV, zI, Bool.not_false, e65, kJ, zh, h0', e48, z8, yr, qFv, qF, qP, zE, zp]
        exact ⟨_, _, .inr rfl, by simp [get, idF, hL, hD], rfl⟩
      · have h0' : ((0 : Int) < (i : Int)) = False := by rw [eq_iff_iff]; simp only [iff_false]; omega
        simp only [kz, qT, qr, qs, qk, qb, kZ, reduceCtorEq, qD, qC, qx, qw, qG, qZ, qL, zx, qm, qg, ko, qFM, Nat.reduceEqDiff, kX, h1, decide_true, qa, qc, qB, qK, ↓reduceIte, qR, qz, kL, hix, kM, qFE, zk, js, e97, decide_false, ki, kq, kG, qFs, ku, qI, qW, zV, zI, Bool.not_false, e65, kJ, zh, h0', z8, yr, qFv, qF, qP, zE, zp]
        exact ⟨_, _, .inr rfl, by simp [get, idF, hL, hD], rfl⟩
    · have hL : cLt c = false := by simp only [cLt, Bool.or_eq_true, qFt, decide_eq_true_eq, Bool.or_eq_false_iff, Bool.and_eq_false_iff, decide_eq_false_iff_not]; omega
      have hD : cDg c = true := by simp only [cDg, qFt, decide_eq_true_eq, Bool.and_eq_false_iff, decide_eq_false_iff_not]; omega
      have e97 : ((97 : Int) ≤ (c : Int)) = False := by rw [eq_iff_iff]; simp only [iff_true, iff_false]; omega
      have e122 : ((c : Int) ≤ 122) = True := by rw [eq_iff_iff]; simp only [iff_true, iff_false]; omega
      have e65 : ((65 : Int) ≤ (c : Int)) = False := by rw [eq_iff_iff]; simp only [iff_true, iff_false]; omega
      have e90 : ((c : Int) ≤ 90) = True := by rw [eq_iff_iff]; simp only [iff_true, iff_false]; omega
      have e48 : ((48 : Int) ≤ (c : Int)) = True := by rw [eq_iff_iff]; simp only [iff_true, iff_false]; omega
      have e57 : ((c : Int) ≤ 57) = True := by rw [eq_iff_iff]; simp only [iff_true, iff_false]; omega
      by_cases h0 : 0 < i
      · have h0' : ((0 : Int) < (i : Int)) = True := by rw [eq_iff_iff]; simp only [iff_true]; omega
        simp only [kz, qT, qr, qs, qk, qb, kZ, reduceCtorEq, qD, qC, qx, qw, qG, qZ, qL, zx, qm, qg, ko, qFM, Nat.reduceEqDiff, kX, h1, decide_true, qa, qc, qB, qK, ↓reduceIte, qR, qz, kL, hix, kM, qFE, zk, js, e97, decide_false, ki, kq, kG, qFs, ku, qI, qW, zV, zI, Bool.not_false, e65, kJ, zh, h0', e48, yw, e57, z8, yr, qFO, qFv, qO, qj, qo, jn, hw, yR]
        refine ⟨x, e, q1, ?_, q3⟩
        rw [q2]; simp [idF, hL, hD, h0]
      · have h0' : ((0 : Int) < (i : Int)) = False := by rw [eq_iff_iff]; simp only [iff_false]; omega
        simp only [kz, qT, qr, qs, qk, qb, kZ, reduceCtorEq, qD, qC, qx, qw, qG, qZ, qL, zx, qm, qg, ko, qFM, Nat.reduceEqDiff, kX, h1, decide_true, qa, qc, qB, qK, ↓reduceIte, qR, qz, kL, hix, kM, qFE, zk, js, e97, decide_false, ki, kq, kG, qFs, ku, qI, qW, zV, zI, Bool.not_false, e65, kJ, zh, h0', z8, yr, qFv, qF, qP, zE, zp]
        exact ⟨_, _, .inr rfl, by simp [get, idF, hL, h0], rfl⟩
    · have hL : cLt c = false := by simp only [cLt, Bool.or_eq_true, qFt, decide_eq_true_eq, Bool.or_eq_false_iff, Bool.and_eq_false_iff, decide_eq_false_iff_not]; omega
      have hD : cDg c = false := by simp only [cDg, qFt, decide_eq_true_eq, Bool.and_eq_false_iff, decide_eq_false_iff_not]; omega
      have e97 : ((97 : Int) ≤ (c : Int)) = False := by rw [eq_iff_iff]; simp only [iff_true, iff_false]; omega
      have e122 : ((c : Int) ≤ 122) = True := by rw [eq_iff_iff]; simp only [iff_true, iff_false]; omega
      have e65 : ((65 : Int) ≤ (c : Int)) = False := by rw [eq_iff_iff]; simp only [iff_true, iff_false]; omega
      have e90 : ((c : Int) ≤ 90) = True := by rw [eq_iff_iff]; simp only [iff_true, iff_false]; omega
      have e48 : ((48 : Int) ≤ (c : Int)) = True := by rw [eq_iff_iff]; simp only [iff_true, iff_false]; omega
      have e57 : ((c : Int) ≤ 57) = False := by rw [eq_iff_iff]; simp only [iff_true, iff_false]; omega
      by_cases h0 : 0 < i
      · have h0' : ((0 : Int) < (i : Int)) = True := by rw [eq_iff_iff]; simp only [iff_true]; omega
        simp only [kz, qT, qr, qs, qk, qb, kZ, reduceCtorEq, qD, qC, qx, qw, qG, qZ, qL, zx, qm, qg, ko, qFM, Nat.reduceEqDiff, kX, h1, decide_true, qa, qc, qB, qK, ↓reduceIte, qR, qz, kL, hix, kM, qFE, zk, js, e97, decide_false, ki, kq, kG, qFs, ku, qI, qW, zV, zI, Bool.not_false, e65, kJ, zh, h0', e48, yw, e57, z8, yr, qFv, qF, qP, zE, zp]
        exact ⟨_, _, .inr rfl, by simp [get, idF, hL, hD], rfl⟩
      · have h0' : ((0 : Int) < (i : Int)) = False := by rw [eq_iff_iff]; simp only [iff_false]; omega
        simp only [kz, qT, qr, qs, qk, qb, kZ, reduceCtorEq, qD, qC, qx, qw, qG, qZ, qL, zx, qm, qg, ko, qFM, Nat.reduceEqDiff, kX, h1, decide_true, qa, qc, qB, qK, ↓reduceIte, qR, qz, kL, hix, kM, qFE, zk, js, e97, decide_false, ki, kq, kG, qFs, ku, qI, qW, zV, zI, Bool.not_false, e65, kJ, zh, h0', z8, yr, qFv, qF, qP, zE, zp]
        exact ⟨_, _, .inr rfl, by simp [get, idF, hL, hD], rfl⟩
    · have hL : cLt c = true := by simp only [cLt, Bool.or_eq_true, qFt, decide_eq_true_eq, Bool.or_eq_false_iff, Bool.and_eq_false_iff, decide_eq_false_iff_not]; omega
      have hD : cDg c = false := by simp only [cDg, qFt, decide_eq_true_eq, Bool.and_eq_false_iff, decide_eq_false_iff_not]; omega
      have e97 : ((97 : Int) ≤ (c : Int)) = False := by rw [eq_iff_iff]; simp only [iff_true, iff_false]; omega
      have e122 : ((c : Int) ≤ 122) = True := by rw [eq_iff_iff]; simp only [iff_true, iff_false]; omega
      have e65 : ((65 : Int) ≤ (c : Int)) = True := by rw [eq_iff_iff]; simp only [iff_true, iff_false]; omega
      have e90 : ((c : Int) ≤ 90) = True := by rw [eq_iff_iff]; simp only [iff_true, iff_false]; omega
      have e48 : ((48 : Int) ≤ (c : Int)) = True := by rw [eq_iff_iff]; simp only [iff_true, iff_false]; omega
      have e57 : ((c : Int) ≤ 57) = False := by rw [eq_iff_iff]; simp only [iff_true, iff_false]; omega
      simp only [kz, qT, qr, qs, qk, qb, kZ, reduceCtorEq, qD, qC, qx, qw, qG, qZ, qL, zx, qm, qg, ko, qFM, Nat.reduceEqDiff, kX, h1, decide_true, qa, qc, qB, qK, ↓reduceIte, qR, qz, kL, hix, kM, qFE, zk, js, e97, decide_false, ki, kq, kG, qFs, ku, qI, qW, zV, zI, Bool.not_false, e65, yw, e90, kJ, qFO, qly, qdr, z8, yr, qFv, qO, qj, qo, jn, hw, yR]
      refine ⟨x, e, q1, ?_, q3⟩
      rw [q2]; simp [idF, hL]
    · have hL : cLt c = false := by simp only [cLt, Bool.or_eq_true, qFt, decide_eq_true_eq, Bool.or_eq_false_iff, Bool.and_eq_false_iff, decide_eq_false_iff_not]; omega
      have hD : cDg c = false := by simp only [cDg, qFt, decide_eq_true_eq, Bool.and_eq_false_iff, decide_eq_false_iff_not]; omega
      have e97 : ((97 : Int) ≤ (c : Int)) = False := by rw [eq_iff_iff]; simp only [iff_true, iff_false]; omega
      have e122 : ((c : Int) ≤ 122) = True := by rw [eq_iff_iff]; simp only [iff_true, iff_false]; omega
      have e65 : ((65 : Int) ≤ (c : Int)) = True := by rw [eq_iff_iff]; simp only [iff_true, iff_false]; omega
      have e90 : ((c : Int) ≤ 90) = False := by rw [eq_iff_iff]; simp only [iff_true, iff_false]; omega
      have e48 : ((48 : Int) ≤ (c : Int)) = True := by rw [eq_iff_iff]; simp only [iff_true, iff_false]; omega
      have e57 : ((c : Int) ≤ 57) = False := by rw [eq_iff_iff]; simp only [iff_true, iff_false]; omega
      by_cases h0 : 0 < i
      · have h0' : ((0 : Int) < (i : Int)) = True := by rw [eq_iff_iff]; simp only [iff_true]; omega
        simp only [kz, qT, qr, qs, qk, qb, kZ, reduceCtorEq, qD, qC, qx, qw, qG, qZ, qL, zx, qm, qg, ko, qFM, Nat.reduceEqDiff, kX, h1, decide_true, qa, qc, qB, qK, ↓reduceIte, qR, qz, kL, hix, kM, qFE, zk, js, e97, decide_false, ki, kq, kG, qFs, ku, qI, qW, zV, zI, Bool.not_false, e65, yw, e90, kJ, zh, h0', e48, e57, z8, yr, qFv, qF, qP, zE, zp]
        exact ⟨_, _, .inr rfl, by simp [get, idF, hL, hD], rfl⟩
      · have h0' : ((0 : Int) < (i : Int)) = False := by rw [eq_iff_iff]; simp only [iff_false]; omega
        simp only [kz, qT, qr, qs, qk, qb, kZ, reduceCtorEq, qD, qC, qx, qw, qG, qZ, qL, zx, qm, qg, ko, qFM, Nat.reduceEqDiff, kX, h1, decide_true, qa, qc, qB, qK, ↓reduceIte, qR, qz, kL, hix, kM, qFE, zk, js, e97, decide_false, ki, kq, kG, qFs, ku, qI, qW, zV, zI, Bool.not_false, e65, yw, e90, kJ, zh, h0', z8, yr, qFv, qF, qP, zE, zp]
        exact ⟨_, _, .inr rfl, by simp [get, idF, hL, hD], rfl⟩
    · have hL : cLt c = true := by simp only [cLt, Bool.or_eq_true, qFt, decide_eq_true_eq, Bool.or_eq_false_iff, Bool.and_eq_false_iff, decide_eq_false_iff_not]; omega
      have hD : cDg c = false := by simp only [cDg, qFt, decide_eq_true_eq, Bool.and_eq_false_iff, decide_eq_false_iff_not]; omega
      have e97 : ((97 : Int) ≤ (c : Int)) = True := by rw [eq_iff_iff]; simp only [iff_true, iff_false]; omega
      have e122 : ((c : Int) ≤ 122) = True := by rw [eq_iff_iff]; simp only [iff_true, iff_false]; omega
      have e65 : ((65 : Int) ≤ (c : Int)) = True := by rw [eq_iff_iff]; simp only [iff_true, iff_false]; omega
      have e90 : ((c : Int) ≤ 90) = False := by rw [eq_iff_iff]; simp only [iff_true, iff_false]; omega
      have e48 : ((48 : Int) ≤ (c : Int)) = True := by rw [eq_iff_iff]; simp only [iff_true, iff_false]; omega
      have e57 : ((c : Int) ≤ 57) = False := by rw [eq_iff_iff]; simp only [iff_true, iff_false]; omega
      simp only [kz, qT, qr, qs, qk, qb, kZ, reduceCtorEq, qD, qC, qx, qw, qG, qZ, qL, zx, qm, qg, ko, qFM, Nat.reduceEqDiff, kX, h1, decide_true, qa, qc, qB, qK, ↓reduceIte, qR, qz, kL, hix, kM, qFE, zk, js, e97, ki, kq, kG, yw, e122, qI, kJ, zI, qFO, qFs, ku, qly, qW, qdr, z8, yr, qFv, qO, qj, qo, jn, hw, yR]
      refine ⟨x, e, q1, ?_, q3⟩
      rw [q2]; simp [idF, hL]
    · have hL : cLt c = false := by simp only [cLt, Bool.or_eq_true, qFt, decide_eq_true_eq, Bool.or_eq_false_iff, Bool.and_eq_false_iff, decide_eq_false_iff_not]; omega
      have hD : cDg c = false := by simp only [cDg, qFt, decide_eq_true_eq, Bool.and_eq_false_iff, decide_eq_false_iff_not]; omega
      have e97 : ((97 : Int) ≤ (c : Int)) = True := by rw [eq_iff_iff]; simp only [iff_true, iff_false]; omega
      have e122 : ((c : Int) ≤ 122) = False := by rw [eq_iff_iff]; simp only [iff_true, iff_false]; omega
      have e65 : ((65 : Int) ≤ (c : Int)) = True := by rw [eq_iff_iff]; simp only [iff_true, iff_false]; omega
      have e90 : ((c : Int) ≤ 90) = False := by rw [eq_iff_iff]; simp only [iff_true, iff_false]; omega
      have e48 : ((48 : Int) ≤ (c : Int)) = True := by rw [eq_iff_iff]; simp only [iff_true, iff_false]; omega
      have e57 : ((c : Int) ≤ 57) = False := by rw [eq_iff_iff]; simp only [iff_true, iff_false]; omega
      by_cases h0 : 0 < i
      · have h0' : ((0 : Int) < (i : Int)) = True := by rw [eq_iff_iff]; simp only [iff_true]; omega
        simp only [kz, qT, qr, qs, qk, qb, kZ, reduceCtorEq, qD, qC, qx, qw, qG, qZ, qL, zx, qm, qg, ko, qFM, Nat.reduceEqDiff, kX, h1, decide_true, qa, qc, qB, qK, ↓reduceIte, qR, qz, kL, hix, kM, qFE, zk, js, e97, ki, kq, kG, yw, e122, decide_false, qI, kJ, zI, Bool.not_false, e65, e90, qFs, zh, h0', e48, e57, z8, yr, qFv, qF, qP, zE, zp]
        exact ⟨_, _, .inr rfl, by simp [get, idF, hL, hD], rfl⟩
      · have h0' : ((0 : Int) < (i : Int)) = False := by rw [eq_iff_iff]; simp only [iff_false]; omega
        simp only [kz, qT, qr, qs, qk, qb, kZ, reduceCtorEq, qD, qC, qx, qw, qG, qZ, qL, zx, qm, qg, ko, qFM, Nat.reduceEqDiff, kX, h1, decide_true, qa, qc, qB, qK, ↓reduceIte, qR, qz, kL, hix, kM, qFE, zk, js, e97, ki, kq, kG, yw, e122, decide_false, qI, kJ, zI, Bool.not_false, e65, e90, qFs, zh, h0', ku, qW, zV, z8, yr, qFv, qF, qP, zE, zp]
        exact ⟨_, _, .inr rfl, by simp [get, idF, hL, hD], rfl⟩
theorem qsD {s : List Nat} (hs : ∀ c ∈ s, c < 256) (hz : s.length ≤ 1000000000000) {H : List Obj} : kn pg 15 [.d (.s s)] H = some ⟨false, true, .d (.b (idB s)), H, H.length⟩ := by
  rw [zl (fn := jA) rfl rfl]
  have hk := qtl (t := s) (H := H)
  have ht := qvR (t := s) (H := H)
  obtain ⟨x, e, q1, q2, q3⟩ := qti hs hz (H := H) s.length 0 rfl (by omega)
  have hz0 : ((0 : Nat) : Int) = 0 := rfl
  rw [hz0] at q3
  rw [qFQ] at q2
  unfold idB
  have e0 : (s = ([] : List Nat)) = (s = []) := rfl
  by_cases h1 : s = []
  · subst h1
    simp only [jA, ql, qFC, qq, qr, qs, qk, qb, zk, qF, qG, qZ, qa, qc, kZ, reduceCtorEq, qD, qC, qx, qw, qg, ko, kM, qFE, yy, decide_true, qm, ki, zI, qFO, kG, qFs, ↓reduceIte, ku, Nat.reduceEqDiff, qI, qW, qdr, qB, qK, qP, zp, qQ, qn, kx, ja, qp, qE, kf, qH, qbP, jM, zj, qFG, Nat.reduceLT, decide_false, Bool.not_false, Bool.and_true, Bool.false_and]
    all_goals rfl
  · have e1 : (s = []) = False := eq_false h1
    by_cases h2 : 32 < s.length
    · have e2 : ((32 : Int) < (s.length : Int)) = True := by rw [eq_iff_iff]; simp; omega
      simp only [jA, ql, qFC, qq, qr, qs, qk, qb, zk, qF, qG, qZ, qa, qc, kZ, reduceCtorEq, qD, qC, qx, qw, qg, ko, kM, qFE, yy, e1, decide_false, qm, ki, zI, Bool.not_false, kG, ↓reduceIte, Nat.reduceEqDiff, qL, zx, zh, e2, decide_true, qI, kJ, qFs, qFO, ku, qW, qdr, qB, qK, qP, zp, qQ, qn, kx, ja, qp, qE, kf, qH, qbP, jM, zj, Bool.true_and]
      rw [decide_eq_true h2]; simp
    · have e2 : ((32 : Int) < (s.length : Int)) = False := by rw [eq_iff_iff]; simp; omega
      rw [decide_eq_false h1, decide_eq_false h2]
      by_cases h3 : s ∈ KW
      · rw [decide_eq_true h3] at hk
        simp only [jA, ql, qFC, qq, qr, qs, qk, qb, zk, qF, qG, qZ, qa, qc, kZ, reduceCtorEq, qD, qC, qx, qw, qg, ko, kM, qFE, yy, e1, decide_false, qm, ki, zI, Bool.not_false, kG, ↓reduceIte, Nat.reduceEqDiff, qL, zx, zh, e2, qI, kJ, qFs, qt, qFz, qFI, qe, qH, qh, qFD, qY, hk, qu, qd, qi, Nat.min_self, qFO, ku, qW, qdr, qB, qK, qP, zp, qQ, qn, kx, ja, qp, qE, kf, qbP, jM, zj, Bool.true_and]
        rw [decide_eq_true h3]; simp
      · rw [decide_eq_false h3] at hk
        rw [decide_eq_false h3]
        by_cases h4 : s ∈ RES
        · rw [decide_eq_true h4] at ht
          simp only [jA, ql, qFC, qq, qr, qs, qk, qb, zk, qF, qG, qZ, qa, qc, kZ, reduceCtorEq, qD, qC, qx, qw, qg, ko, kM, qFE, yy, e1, decide_false, qm, ki, zI, Bool.not_false, kG, ↓reduceIte, Nat.reduceEqDiff, qL, zx, zh, e2, qI, kJ, qFs, qt, qFz, qFI, qe, qH, qh, qFD, qY, hk, qu, qd, qi, Nat.min_self, ht, qB, qK, qP, zp, qQ, qn, kx, ja, qp, qE, kf, qbP, jM, zj, Bool.true_and]
          rw [decide_eq_true h4]; simp
        · rw [decide_eq_false h4] at ht
          rw [decide_eq_false h4]
          simp only [jA, ql, qFC, qq, qr, qs, qk, qb, zk, qF, qG, qZ, qa, qc, kZ, reduceCtorEq, qD, qC, qx, qw, qg, ko, kM, qFE, yy, e1, decide_false, qm, ki, zI, Bool.not_false, kG, ↓reduceIte, Nat.reduceEqDiff, qL, zx, zh, e2, qI, kJ, qFs, qt, qFz, qFI, qe, qH, qh, qFD, qY, hk, qu, qd, qi, Nat.min_self, ht, qB, qK, qR, qz, yR, qT, Bool.true_and]
          rw [q3]
          rcases q1 with rfl | rfl
          all_goals simp only [qiZ, qn, kx, q2, ja, qp, qE, kf, qH, qbP, jM, zj, qQ]
          all_goals simp
          all_goals rfl
end W

set_option linter.unusedSimpArgs false
set_option linter.unusedVariables false
namespace W
open Go (IntKind BinOp UnOp)
set_option maxRecDepth 20000
theorem qvB : ∀ (l : List Nat) (i : Nat), 0 < i → idF i l = l.all cNm
  | [], _, _ => rfl
  | c :: l, i, h => by simp [idF, qvB l (i + 1) (by omega), h, cNm]
theorem qtI {P : Nat → Bool} : ∀ {l : List Nat}, l.all P = true → run P l = l.length
  | [], _ => rfl
  | c :: l, h => by
    simp only [List.all_cons, qFt] at h
    simp [run, h.1, qtI h.2]
theorem qvi {P : Nat → Bool} : ∀ {l : List Nat}, run P l = l.length → l.all P = true
  | [], _ => rfl
  | c :: l, h => by
    have := qjg P l
    simp only [run, qFF] at h
    cases hp : P c with
    | false => simp [hp] at h
    | true => rw [hp] at h; simp only [cond_true, Nat.add_right_cancel_iff] at h; simp [hp, qvi h]
theorem qC0 {c : Nat} (h : cLt c = true) : blk c = false ∧ c ≠ 40 := by
  simp only [cLt, Bool.or_eq_true, qFt, decide_eq_true_eq] at h
  refine ⟨?_, by omega⟩
  simp only [blk, Bool.or_eq_false_iff, decide_eq_false_iff_not]
  omega
theorem qA9 {s : List Nat} (h : idB s = true) : qfi s (s.length + 1) 0 [] = .inr [⟨1, 0, s.length, s, 0⟩, ⟨0, s.length, s.length, [], 0⟩] := by
  simp only [idB, qFt, Bool.not_eq_true', decide_eq_false_iff_not] at h
  obtain ⟨⟨⟨⟨h1, h2⟩, h3⟩, h4⟩, h5⟩ := h
  cases hs : s with
  | nil => exact absurd hs h1
  | cons c l =>
    rw [hs] at h5
    simp only [idF, qFt, Bool.or_eq_true, decide_eq_true_eq, Nat.lt_irrefl, false_and, or_false] at h5
    have hb := qC0 h5.1
    have hsk : sk 0 0 0 (c :: l) = (true, 0) := by
      cases l with
      | nil => simp [sk, hb.1]
      | cons d l => simp [sk, hb.1, hb.2]
    have hall : (c :: l).all cNm = true := by
      rw [List.all_cons, ← qvB l 1 (by omega), h5.2]; simp [cNm, h5.1]
    have hrun := qtI hall
    have hn : qkB s 0 = .ok 1 0 s.length s 0 := by
      unfold qkB
      rw [qFQ, hs, hsk]
      have : ¬ (0 = (c :: l).length) := by simp
      simp only [this, if_false]
      unfold qsS
      simp only [qFQ, h5.1, if_true]
      unfold qqY
      rw [qFQ, hrun]
      rw [hs] at h2 h3
      rw [if_neg h2, List.take_length, if_neg h3]
      simp [qx3]
    have hn2 : qkB s s.length = .ok 0 s.length s.length [] 0 := by
      unfold qkB
      rw [List.drop_length]
      simp [sk]
    rw [← hs, qfi, hn]
    simp only [List.nil_append]
    have hl : ∃ f, s.length = f + 1 := ⟨l.length, by rw [hs]; rfl⟩
    obtain ⟨f, hf⟩ := hl
    have h10 : ¬ ((1 : Int) = 0) := by omega
    simp only [h10, if_false]
    conv => lhs; arg 2; rw [hf]
    rw [qfi, hn2]
    simp
theorem qsg {s : List Nat} : ∀ (f a : Nat) (acc L' : List Tk), qfi s f a acc = .inr L' → ∃ T, L' = acc ++ T
  | 0, _, _, _, h => by cases h
  | f + 1, a, acc, L', h => by
    rw [qfi] at h
    split at h
    · cases h
    · rename_i k p e t n hn
      split at h
      · cases h; exact ⟨_, rfl⟩
      · obtain ⟨T, hT⟩ := qsg f _ _ L' h
        exact ⟨⟨k, p, e, t, n⟩ :: T, by rw [hT]; simp⟩
theorem qBa {s : List Nat} {f : Nat} {x : Tk} {L : List Tk} (h : qfi s (f + 1) 0 [] = .inr (x :: L)) (hk : x.k = 1) (ht : x.t = s) : s ≠ [] ∧ s.length ≤ 32 ∧ s ∉ KW ∧ idF 0 s = true := by
  rw [qfi] at h
  split at h
  · cases h
  · rename_i k p e t n hn
    have hx : (⟨k, p, e, t, n⟩ : Tk) = x := by
      split at h
      · simp at h; exact h.1
      · obtain ⟨T, hT⟩ := qsg f _ _ _ h
        simp at hT; exact hT.1.symm
    subst hx
    simp only at hk ht
    subst hk
    unfold qkB at hn
    split at hn
    · cases hn
    · rename_i j hj
      by_cases hjs : j = s.length
      · rw [if_pos hjs] at hn; cases hn
      · rw [if_neg hjs] at hn
        cases hr : qsS s j with
        | bad x => rw [hr] at hn; cases hn
        | ok k' t' n' e' =>
          rw [hr] at hn
          simp only [qx3, Nx.ok.injEq] at hn
          obtain ⟨rfl, rfl, rfl, rfl, rfl⟩ := hn
          unfold qsS at hr
          split at hr
          · cases hr
          · rename_i c l hd
            split at hr
            · rename_i hc
              unfold qqY at hr
              split at hr
              · cases hr
              · rename_i h32
                split at hr
                · cases hr
                · rename_i hkw
                  simp only [Sy.ok.injEq] at hr
                  obtain ⟨-, h2, -, -⟩ := hr
                  have hle := qjg cNm (s.drop j)
                  have hlen : s.length = run cNm (s.drop j) := by
                    have := congrArg List.length h2
                    rw [ht] at this
                    simp only [List.length_take] at this
                    omega
                  have hj0 : j = 0 := by
                    simp only [List.length_drop] at hle
                    have : (s.drop j).length = l.length + 1 := by rw [hd]; rfl
                    simp only [List.length_drop] at this
                    omega
                  subst hj0
                  rw [qFQ] at hd h2 hlen h32 hkw
                  rw [ht] at h2
                  rw [h2] at hkw
                  have hall := qvi hlen.symm
                  refine ⟨by rw [hd]; simp, by omega, hkw, ?_⟩
                  rw [hd] at hall ⊢
                  simp only [List.all_cons, qFt] at hall
                  simp [idF, hc, qvB l 1 (by omega), hall.2]
            · split at hr
              · unfold qxI at hr
                split at hr
                · unfold qpm at hr
                  split at hr <;> cases hr
                · split at hr
                  · unfold qpm at hr
                    split at hr <;> cases hr
                  · unfold qpm at hr
                    split at hr <;> cases hr
              · split at hr
                · unfold qrX at hr
                  split at hr
                  · split at hr <;> cases hr
                  · cases hr
                · unfold qrs at hr
                  repeat (first | cases hr | split at hr)
end W

set_option linter.unusedSimpArgs false
set_option linter.unusedVariables false
namespace W
open Go (IntKind BinOp UnOp)
set_option maxRecDepth 20000
theorem qsT {s : List Nat} (hs : ∀ c ∈ s, c < 256) (hz : s.length ≤ 1000000000000) :
    ∃ lo, kn pg 14 [.d (.s s)] [] = some ⟨false, true, .d (.b (idB s)), [], lo⟩ := by
  obtain ⟨lo, hlo, ha⟩ := qz8 hs hz (H := [])
  obtain ⟨lo', hr⟩ := qre (t := s)
  rw [zl (fn := jC) rfl rfl]
  by_cases h1 : 20000 < s.length
  · have hid : idB s = false := by
      have : decide (32 < s.length) = true := by simp; omega
      simp [idB, this]
    rw [if_pos h1] at ha
    have i0 : ql5 .lenL (.d (.sl [.agg [.i .i64 20000, .i .i64 34]])) ([] : List Obj) = some (.d (.i .i64 1)) := rfl
    rw [hid]
    simp only [jC, ql, qFC, qq, qFG, qr, qs, qk, qb, zk, qF, qG, qZ, qa, qc, kZ, reduceCtorEq, qD, qC, qx, qw, qt, qFz, qFI, qe, qH, qh, qFD, qY, ha, qu, qd, qi, ku, qW, zC, qb3, qbZ, qm, Nat.reduceEqDiff, qb8, zO, i0, qg, ko, kM, qFE, zD, Int.reduceEq, decide_false, ki, kq, kG, qFs, ↓reduceIte, qI, zV, qP, qQ, qn, kx, ja, qp, qE, kf]
    exact ⟨_, zY rfl (Nat.zero_le _) (Nat.zero_le _)⟩
  · rw [if_neg h1] at ha
    have hg : idB s = true → qfi s (s.length + 1) 0 [] = .inr [⟨1, 0, s.length, s, 0⟩, ⟨0, s.length, s.length, [], 0⟩] := qA9
    have hb : ∀ {x : Tk} {L : List Tk}, qfi s (s.length + 1) 0 [] = .inr (x :: L) → x.k = 1 → x.t = s → s ∉ RES → idB s = true := by
      intro x L a b c d
      obtain ⟨q1, q2, q3, q4⟩ := qBa a b c
      simp only [idB, q1, q3, d, q4, decide_false, Bool.not_false, Bool.true_and, Bool.and_true, Bool.not_eq_true', decide_eq_false_iff_not]
      omega
    generalize qfi s (s.length + 1) 0 [] = r at ha hg hb
    cases r with
    | inl q =>
      obtain ⟨p, x⟩ := q
      have hid : idB s = false := by
        cases h : idB s with
        | false => rfl
        | true => cases hg h
      have i0 : ql5 .lenL (.d (.sl [.agg [.i .i64 (p : Nat), .i .i64 x]])) ([] : List Obj) = some (.d (.i .i64 1)) := rfl
      rw [hid]
      simp only at ha
      simp only [jC, ql, qFC, qq, qFG, qr, qs, qk, qb, zk, qF, qG, qZ, qa, qc, kZ, reduceCtorEq, qD, qC, qx, qw, qt, qFz, qFI, qe, qH, qh, qFD, qY, ha, qu, qd, qi, ku, qW, zC, qb3, qbZ, qm, Nat.reduceEqDiff, qb8, zO, i0, qg, ko, kM, qFE, zD, Int.reduceEq, decide_false, ki, kq, kG, qFs, ↓reduceIte, qI, zV, qP, qQ, qn, kx, ja, qp, qE, kf]
      exact ⟨_, zY rfl (Nat.zero_le _) (Nat.zero_le _)⟩
    | inr L =>
      simp only at ha
      by_cases h2 : L.length = 2
      · obtain ⟨x, y, rfl⟩ : ∃ x y, L = [x, y] := by
          match L, h2 with
          | [x, y], _ => exact ⟨x, y, rfl⟩
        have hlen : ql5 .lenL (.d (slD eTk [x, y])) ([] : List Obj) = some (.d (.i .i64 2)) := rfl
        have hia : iaV (.d (slD eTk [x, y])) (.d (.i .i64 0)) 5 none = some (.cp (.agg [.i .i64 x.k, .i .i64 x.p, .i .i64 x.e, .s x.t, .i .i32 x.n])) := rfl
        by_cases e1 : x.k = 1
        · by_cases e2 : x.t = s
          · by_cases e3 : s ∈ RES
            · have hid : idB s = false := by simp [idB, e3]
              have e3' : decide (s ∈ RES) = true := by simp [e3]
              rw [hid]
              rw [e3'] at hr
              simp only [jC, ql, qFC, qq, qFG, qr, qs, qk, qb, zk, qF, qG, qZ, qa, qc, kZ, reduceCtorEq, qD, qC, qx, qw, qt, qFz, qFI, qe, qH, qh, qFD, qY, ha, qu, qd, qi, ku, qW, zC, qb3, qbZ, qm, Nat.reduceEqDiff, qb8, zO, qfJ, qg, ko, kM, qFE, zD, decide_true, ki, kq, kG, ↓reduceIte, hlen, qI, kJ, kB, hia, e1, e2, qaP, qf, jH, qlD, qFu, qrt, qy, qah, qFy, qt3, jR, qFM, yy, hr, z8, yr, qFO, qFv, qP, qQ, qn, kx, ja, qp, qE, kf]
              exact ⟨_, zY rfl (Nat.zero_le _) (Nat.zero_le _)⟩
            · have hid : idB s = true := hb rfl e1 e2 e3
              have e3' : decide (s ∈ RES) = false := by simp [e3]
              rw [hid]
              rw [e3'] at hr
              simp only [jC, ql, qFC, qq, qFG, qr, qs, qk, qb, zk, qF, qG, qZ, qa, qc, kZ, reduceCtorEq, qD, qC, qx, qw, qt, qFz, qFI, qe, qH, qh, qFD, qY, ha, qu, qd, qi, ku, qW, zC, qb3, qbZ, qm, Nat.reduceEqDiff, qb8, zO, qfJ, qg, ko, kM, qFE, zD, decide_true, ki, kq, kG, ↓reduceIte, hlen, qI, kJ, kB, hia, e1, e2, qaP, qf, jH, qlD, qFu, qrt, qy, qah, qFy, qt3, jR, qFM, yy, hr, z8, yr, Bool.not_false, qFv, qP, qQ, qn, kx, ja, qp, qE, kf]
              exact ⟨_, zY rfl (Nat.zero_le _) (Nat.zero_le _)⟩
          · have hid : idB s = false := by
              cases h : idB s with
              | false => rfl
              | true =>
                have := hg h
                simp only [Sum.inr.injEq, List.cons.injEq] at this
                exact absurd (by rw [this.1]) e2
            have e2' : (x.t = s) = False := eq_false e2
            rw [hid]
            simp only [jC, ql, qFC, qq, qFG, qr, qs, qk, qb, zk, qF, qG, qZ, qa, qc, kZ, reduceCtorEq, qD, qC, qx, qw, qt, qFz, qFI, qe, qH, qh, qFD, qY, ha, qu, qd, qi, ku, qW, zC, qb3, qbZ, qm, Nat.reduceEqDiff, qb8, zO, qfJ, qg, ko, kM, qFE, zD, decide_true, ki, kq, kG, ↓reduceIte, hlen, qI, kJ, kB, hia, e1, qaP, qf, jH, qlD, qFu, qrt, qy, qah, qFy, qt3, jR, qFM, yy, e2', decide_false, qFs, zV, qP, qQ, qn, kx, ja, qp, qE, kf]
            exact ⟨_, zY rfl (Nat.zero_le _) (Nat.zero_le _)⟩
        · have hid : idB s = false := by
            cases h : idB s with
            | false => rfl
            | true =>
              have := hg h
              simp only [Sum.inr.injEq, List.cons.injEq] at this
              exact absurd (by rw [this.1]) e1
          have e1' : (x.k = 1) = False := eq_false e1
          rw [hid]
          simp only [jC, ql, qFC, qq, qFG, qr, qs, qk, qb, zk, qF, qG, qZ, qa, qc, kZ, reduceCtorEq, qD, qC, qx, qw, qt, qFz, qFI, qe, qH, qh, qFD, qY, ha, qu, qd, qi, ku, qW, zC, qb3, qbZ, qm, Nat.reduceEqDiff, qb8, zO, qfJ, qg, ko, kM, qFE, zD, decide_true, ki, kq, kG, ↓reduceIte, hlen, qI, kJ, kB, hia, qaP, qf, jH, qlD, qFu, qrt, qy, qah, e1', decide_false, qFs, zV, qP, qQ, qn, kx, ja, qp, qE, kf]
          exact ⟨_, zY rfl (Nat.zero_le _) (Nat.zero_le _)⟩
      · have hid : idB s = false := by
          cases h : idB s with
          | false => rfl
          | true =>
            have := hg h
            simp only [Sum.inr.injEq] at this
            rw [this] at h2
            exact absurd rfl h2
        have h2' : ((L.length : Int) = 2) = False := by rw [eq_iff_iff]; simp only [iff_false]; omega
        have hlen : ql5 .lenL (.d (slD eTk L)) ([] : List Obj) = some (.d (.i .i64 (L.length : Nat))) := qcN
        rw [hid]
        simp only [jC, ql, qFC, qq, qFG, qr, qs, qk, qb, zk, qF, qG, qZ, qa, qc, kZ, reduceCtorEq, qD, qC, qx, qw, qt, qFz, qFI, qe, qH, qh, qFD, qY, ha, qu, qd, qi, ku, qW, zC, qb3, qbZ, qm, Nat.reduceEqDiff, qb8, zO, qfJ, qg, ko, kM, qFE, zD, decide_true, ki, kq, kG, ↓reduceIte, hlen, h2', decide_false, qI, kJ, qFs, zV, qP, qQ, qn, kx, ja, qp, qE, kf]
        exact ⟨_, zY rfl (Nat.zero_le _) (Nat.zero_le _)⟩
end W

set_option linter.unusedSimpArgs false
set_option linter.unusedVariables false
namespace W
open Go (IntKind BinOp UnOp)
set_option maxRecDepth 20000
def small : List Nat → Bool
  | [] => true
  | c :: l => bif Nat.ble c 255 then small l else false
theorem qr3 {t : List Nat} : small t = true ↔ ∀ c ∈ t, c < 256 := by
  induction t with
  | nil => simp [small]
  | cons c l ih =>
    simp only [small, qFA, List.mem_cons, forall_eq_or_imp]
    by_cases h : c ≤ 255
    · rw [if_pos (Nat.ble_eq_true_of_le h), ih]; constructor
      · exact fun q => ⟨by omega, q⟩
      · exact fun q => q.2
    · rw [if_neg (fun q => h (Nat.le_of_ble_eq_true q))]; constructor
      · intro q; cases q
      · exact fun q => absurd q.1 (by omega)
def idX (vs : List V) (H : List Obj) : Option Cr :=
  match vs with
  | [.d (.s t)] => bif small t && Nat.ble t.length 1000000000000 then some ⟨false, true, .d (.b (idB t)), H, H.length⟩ else none
  | _ => none
theorem qCT {vs : List V} {H : List Obj} {r : Cr} (h : idX vs H = some r) : H.length ≤ r.H.length ∧ (∀ id, id < r.lo → id < H.length → r.H[id]? = H[id]?) ∧ (r.same = true → r.H = H) := by
  unfold idX at h
  split at h
  · rw [qFA] at h
    split at h
    · exact qnA h
    · cases h
  · cases h
def pgK : Pg := ⟨fun n => bif qFx n 14 || qFx n 15 || qFx n 302 then none else pg.fn n, fun i vs H => bif qFx i 14 || qFx i 15 then idX vs H else bif qFx i 302 then ixX vs H else pg.ext i vs H⟩
theorem qlN : yL pgK.ext := by
  intro i vs H r h
  simp only [pgK, qFA] at h
  split at h
  · exact qCT h
  · split at h
    · exact qvA h
    · exact qso _ _ _ _ h
theorem qyc : isD (qeM pgK 4000 8 [] []) (.b true) = true := by decide +kernel
theorem qcl : ∃ lo, kn pgK 8 [] [] = some ⟨false, true, .d (.b true), [], lo⟩ := qqC qlN qyc
end W

/- A call of no arguments whose result is data is the same beside whatever objects there are. -/
set_option linter.unusedSimpArgs false
set_option linter.unusedVariables false
namespace W
open Go (World Value Addr IntKind Program TypeId FuncId)
theorem qxV {P : Program} {M : Maps} {call : Call} (hsim : yU P M call) {i : Nat} {x : D} {H1 : List Obj} {lo : Nat} {same : Bool} (h : call i [] [] = some ⟨false, same, .d x, H1, lo⟩)
    {f' : FuncId} (hl : look M.fm f' = some i) {g : Gh} {w : World} {H : List Obj} (hH : RelH M g w H) : qpV P f' #[] w (zN M g w ⟨false, true, .d x, H, H.length⟩) := by
  have hH0 : RelH M { n := 0, φ := fun _ => 0, own := fun _ => none, pub := g.pub } w [] := ⟨rfl, fun id o h => by simp at h, fun b hb => ⟨rfl, (hH.fresh b hb).2⟩, hH.gl⟩
  have hd := hsim i [] [] _ h f' hl _ w [] (.nil _) hH0
  intro o a K Q hK hQ
  refine hd o a K Q ?_ ?_
  · rintro v w' ⟨_, g1, hR1, hE, hA⟩
    refine hK v w' ?_
    have hb : ∀ b, b < w.heap.size → w'.heap[b]? = w.heap[b]? ∧ g1.pub b = g.pub b := fun b hb => (hE.keep b hb (.inl rfl)).2
    have hg : Grow g w { n := g.n, φ := g.φ, own := fun b => if b < w.heap.size then g.own b else none, pub := g1.pub } w' := ⟨hE.size, hE.pub, hE.cell⟩
    have hlt : ∀ b ℓ, g.own b = some ℓ → b < w.heap.size := fun b ℓ ho => by
      rcases Nat.lt_or_ge b w.heap.size with h1 | h1
      · exact h1
      · rw [(hH.fresh b h1).1] at ho; cases ho
    have hk : ∀ ℓ, Kept g w { n := g.n, φ := g.φ, own := fun b => if b < w.heap.size then g.own b else none, pub := g1.pub } w' ℓ := fun ℓ => ⟨fun b ho => by
      have := hlt b ℓ ho
      exact ⟨by simp only [this, if_true]; exact ho, (hb b this).1, (hb b this).2⟩⟩
    refine ⟨rfl, { n := g.n, φ := g.φ, own := fun b => if b < w.heap.size then g.own b else none, pub := g1.pub }, ⟨hH.n, fun id o ho => (hH.h id o ho).mono hg (qFw _) (fun _ _ => rfl) (by rw [hH.n]; exact (List.getElem?_eq_some_iff.1 ho).1) (hk _) (fun i => hk _), fun b hb' => ⟨?_, (hR1.fresh b hb').2⟩, hH.gl.mono hg⟩, ⟨hg, qFw _, fun _ _ => rfl, fun b hb' ho => ⟨by simp only [hb', if_true], (hb b hb').1, (hb b hb').2⟩, hE.io⟩, ?_⟩
    · have : ¬ b < w.heap.size := by have := hE.size; omega
      simp only [this, if_false]
    · cases hA with
      | s hA => cases hA with
        | d _ _ hr => exact .s (.d _ _ hr)
  · rintro ch w' ⟨hp, _⟩
    cases hp
theorem qpF {P : Program} {M : Maps} {call : Call} (hsim : yU P M call) {i : Nat} {l : List D} {x : D} {H1 : List Obj} {lo : Nat} {same : Bool} (h : call i (l.map .d) [] = some ⟨false, same, .d x, H1, lo⟩)
    {f' : FuncId} (hl : look M.fm f' = some i) {g : Gh} {w : World} {H : List Obj} (hH : RelH M g w H) {argv : List Value} (ha : ArgsRep M g w 0 (l.map .d) argv) : qpV P f' argv.toArray w (zN M g w ⟨false, true, .d x, H, H.length⟩) := by
  have hH0 : RelH M { n := 0, φ := fun _ => 0, own := fun _ => none, pub := g.pub } w [] := ⟨rfl, fun id o h => by simp at h, fun b hb => ⟨rfl, (hH.fresh b hb).2⟩, hH.gl⟩
  have ha0 : ArgsRep M { n := 0, φ := fun _ => 0, own := fun _ => none, pub := g.pub } w 0 (l.map .d) argv := by
    clear h
    have hk' : ∀ k, ArgsRep M g w k (l.map .d) argv → ArgsRep M { n := 0, φ := fun _ => 0, own := fun _ => none, pub := g.pub } w k (l.map .d) argv := by
      clear ha
      induction l generalizing argv with
      | nil => intro k ha; cases ha; exact .nil _
      | cons y l ih =>
        intro k ha
        rw [qFz] at ha ⊢
        cases ha with
        | cons h0 ha =>
          refine .cons ?_ (ih _ ha)
          cases h0 with
          | s h0 => cases h0 with
            | d _ _ hr => exact .s (.d _ _ hr)
    exact hk' 0 ha
  have hd := hsim i (l.map .d) [] _ h f' hl _ w argv ha0 hH0
  intro o a K Q hK hQ
  refine hd o a K Q ?_ ?_
  · rintro v w' ⟨_, g1, hR1, hE, hA⟩
    refine hK v w' ?_
    have hb : ∀ b, b < w.heap.size → w'.heap[b]? = w.heap[b]? ∧ g1.pub b = g.pub b := fun b hb => (hE.keep b hb (.inl rfl)).2
    have hg : Grow g w { n := g.n, φ := g.φ, own := fun b => if b < w.heap.size then g.own b else none, pub := g1.pub } w' := ⟨hE.size, hE.pub, hE.cell⟩
    have hlt : ∀ b ℓ, g.own b = some ℓ → b < w.heap.size := fun b ℓ ho => by
      rcases Nat.lt_or_ge b w.heap.size with h1 | h1
      · exact h1
      · rw [(hH.fresh b h1).1] at ho; cases ho
    have hk : ∀ ℓ, Kept g w { n := g.n, φ := g.φ, own := fun b => if b < w.heap.size then g.own b else none, pub := g1.pub } w' ℓ := fun ℓ => ⟨fun b ho => by
      have := hlt b ℓ ho
      exact ⟨by simp only [this, if_true]; exact ho, (hb b this).1, (hb b this).2⟩⟩
    refine ⟨rfl, { n := g.n, φ := g.φ, own := fun b => if b < w.heap.size then g.own b else none, pub := g1.pub }, ⟨hH.n, fun id o ho => (hH.h id o ho).mono hg (qFw _) (fun _ _ => rfl) (by rw [hH.n]; exact (List.getElem?_eq_some_iff.1 ho).1) (hk _) (fun i => hk _), fun b hb' => ⟨?_, (hR1.fresh b hb').2⟩, hH.gl.mono hg⟩, ⟨hg, qFw _, fun _ _ => rfl, fun b hb' ho => ⟨by simp only [hb', if_true], (hb b hb').1, (hb b hb').2⟩, hE.io⟩, ?_⟩
    · have : ¬ b < w.heap.size := by have := hE.size; omega
      simp only [this, if_false]
    · cases hA with
      | s hA => cases hA with
        | d _ _ hr => exact .s (.d _ _ hr)
  · rintro ch w' ⟨hp, _⟩
    cases hp
end W

/- What stands in for strings.IndexByte, strconv.toError and scan.Keywords does what these do. -/
set_option linter.unusedSimpArgs false
set_option linter.unusedVariables false
namespace W
open Go (World Value Addr IntKind Program TypeId FuncId Func Calls Code)
def IxC (P : Program) (K : FuncId) : Prop :=
  ∀ (s : ByteArray) (c : Int) (w : World), Calls P K #[.string s, .int .u8 c] w fun e w' => e = .returned (.int .i64 (Go.Lib.indexByte s.data.toList c.toNat.toUInt8)) ∧ w' = w
def TeC (P : Program) (K : FuncId) (gl : Nat) (code : Int) : Prop :=
  ∀ (fn s : ByteArray) (base bits : Int) (ev : Value) (w : World), s.size ≤ 281474976710656 → w.cell? ⟨gl, 0, none⟩ = some ev → (ev = .nilIface ∨ ∃ te pe, ev = .iface te pe) →
    Calls P K #[.string fn, .string s, .int .i64 base, .int .i64 bits, .iface 323 (.int .i64 code)] w fun e w' => ∃ N, e = .returned (.iface 325 (.pointer (some ⟨N, 0, none⟩))) ∧ Go.RowKit.Below w.heap.size w w'
theorem qAg (c : Nat) : ∀ l : List UInt8, ixN (c % 256) (l.map (·.toNat)) = Go.Lib.indexByte l c.toUInt8
  | [] => rfl
  | b :: l => by
    have ih := qAg c l
    have hge := Go.Lib.indexByte_ge l c.toUInt8
    have hb : qFx b.toNat (c % 256) = (b == c.toUInt8) := by
      have hc : c.toUInt8.toNat = c % 256 := by simp [Nat.toUInt8]
      rw [← hc]
      by_cases h : b = c.toUInt8
      · subst h; simp
      · have h2 : ¬ b.toNat = c.toUInt8.toNat := fun e => h (UInt8.toNat_inj.1 e)
        have h3 : qFx b.toNat c.toUInt8.toNat = false := by rw [Bool.eq_false_iff]; intro e; exact h2 (qFK e)
        rw [h3]; symm; simpa using h
    simp only [qFz, ixN, Go.Lib.indexByte, hb]
    cases b == c.toUInt8 with
    | true => rfl
    | false =>
      simp only [cond_false, qFs, if_false]
      rw [ih]
      generalize Go.Lib.indexByte l c.toUInt8 = v at hge ⊢
      cases v with
      | ofNat n => simp
      | negSucc m =>
        have : m = 0 := by omega
        subst this
        rfl
theorem qwL {P : Program} {M : Maps} {K : FuncId} (hI : IxC P K) {fn : Func} {c : Code} (hf : P.funcs[K]? = some fn) (hname : (fn.name == "runtime.NumGoroutine") = false) (hbody : fn.body = some c)
    {g : Gh} {w : World} {vs : List V} {H : List Obj} {r : Cr} (h : ixX vs H = some r) {argv : List Value} (ha : ArgsRep M g w 0 vs argv) (hH : RelH M g w H) : qpV P K argv.toArray w (zN M g w r) := by
  refine qil ⟨?_, ?_⟩
  · unfold ixX at h
    split at h
    · simp only [Option.some.injEq] at h
      subst h
      cases ha with
      | cons h0 ha => cases ha with
        | cons h1 ha => cases ha; cases h0 with
          | s h0 => cases h0 with
            | d _ _ h0 => cases h0 with
              | s _ x hx => cases h1 with
                | s h1 => cases h1 with
                  | d _ _ h1 => cases h1 with
                    | i k n =>
                      refine (hI x _ w).mono ?_
                      rintro e w' ⟨rfl, rfl⟩
                      refine ⟨rfl, g, hH, Evo.refl g w', .s (.d _ _ ?_)⟩
                      rw [← hx, qAg]
                      exact .i _ _
    · cases h
  · have hn : ¬ fn.name = "runtime.NumGoroutine" := by simpa using hname
    simp [Go.callFunc, hf, hn, hbody]
theorem qAQ {P : Program} {M : Maps} {K : FuncId} {gS gR : Nat} (hS : TeC P K gS 2) (hR : TeC P K gR 1) (mS : gS ∈ M.gi) (mR : gR ∈ M.gi) (m2 : look M.tm 325 = some 325) (m0 : ∀ t', look M.tm t' = some 323 → t' = 323)
    {fn : Func} {c : Code} (hf : P.funcs[K]? = some fn) (hname : (fn.name == "runtime.NumGoroutine") = false) (hbody : fn.body = some c)
    {g : Gh} {w : World} {vs : List V} {H : List Obj} {r : Cr} (h : teX vs H = some r) {argv : List Value} (ha : ArgsRep M g w 0 vs argv) (hH : RelH M g w H) : qpV P K argv.toArray w (zN M g w r) := by
  refine qil ⟨?_, ?_⟩
  · unfold teX at h
    split at h
    · rename_i f t k1 k2 e
      rw [qFA] at h
      split at h
      · rename_i hb
        simp only [Option.some.injEq] at h
        subst h
        simp only [qFt, Bool.or_eq_true, Nat.ble_eq] at hb
        have hcode : e = 1 ∨ e = 2 := by
          rcases hb.1 with h | h
          · left; rw [qoK] at h; exact of_decide_eq_true h
          · right; rw [qoK] at h; exact of_decide_eq_true h
        obtain ⟨⟨evS, hvS, hevS⟩, _⟩ := hH.gl.2 gS mS
        obtain ⟨⟨evR, hvR, hevR⟩, _⟩ := hH.gl.2 gR mR
        cases ha with
        | cons h0 ha => cases ha with
          | cons h1 ha => cases ha with
            | cons h2 ha => cases ha with
              | cons h3 ha => cases ha with
                | cons h4 ha => cases ha; cases h0 with
                  | s h0 => cases h0 with
                    | d _ _ h0 => cases h0 with
                      | s _ x hx => cases h1 with
                        | s h1 => cases h1 with
                          | d _ _ h1 => cases h1 with
                            | s _ y hy => cases h2 with
                              | s h2 => cases h2 with
                                | d _ _ h2 => cases h2 with
                                  | i _ _ => cases h3 with
                                    | s h3 => cases h3 with
                                      | d _ _ h3 => cases h3 with
                                        | i _ _ => cases h4 with
                                          | s h4 => cases h4 with
                                            | ifc _ t' _ cv ht hcv => cases hcv with
                                              | d _ _ hcv => cases hcv with
                                                | i _ _ =>
                                                  have e1 := m0 t' ht
                                                  subst e1
                                                  have hsz : y.size ≤ 281474976710656 := by
                                                    have := congrArg List.length hy
                                                    rw [List.length_map] at this
                                                    have h2 : y.data.toList.length = y.size := Array.length_toList
                                                    omega
                                                  have post : ∀ e w', (∃ N, e = .returned (.iface 325 (.pointer (some ⟨N, 0, none⟩))) ∧ Go.RowKit.Below w.heap.size w w') → zN M g w ⟨false, true, .ifc 325 .undef, H, H.length⟩ e w' := by
                                                    rintro e w' ⟨N, rfl, hB⟩
                                                    obtain ⟨q1, q2⟩ := qyu hH hB
                                                    exact ⟨rfl, g, q1, q2, .s (.ifc _ 325 _ _ m2 (.undef _))⟩
                                                  rcases hcode with rfl | rfl
                                                  · exact (hR x y _ _ evR w hsz hvR hevR).mono post
                                                  · exact (hS x y _ _ evS w hsz hvS hevS).mono post
      · cases h
    · cases h
  · have hn : ¬ fn.name = "runtime.NumGoroutine" := by simpa using hname
    simp [Go.callFunc, hf, hn, hbody]
end W

/- The contracts of strings.IndexByte and strconv.toError at this program, laid by the shelf's program. -/
namespace Go.Proofs
open Go.Shelf
def Tryz.lays137_ren : Go.Shelf.Ren := ⟨fun | 137 => 257 | 217 => 302 | 266 => 323 | n => n, fun | 9 => 9 | 5 => 5 | 3 => 3 | n => n, fun | n => n⟩
theorem Tryz.lays137 : Go.Proofs.Lays.n137 Tryz.prog Tryz.lays137_ren := {
  mixed := by kernel_rfl
  f137 := Tryz.func257.trans (congrArg some (by kernel_rfl))
  f217 := Tryz.func302.trans (congrArg some (by kernel_rfl))
  f266 := Tryz.func323.trans (congrArg some (by kernel_rfl))
  t3 := Tryz.underlying3
  a3 := Tryz.isAgg3
  z3 := Tryz.sizeOf3
  v3 := Tryz.zeroValue3
  t5 := Tryz.underlying5
  a5 := Tryz.isAgg5
  z5 := Tryz.sizeOf5
  v5 := Tryz.zeroValue5
  t9 := Tryz.underlying9
  a9 := Tryz.isAgg9
  z9 := Tryz.sizeOf9
  v9 := Tryz.zeroValue9 }
open Go.RowKit in
theorem Tryz.strings_IndexByte (s : ByteArray) (c : Int) (w : World) :
    Calls Tryz.prog 257 #[.string s, .int .u8 c] w fun e w' => e = .returned (.int .i64 (Lib.indexByte s.data.toList c.toNat.toUInt8)) ∧ w' = w := Any.strings_IndexByte Tryz.lays137 s c w
def Tryz.lays217_ren : Go.Shelf.Ren := ⟨fun | 217 => 302 | 266 => 323 | n => n, fun | 9 => 9 | 5 => 5 | 3 => 3 | n => n, fun | n => n⟩
theorem Tryz.lays217 : Go.Proofs.Lays.n217 Tryz.prog Tryz.lays217_ren := {
  mixed := by kernel_rfl
  f217 := Tryz.func302.trans (congrArg some (by kernel_rfl))
  f266 := Tryz.func323.trans (congrArg some (by kernel_rfl))
  t3 := Tryz.underlying3
  a3 := Tryz.isAgg3
  z3 := Tryz.sizeOf3
  v3 := Tryz.zeroValue3
  t5 := Tryz.underlying5
  a5 := Tryz.isAgg5
  z5 := Tryz.sizeOf5
  v5 := Tryz.zeroValue5
  t9 := Tryz.underlying9
  a9 := Tryz.isAgg9
  z9 := Tryz.sizeOf9
  v9 := Tryz.zeroValue9 }
open Go.RowKit Go.Lib in
theorem Tryz.stringslite_IndexByte (s : ByteArray) (c : Int) (w : World) :
    Calls Tryz.prog 302 #[.string s, .int .u8 c] w fun e w' => e = .returned (.int .i64 (Lib.indexByte s.data.toList c.toNat.toUInt8)) ∧ w' = w := Any.stringslite_IndexByte Tryz.lays217 s c w
def Tryz.laysPu17_ren : Go.Shelf.Ren := ⟨fun | 17 => 304 | 21 => 326 | 22 => 327 | 23 => 328 | 24 => 329 | 25 => 342 | 27 => 344 | 26 => 343 | 28 => 353 | 29 => 363 | 30 => 364 | 31 => 365 | 32 => 366 | 33 => 367 | 35 => 369 | 34 => 368 | 36 => 370 | 37 => 371 | 38 => 372 | 39 => 373 | 40 => 374 | n => n, fun | 9 => 9 | 3 => 3 | 24 => 278 | 34 => 323 | 4 => 4 | 39 => 325 | 44 => 334 | 37 => 43 | 0 => 0 | 47 => 342 | 50 => 345 | 48 => 343 | 2 => 2 | 52 => 352 | 22 => 276 | 5 => 5 | 55 => 355 | 59 => 358 | 60 => 281 | 20 => 20 | 61 => 359 | 36 => 153 | 65 => 362 | 66 => 363 | 67 => 182 | n => n, fun | 0 => 3 | 1 => 4 | 2 => 5 | 3 => 6 | 4 => 7 | n => n⟩
theorem Tryz.laysPu17 : Go.Proofs.LaysPu.n17 Tryz.prog Tryz.laysPu17_ren := {
  mixed := by kernel_rfl
  f17 := Tryz.func304.trans (congrArg some (by kernel_rfl))
  f21 := Tryz.func326.trans (congrArg some (by kernel_rfl))
  f22 := Tryz.func327.trans (congrArg some (by kernel_rfl))
  f23 := Tryz.func328.trans (congrArg some (by kernel_rfl))
  f24 := Tryz.func329.trans (congrArg some (by kernel_rfl))
  f25 := Tryz.func342.trans (congrArg some (by kernel_rfl))
  f26 := Tryz.func343.trans (congrArg some (by kernel_rfl))
  f27 := Tryz.func344.trans (congrArg some (by kernel_rfl))
  f28 := Tryz.func353.trans (congrArg some (by kernel_rfl))
  f29 := Tryz.func363.trans (congrArg some (by kernel_rfl))
  f30 := Tryz.func364.trans (congrArg some (by kernel_rfl))
  f31 := Tryz.func365.trans (congrArg some (by kernel_rfl))
  f32 := Tryz.func366.trans (congrArg some (by kernel_rfl))
  f33 := Tryz.func367.trans (congrArg some (by kernel_rfl))
  f34 := Tryz.func368.trans (congrArg some (by kernel_rfl))
  f35 := Tryz.func369.trans (congrArg some (by kernel_rfl))
  f36 := Tryz.func370.trans (congrArg some (by kernel_rfl))
  f37 := Tryz.func371.trans (congrArg some (by kernel_rfl))
  f38 := Tryz.func372.trans (congrArg some (by kernel_rfl))
  f39 := Tryz.func373.trans (congrArg some (by kernel_rfl))
  f40 := Tryz.func374.trans (congrArg some (by kernel_rfl))
  t0 := Tryz.underlying0
  a0 := Tryz.isAgg0
  z0 := Tryz.sizeOf0
  v0 := Tryz.zeroValue0
  i0 := by kernel_rfl
  t2 := Tryz.underlying2
  a2 := Tryz.isAgg2
  z2 := Tryz.sizeOf2
  v2 := Tryz.zeroValue2
  i2 := by kernel_rfl
  t3 := Tryz.underlying3
  a3 := Tryz.isAgg3
  z3 := Tryz.sizeOf3
  v3 := Tryz.zeroValue3
  i3 := by kernel_rfl
  t4 := Tryz.underlying4
  a4 := Tryz.isAgg4
  z4 := Tryz.sizeOf4
  v4 := Tryz.zeroValue4
  i4 := by kernel_rfl
  t5 := Tryz.underlying5
  a5 := Tryz.isAgg5
  z5 := Tryz.sizeOf5
  v5 := Tryz.zeroValue5
  i5 := by kernel_rfl
  t9 := Tryz.underlying9
  a9 := Tryz.isAgg9
  z9 := Tryz.sizeOf9
  v9 := Tryz.zeroValue9
  i9 := by kernel_rfl
  t20 := Tryz.underlying20
  a20 := Tryz.isAgg20
  z20 := Tryz.sizeOf20
  v20 := Tryz.zeroValue20
  i20 := by kernel_rfl
  t22 := Tryz.underlying276
  a22 := Tryz.isAgg276
  z22 := Tryz.sizeOf276
  v22 := Tryz.zeroValue276
  i22 := by kernel_rfl
  t24 := Tryz.underlying278
  a24 := Tryz.isAgg278
  z24 := Tryz.sizeOf278
  v24 := Tryz.zeroValue278
  i24 := by kernel_rfl
  t34 := Tryz.underlying323
  a34 := Tryz.isAgg323
  z34 := Tryz.sizeOf323
  v34 := Tryz.zeroValue323
  i34 := by kernel_rfl
  c34 := by kernel_rfl
  t36 := Tryz.underlying153
  a36 := Tryz.isAgg153
  z36 := Tryz.sizeOf153
  v36 := Tryz.zeroValue153
  i36 := by kernel_rfl
  t37 := Tryz.underlying43
  a37 := Tryz.isAgg43
  z37 := Tryz.sizeOf43
  v37 := Tryz.zeroValue43
  i37 := by kernel_rfl
  t39 := Tryz.underlying325
  a39 := Tryz.isAgg325
  z39 := Tryz.sizeOf325
  v39 := Tryz.zeroValue325
  i39 := by kernel_rfl
  t44 := Tryz.underlying334
  a44 := Tryz.isAgg334
  z44 := Tryz.sizeOf334
  v44 := Tryz.zeroValue334
  i44 := by kernel_rfl
  t47 := Tryz.underlying342
  a47 := Tryz.isAgg342
  z47 := Tryz.sizeOf342
  v47 := Tryz.zeroValue342
  i47 := by kernel_rfl
  t48 := Tryz.underlying343
  a48 := Tryz.isAgg343
  z48 := Tryz.sizeOf343
  v48 := Tryz.zeroValue343
  i48 := by kernel_rfl
  t50 := Tryz.underlying345
  a50 := Tryz.isAgg345
  z50 := Tryz.sizeOf345
  v50 := Tryz.zeroValue345
  i50 := by kernel_rfl
  t52 := Tryz.underlying352
  a52 := Tryz.isAgg352
  z52 := Tryz.sizeOf352
  v52 := Tryz.zeroValue352
  i52 := by kernel_rfl
  t55 := Tryz.underlying355
  a55 := Tryz.isAgg355
  z55 := Tryz.sizeOf355
  v55 := Tryz.zeroValue355
  i55 := by kernel_rfl
  t59 := Tryz.underlying358
  a59 := Tryz.isAgg358
  z59 := Tryz.sizeOf358
  v59 := Tryz.zeroValue358
  i59 := by kernel_rfl
  t60 := Tryz.underlying281
  a60 := Tryz.isAgg281
  z60 := Tryz.sizeOf281
  v60 := Tryz.zeroValue281
  i60 := by kernel_rfl
  t61 := Tryz.underlying359
  a61 := Tryz.isAgg359
  z61 := Tryz.sizeOf359
  t65 := Tryz.underlying362
  a65 := Tryz.isAgg362
  z65 := Tryz.sizeOf362
  v65 := Tryz.zeroValue362
  i65 := by kernel_rfl
  t66 := Tryz.underlying363
  a66 := Tryz.isAgg363
  z66 := Tryz.sizeOf363
  v66 := Tryz.zeroValue363
  i66 := by kernel_rfl
  t67 := Tryz.underlying182
  a67 := Tryz.isAgg182
  z67 := Tryz.sizeOf182
  v67 := Tryz.zeroValue182
  i67 := by kernel_rfl
  g0 := by kernel_rfl
  m0 := by kernel_rfl
  g1 := by kernel_rfl
  m1 := by kernel_rfl
  g2 := by kernel_rfl
  m2 := by kernel_rfl
  g3 := by kernel_rfl
  m3 := by kernel_rfl
  g4 := by kernel_rfl
  m4 := by kernel_rfl }
open Go.RowKit in
theorem Tryz.toError_syntax (fn s : ByteArray) (base bits : Int) (ev : Value) (w : World) (hlim : s.size ≤ 281474976710656) (hv : w.cell? ⟨(Tryz.laysPu17_ren.g 0), 0, none⟩ = some ev) (hev : ev = .nilIface ∨ ∃ te pe, ev = .iface te pe) :
    Calls Tryz.prog 304 #[.string fn, .string s, .int .i64 base, .int .i64 bits, .iface 323 (.int .i64 2)] w fun e w' => ∃ N, e = .returned (.iface 325 (.pointer (some ⟨N, 0, none⟩))) ∧ w.heap.size ≤ N ∧ w'.heap[N]? = some (.cells #[.string fn, .string s, ev] (Tryz.laysPu17_ren.t 44) (0, 0)) ∧ Below w.heap.size w w' := AnyPu.strconv_toError_syntax Tryz.laysPu17 fn s base bits ev w hlim hv hev
open Go.RowKit in
theorem Tryz.toError_range (fn s : ByteArray) (base bits : Int) (ev : Value) (w : World) (hlim : s.size ≤ 281474976710656) (hv : w.cell? ⟨(Tryz.laysPu17_ren.g 1), 0, none⟩ = some ev) (hev : ev = .nilIface ∨ ∃ te pe, ev = .iface te pe) :
    Calls Tryz.prog 304 #[.string fn, .string s, .int .i64 base, .int .i64 bits, .iface 323 (.int .i64 1)] w fun e w' => ∃ N, e = .returned (.iface 325 (.pointer (some ⟨N, 0, none⟩))) ∧ w.heap.size ≤ N ∧ w'.heap[N]? = some (.cells #[.string fn, .string s, ev] (Tryz.laysPu17_ren.t 44) (0, 0)) ∧ Below w.heap.size w w' := AnyPu.strconv_toError_range Tryz.laysPu17 fn s base bits ev w hlim hv hev
end Go.Proofs

/-
  From the small semantics to a law's statement: what is read stays; the answer is true.
-/
set_option linter.unusedSimpArgs false
set_option linter.unusedVariables false
namespace W
open Go (World Value Addr IntKind Program TypeId FuncId Operand Act Oper Next Result Sem Ending Exit Code Func DataW MemPlace Calls trodAll_cons_mk)
open Go.ChangeShapes Go.RowKit Go.WideShapes Go.ChangeAt
section
variable {P : Program} {Hh : Type} {enc : TypeId × Value → Hh}
theorem qwa {W W' : World} (hb : ∀ b, b < W.heap.size → W'.heap[b]? = W.heap[b]?) {p : MemPlace} (hp : p.block < W.heap.size) : W.sameAt W' p := by
  cases p with
  | cell b o => exact qbD (hb b hp) o
  | map b => exact hb b hp
theorem qmt (hl : Go.laidOutB P = true) {W W' : World} (hb : ∀ b, b < W.heap.size → W'.heap[b]? = W.heap[b]?) {sp : Nat → Bool} : ∀ {ts : List TypeId} {vs : List Value} {ds : List (DataW Hh)} {ps : List MemPlace}, (∀ t ∈ ts, P.readableRec t = true ∧ t < P.types.size) →
    DataW.TrodAll enc P W 0 (fun _ => true) true ts vs ds ps → (∀ p ∈ ps, p.block < W.heap.size) → (∀ p ∈ ps, sp p.block = true) → DataW.TrodAll enc P W' 0 sp true ts vs ds ps
  | [], vs, ds, ps, hr, h, hlt, hs => by
    obtain ⟨rfl, rfl, rfl⟩ := trodAll_nil h
    exact trodAll_mk0
  | t :: ts, vs, ds, ps, hr, h, hlt, hs => by
    obtain ⟨v, vs', d, ds', p, q, rfl, rfl, rfl, hd, hrest⟩ := trodAll_cons h
    refine trodAll_cons_mk (Go.WideElems.Trod_stays hl (hr t (by simp)).1 (hr t (by simp)).2 hd (fun x hx => qwa hb (hlt x (by simp [hx]))) (fun x hx => hs x (by simp [hx])))
      (qmt hl hb (fun u hu => hr u (by simp [hu])) hrest (fun x hx => hlt x (by simp [hx])) (fun x hx => hs x (by simp [hx])))
theorem qz6 {f : Func} {s : Go.ChangeSpec} {apart fresh handsOn again : Bool} {W W' : World} {args : Array Value} {ds gs : List (DataW Hh)} {before : List MemPlace} {tb : TypeId} (hvars : s.vars = [])
    (hW : DataW.Whole enc P f.params.toList s.vars apart W args.toList ds gs before) (hs : s.fn Hh ds = { results := [.lit (.bool true)], args := ds }) (hres : f.resultTypes = #[tb]) (htb : P.underlying tb = some .bool)
    (hl : Go.laidOutB P = true) (hread : ∀ t ∈ f.params.toList, P.readableRec t = true ∧ t < P.types.size)
    (hio : W'.os = W.os ∧ W'.output = W.output) (hb : ∀ b, b < W.heap.size → W'.heap[b]? = W.heap[b]?) :
    s.post enc P f apart fresh handsOn again W args (.bool true) W' := by
  have hlt : ∀ p ∈ before, p.block < W.heap.size := fun p hp => by simpa using hW.lt p hp
  have hW' := hW
  obtain ⟨p, q, hA, hV, rfl, hfz, hnd⟩ := hW
  rw [hvars] at hV
  obtain ⟨rfl, rfl⟩ := trodVars_none hV
  have hfn : s.fn Hh (ds ++ []) = { results := [.lit (.bool true)], args := ds } := by rw [List.append_nil]; exact hs
  have hargs : ∀ sp : Nat → Bool, (∀ x ∈ p ++ [], sp x.block = true) → DataW.TrodAll enc P W' 0 sp true f.params.toList args.toList ds p := fun sp hsp =>
    qmt hl hb hread hA (fun x hx => hlt x (by simp [hx])) (fun x hx => hsp x (by simp [hx]))
  have hk : W.keptBut W' (fun _ => False) := by
    refine ⟨hio.1, hio.2, fun i hi => ?_⟩
    rw [hb i hi]
    cases hq : W.heap[i]? with
    | none => rfl
    | some o => cases o <;> first | rfl | exact ⟨rfl, rfl, rfl, fun _ _ => rfl⟩ | exact .inr ⟨rfl, rfl⟩
  have hresT : ∀ (b : Nat) (sp : Nat → Bool) (hd : Bool), DataW.TrodAll enc P W' b sp hd f.resultTypes.toList ((Value.bool true).resultList f.resultTypes.size) [.lit (.bool true)] [] := fun b sp hd => by
    rw [hres]
    exact trodAll_cons_mk (shut_bool htb _) trodAll_mk0
  have hfz' : ∀ a : Addr, a.block < W.heap.size → W'.frozen? a = W.frozen? a := fun a ha => by simp only [World.frozen?, hb a.block ha]
  have hres2 : ∀ (b : Nat) (sp : Nat → Bool) (hd : Bool), DataW.TrodAll enc P W' b sp hd f.resultTypes.toList ((Value.bool true).resultList f.resultTypes.size) (s.fn Hh (ds ++ [])).results [] := fun b sp hd => by rw [hfn]; exact hresT b sp hd
  have hargs2 : ∀ sp : Nat → Bool, (∀ x ∈ p ++ [], sp x.block = true) → DataW.TrodAll enc P W' 0 sp true f.params.toList args.toList (s.fn Hh (ds ++ [])).args p := fun sp hsp => by rw [hfn]; exact hargs sp hsp
  have hvars2 : ∀ sp : Nat → Bool, DataW.TrodVars enc P W' sp s.vars (s.fn Hh (ds ++ [])).vars [] := fun sp => by rw [hfn, hvars]; rfl
  have hold : ∀ x ∈ p ++ [], (fun b => decide (b < W.heap.size)) x.block = true := fun x hx => by simpa using hlt x hx
  refine ⟨ds, [], p ++ [], [], p, [], hW', hres2 _ _ _, hargs2 _ hold, hvars2 _, Go.World.keptBut_mono (fun _ h => h.elim) hk, fun _ => ?_⟩
  refine ⟨ok_one hres rfl (okWide_bool_mk htb _), _, _, ([] ++ p) ++ [], ⟨[] ++ p, [], trodAll_append (hargs2 _ (fun _ _ => rfl)) (hres2 _ _ _), hvars2 _, rfl, ?_, ?_⟩, ?_⟩
  · intro b off hp
    rw [hfz' _ (hlt (.cell b off) (by simpa using hp))]
    exact hfz b off (by simpa using hp)
  · intro ha
    simpa using hnd ha
  · intro x hx _
    simpa using hx
end
end W

/-
  Arguments that were read are data.
-/
set_option linter.unusedSimpArgs false
set_option linter.unusedVariables false
namespace W
open Go (World Value Addr IntKind Program TypeId FuncId Operand Act Oper Next Result Sem Ending Exit Code Func DataW MemPlace Calls TypeDesc Lit)
mutual
def D.bulk : D → Nat
  | .s x => x.length + 1
  | .sl xs => D.bulks xs + 1
  | .agg cs => D.bulks cs + 1
  | _ => 1
def D.bulks : List D → Nat
  | [] => 0
  | x :: l => D.bulk x + D.bulks l
end
theorem qm8 : ∀ (a b : List D), D.bulks (a ++ b) = D.bulks a + D.bulks b
  | [], b => by simp [D.bulks]
  | x :: a, b => by simp only [List.cons_append, D.bulks, qm8 a b]; omega
def tiles (P : Program) : Nat → List Go.Field → Bool
  | _, [] => true
  | off, f :: l => f.offset == off && tiles P (off + P.cellsOf f.type) l
def qkJ (P : Program) : List Go.Field → Nat
  | [] => 0
  | f :: l => P.cellsOf f.type + qkJ P l
def qqq (P : Program) (ts : List TypeId) (t : TypeId) : Bool :=
  match P.underlying t with
  | some .bool | some (.int _) | some .string => true
  | some (.slice e) => ts.contains e && Nat.blt 0 (P.cellsOf e)
  | some (.struct fs) => fs.toList.all (fun f => ts.contains f.type) && tiles P 0 fs.toList && qFx (P.cellsOf t) (qkJ P fs.toList)
  | some (.array n e) => ts.contains e && qFx (P.cellsOf t) (n * P.cellsOf e)
  | _ => false
def covers (P : Program) (ts : List TypeId) : Bool := ts.all (qqq P ts)
def qej (P : Program) (t : TypeId) : Bool :=
  match P.underlying t with
  | some (.struct _) | some (.array _ _) => true
  | _ => false
def elD : Bool → List D → D
  | true, xs => .agg xs
  | false, [x] => x
  | false, _ => .np
def Ty (P : Program) : Nat → TypeId → List D → Prop
  | 0, _, _ => False
  | n + 1, t, xs => match P.underlying t with
    | some .bool => ∃ b, xs = [.b b]
    | some (.int k) => ∃ z, xs = [.i k z] ∧ (Lit.int k z).wf = true
    | some .string => ∃ s, xs = [.s s] ∧ s.length ≤ Go.maxLen ∧ ∀ c ∈ s, c < 256
    | some (.slice e) => xs = [.nil] ∨ ∃ yss : List (List D), xs = [.sl (yss.map (elD (qej P e)))] ∧ yss.length ≤ Go.maxLen ∧ ∀ q ∈ yss, Ty P n e q
    | some (.struct fs) => ∃ yss : List (List D), xs = yss.flatten ∧ yss.length = fs.toList.length ∧ ∀ (i : Nat) (f : Go.Field) (q : List D), fs.toList[i]? = some f → yss[i]? = some q → Ty P n f.type q
    | some (.array m e) => ∃ yss : List (List D), xs = yss.flatten ∧ yss.length = m ∧ ∀ q ∈ yss, Ty P n e q
    | _ => False
def Arg (P : Program) (t : TypeId) (x : D) : Prop := ∃ n xs, Ty P n t xs ∧ x = elD (qej P t) xs
structure Bulk {Hh : Type} (B : DataW Hh → Nat) (BA : List (DataW Hh) → Nat) : Prop where
  str : ∀ bytes, B (.lit (.string bytes)) = bytes.length + 1
  lit : ∀ l, 1 ≤ B (.lit l)
  nil : B .nil = 1
  sl : ∀ es sp, B (.slice es sp) = BA es + BA sp + 1
  agg : ∀ ps, B (.agg ps) = BA ps + 1
  n : BA [] = 0
  c : ∀ d r, BA (d :: r) = B d + BA r
def g0 (W : World) : Gh := { n := 0, φ := fun _ => 0, own := fun _ => none, pub := fun b => match W.heap[b]? with | some (.cells c _ _) => c.size | _ => 0 }
theorem qAJ (M : Maps) (W : World) (hgl : GlOk M (g0 W) W) : RelH M (g0 W) W [] := ⟨rfl, fun id o h => by simp at h, fun b hb => ⟨rfl, by
  show (match W.heap[b]? with | some (.cells c _ _) => c.size | _ => 0) = 0
  rw [Array.getElem?_eq_none hb]⟩, hgl⟩
theorem qBW {W W' : World} {g' : Gh} (h : Evo (g0 W) W g' W') : ∀ b, b < W.heap.size → W'.heap[b]? = W.heap[b]? := fun b hb => (h.keep b hb (.inl rfl)).2.1
theorem quM {W : World} {b o : Nat} {v : Value} (h : W.cell? ⟨b, o, none⟩ = some v) : o < (g0 W).pub b := by
  simp only [World.cell?] at h
  show o < (match W.heap[b]? with | some (.cells c _ _) => c.size | _ => 0)
  split at h
  · rename_i c e f hq
    rw [hq]
    simp at h
    exact (Array.getElem?_eq_some_iff.1 h).1
  · cases h
theorem qsv {W : World} {a : Addr} {v : Value} (h : W.cell? a = some v) : a.spot = none := by
  simp only [World.cell?] at h
  split at h
  · cases hs : a.spot with
    | none => rfl
    | some s => simp [hs] at h
  · cases h
section
variable {P : Program} {Hh : Type} {enc : TypeId × Value → Hh} {W : World}
theorem RepDL.split {pub : Nat → Nat} {w : World} : ∀ {a : List (List D)} {b : List (List Value)}, a.length = b.length → (∀ (i : Nat) (q : List D) (r : List Value), a[i]? = some q → b[i]? = some r → RepDL pub w q r) → RepDL pub w a.flatten b.flatten
  | [], [], _, _ => .nil
  | q :: a, r :: b, hl, h => by
    simp only [List.flatten_cons]
    exact (h 0 q r rfl rfl).append (RepDL.split (by simpa using hl) (fun i q' r' hq hr => h (i + 1) q' r' (by simpa using hq) (by simpa using hr)))
  | [], _ :: _, hl, _ => by simp at hl
  | _ :: _, [], hl, _ => by simp at hl
theorem qmm (cs : List Value) : ∀ (fs : List Go.Field) (off : Nat), tiles P off fs = true → (fs.map fun f => (cs.drop f.offset).take (P.cellsOf f.type)).flatten = (cs.drop off).take (qkJ P fs)
  | [], off, _ => by simp [qkJ]
  | f :: fs, off, h => by
    simp only [tiles, qFt, beq_iff_eq] at h
    simp only [qFz, List.flatten_cons, qkJ, qmm cs fs _ h.2, h.1]
    rw [List.take_add, List.drop_drop]
theorem qmB (cs : List Value) (sz : Nat) : ∀ n, ((List.range n).map fun i => (cs.drop (i * sz)).take sz).flatten = cs.take (n * sz)
  | 0 => by simp
  | n + 1 => by
    rw [List.range_succ, List.map_append, List.flatten_append, qmB cs sz n, Nat.succ_mul, List.take_add]
    simp
theorem qqs {n : Nat} {t : TypeId} {xs : List D} (h : Ty P n t xs) : (elD (qej P t) xs).cells = xs := by
  cases n with
  | zero => exact h.elim
  | succ n =>
    unfold Ty at h
    unfold qej
    split at h
    · rename_i hu; rw [hu]; obtain ⟨b, rfl⟩ := h; rfl
    · rename_i k hu; rw [hu]; obtain ⟨b, rfl, _⟩ := h; rfl
    · rename_i hu; rw [hu]; obtain ⟨b, rfl, _⟩ := h; rfl
    · rename_i e hu; rw [hu]
      rcases h with rfl | ⟨yss, rfl, _⟩ <;> rfl
    · rename_i fs hu; rw [hu]; rfl
    · rename_i m e hu; rw [hu]; rfl
    · exact h.elim
theorem quC {a b : List D} (h1 : D.ones a = true) (h2 : D.ones b = true) : D.ones (a ++ b) = true := by
  induction a with
  | nil => exact h2
  | cons q a ih => simp only [List.cons_append, D.ones, qFt] at h1 ⊢; exact ⟨h1.1, ih h1.2⟩
theorem qfn : ∀ {l : List (List D)}, (∀ q ∈ l, D.ones q = true) → D.ones l.flatten = true
  | [], _ => rfl
  | q :: l, h => quC (h q (by simp)) (qfn fun r hr => h r (by simp [hr]))
theorem qth : ∀ {n : Nat} {t : TypeId} {xs : List D}, Ty P n t xs → D.ones xs = true
  | 0, _, _, h => h.elim
  | n + 1, t, xs, h => by
    unfold Ty at h
    split at h
    · obtain ⟨b, rfl⟩ := h; rfl
    · obtain ⟨b, rfl, _⟩ := h; rfl
    · obtain ⟨b, rfl, _⟩ := h; rfl
    · rcases h with rfl | ⟨yss, rfl, _⟩ <;> rfl
    · obtain ⟨yss, rfl, hl, h⟩ := h
      refine qfn fun q hq => ?_
      obtain ⟨i, hi⟩ := List.getElem?_of_mem hq
      have hlt := (List.getElem?_eq_some_iff.1 hi).1
      rename_i fs hu
      exact qth (h i (fs.toList[i]'(by omega)) q (by simp [hl ▸ hlt]) hi)
    · obtain ⟨yss, rfl, hl, h⟩ := h
      exact qfn fun q hq => qth (h q hq)
    · exact h.elim
end
end W

/-
  Arguments that were read are data: the reading itself.
-/
set_option linter.unusedSimpArgs false
set_option linter.unusedVariables false
namespace W
open Go (World Value Addr IntKind Program TypeId FuncId Operand Act Oper Next Result Sem Ending Exit Code Func DataW MemPlace Calls TypeDesc Lit)
theorem qhD {α : Type} {R : Nat → α → Prop} : ∀ (n : Nat), (∀ i, i < n → ∃ a, R i a) → ∃ l : List α, l.length = n ∧ ∀ (i : Nat) (a : α), l[i]? = some a → R i a
  | 0, _ => ⟨[], rfl, fun i a h => by simp at h⟩
  | n + 1, h => by
    obtain ⟨l, h1, h2⟩ := qhD n (fun i hi => h i (by omega))
    obtain ⟨a, ha⟩ := h n (by omega)
    refine ⟨l ++ [a], by simp [h1], fun i b hb => ?_⟩
    rw [List.getElem?_append] at hb
    split at hb
    · exact h2 i b hb
    · rename_i hge
      have hi : i - l.length = 0 := by
        rcases Nat.eq_zero_or_pos (i - l.length) with h0 | h0
        · exact h0
        · rw [List.getElem?_eq_none (by simp; omega)] at hb; cases hb
      rw [hi] at hb
      simp only [qFu, Option.some.injEq] at hb
      subst hb
      rwa [show i = n by omega]
theorem qoJ {α : Type} {c : Nat} : ∀ (l : List (List α)), (∀ q ∈ l, q.length = c) → ∀ (j : Nat) (v : α), l.flatten[j]? = some v → ∃ i r q, j = i * c + r ∧ l[i]? = some q ∧ q[r]? = some v
  | [], _, j, v, h => by simp at h
  | q :: l, hc, j, v, h => by
    have hq := hc q (by simp)
    rw [List.flatten_cons, List.getElem?_append] at h
    split at h
    · exact ⟨0, j, q, by simp, rfl, h⟩
    · rename_i hge
      obtain ⟨i, r, q', h1, h2, h3⟩ := qoJ l (fun x hx => hc x (by simp [hx])) _ v h
      exact ⟨i + 1, r, q', by rw [Nat.succ_mul]; omega, by simpa using h2, h3⟩
theorem qkO {α : Type} {c : Nat} : ∀ (l : List (List α)), (∀ q ∈ l, q.length = c) → l.flatten.length = l.length * c
  | [], _ => by simp
  | q :: l, hc => by
    rw [List.flatten_cons, List.length_append, hc q (by simp), qkO l (fun x hx => hc x (by simp [hx])), qFF, Nat.succ_mul]; omega
section
variable {P : Program} {Hh : Type} {enc : TypeId × Value → Hh} {W : World}
theorem qwB {n : Nat} {t : TypeId} {q : List D} (h : Ty P n t q) {b : Nat} (hb : D.bulks q + (if qej P t then 1 else 0) ≤ b) : D.bulk (elD (qej P t) q) ≤ b := by
  cases ha : qej P t with
  | true => rw [ha] at hb; simpa [elD, D.bulk] using hb
  | false =>
    rw [ha] at hb
    have h1 := qqs h
    rw [ha] at h1
    match q, h1, hb with
    | [x], _, hb => simpa [elD, D.bulks] using hb
    | [], h1, _ => simp [elD, D.cells] at h1
    | x :: y :: l, h1, _ => simp [elD, D.cells] at h1
theorem quF {B : DataW Hh → Nat} {BA : List (DataW Hh) → Nat} (hB : Bulk B BA) : ∀ {ys : List D} {ds : List (DataW Hh)}, ys.length = ds.length → (∀ (i : Nat) (y : D) (d : DataW Hh), ys[i]? = some y → ds[i]? = some d → D.bulk y ≤ B d) → D.bulks ys ≤ BA ds
  | [], [], _, _ => by simp [D.bulks]
  | y :: ys, d :: ds, hl, h => by
    rw [hB.c, D.bulks]
    have h1 := h 0 y d rfl rfl
    have h2 := quF hB (ys := ys) (ds := ds) (by simpa using hl) (fun i y d hy hd => h (i + 1) y d (by simpa using hy) (by simpa using hd))
    omega
  | [], _ :: _, hl, _ => by simp at hl
  | _ :: _, [], hl, _ => by simp at hl
theorem qiv {B : DataW Hh → Nat} {BA : List (DataW Hh) → Nat} (hB : Bulk B BA) : ∀ {ys : List (List D)} {ds : List (DataW Hh)}, ys.length = ds.length → (∀ (i : Nat) (y : List D) (d : DataW Hh), ys[i]? = some y → ds[i]? = some d → D.bulks y ≤ B d) → D.bulks ys.flatten ≤ BA ds
  | [], [], _, _ => by simp [D.bulks]
  | y :: ys, d :: ds, hl, h => by
    rw [hB.c, List.flatten_cons, qm8]
    have h1 := h 0 y d rfl rfl
    have h2 := qiv hB (ys := ys) (ds := ds) (by simpa using hl) (fun i y d hy hd => h (i + 1) y d (by simpa using hy) (by simpa using hd))
    omega
  | [], _ :: _, hl, _ => by simp at hl
  | _ :: _, [], hl, _ => by simp at hl
theorem qp2 {a : Addr} {n : Nat} {cs : List Value} (h : W.cells? 0 a n = some cs) : cs.length = n ∧ ∀ (i : Nat) (v : Value), cs[i]? = some v → W.cell? (a.add i) = some v := by
  unfold World.cells? at h
  simp only [Nat.zero_le, if_true] at h
  have hl := Go.mapM_some_length h
  refine ⟨by simpa using hl, fun i v hv => ?_⟩
  have hi : i < n := by
    have := (List.getElem?_eq_some_iff.1 hv).1
    rw [hl] at this; simpa using this
  have := Go.mapM_some_get h i i (by simp [hi])
  rw [this, hv]
theorem qzs (ys : List D) : D.bulks [.sl ys] = D.bulks ys + 1 := by simp [D.bulks, D.bulk]
theorem qnh {ts : List TypeId} (hts : covers P ts = true) {B : DataW Hh → Nat} {BA : List (DataW Hh) → Nat} (hB : Bulk B BA) : ∀ (n : Nat) (t : TypeId) (cs : List Value) (x : DataW Hh × List MemPlace), t ∈ ts →
    DataW.trod enc P W 0 (fun _ => true) true n t cs = some x → ∃ xs, Ty P n t xs ∧ RepDL (g0 W).pub W xs cs ∧ D.bulks xs + (if qej P t then 1 else 0) ≤ B x.1
  | 0, t, cs, x, _, h => by simp [DataW.trod] at h
  | n + 1, t, cs, x, ht, h => by
    have hcov : qqq P ts t = true := by
      simp only [covers, List.all_eq_true] at hts
      exact hts t ht
    unfold qqq at hcov
    unfold Ty qej
    split at hcov
    · -- bool
      rename_i hu
      obtain ⟨b, rfl, rfl⟩ := DataW.trod_bool hu h
      rw [hu]
      exact ⟨[.b b], ⟨b, rfl⟩, .cons _ _ _ _ (.b b) .nil, by have := hB.lit (.bool b); simpa [D.bulks, D.bulk] using this⟩
    · rename_i k hu
      obtain ⟨z, rfl, rfl, hw⟩ := DataW.trod_int hu h
      rw [hu]
      exact ⟨[.i k z], ⟨z, rfl, hw⟩, .cons _ _ _ _ (.i k z) .nil, by have := hB.lit (.int k z); simpa [D.bulks, D.bulk] using this⟩
    · rename_i hu
      obtain ⟨z, rfl, rfl, hm⟩ := DataW.trod_string hu h
      rw [hu]
      have hl : (z.data.toList.map (·.toNat)).length = z.size := by simp
      refine ⟨[.s (z.data.toList.map (·.toNat))], ⟨_, rfl, by rw [hl]; exact hm, fun c hc => ?_⟩, .cons _ _ _ _ (.s _ z rfl) .nil, ?_⟩
      · obtain ⟨b, _, rfl⟩ := List.mem_map.1 hc
        exact b.toNat_lt
      · simp only [D.bulks, D.bulk, hB.str]
        simp
    · -- slice
      rename_i e hu
      simp only [qFt, List.contains_iff_mem, Nat.blt_eq] at hcov
      obtain ⟨he, hpos⟩ := hcov
      rw [hu]
      rcases DataW.trod_slice hu h with ⟨rfl, rfl⟩ | ⟨a, len, cap, elems, rest, m, hm, rfl, rfl, hb, hlc, hcap, hlen, hel, _, _⟩
      · exact ⟨[.nil], .inl rfl, .cons _ _ _ _ .nil .nil, by rw [hB.nil]; simp [D.bulks, D.bulk]⟩
      · cases hm
        -- each element
        obtain ⟨l, hl1, hl2⟩ := qhD (R := fun i (p : List D × List Value) => ∃ y, elems[i]? = some y ∧ W.cells? 0 (a.add (i * P.cellsOf e)) (P.cellsOf e) = some p.2 ∧ Ty P n e p.1 ∧ RepDL (g0 W).pub W p.1 p.2 ∧ D.bulks p.1 + (if qej P e then 1 else 0) ≤ B y.1) len (fun i hi => by
          have h1 := hel i hi
          rw [List.getElem?_eq_getElem (by omega)] at h1
          obtain ⟨cs', h2, h3⟩ := Option.bind_eq_some_iff.1 h1
          obtain ⟨xs, h4, h5, h6⟩ := qnh hts hB n e cs' _ he h3
          exact ⟨(xs, cs'), _, List.getElem?_eq_getElem (by omega), h2, h4, h5, h6⟩)
        have htys : ∀ q ∈ l.map (·.1), Ty P n e q := fun q hq => by
          obtain ⟨p, hp, rfl⟩ := List.mem_map.1 hq
          obtain ⟨i, hi⟩ := List.getElem?_of_mem hp
          obtain ⟨y, _, _, h4, _⟩ := hl2 i p hi
          exact h4
        have hbulk : D.bulks ((l.map (·.1)).map (elD (qej P e))) ≤ BA (elems.map (·.1)) := by
          refine quF hB (by simp [hl1, hlen]) (fun i y d hy hd => ?_)
          simp only [List.getElem?_map, Option.map_map, Option.map_eq_some_iff] at hy hd
          obtain ⟨p, hp, rfl⟩ := hy
          obtain ⟨z, hz, rfl⟩ := hd
          obtain ⟨y, h1, _, h4, _, h6⟩ := hl2 i p hp
          rw [hz] at h1
          cases h1
          exact qwB h4 h6
        refine ⟨[.sl ((l.map (·.1)).map (elD (qej P e)))], .inr ⟨l.map (·.1), rfl, by simp only [List.length_map, hl1]; omega, htys⟩, .cons _ _ _ _ ?_ .nil, ?_⟩
        · cases hle : l with
          | nil =>
            rw [hle] at hl1
            simp at hl1
            subst hl1
            exact .sl0 a cap
          | cons p0 l' =>
            rw [← hle]
            have hlpos : 0 < len := by rw [← hl1, hle]; simp
            have hcl : ∀ p ∈ l, p.2.length = P.cellsOf e := fun p hp => by
              obtain ⟨i, hi⟩ := List.getElem?_of_mem hp
              obtain ⟨y, _, h2, _⟩ := hl2 i p hi
              exact (qp2 h2).1
            have hcell : ∀ i p, l[i]? = some p → ∀ r v, p.2[r]? = some v → W.cell? ((a.add (i * P.cellsOf e)).add r) = some v := fun i p hi r v hv => by
              obtain ⟨y, _, h2, _⟩ := hl2 i p hi
              exact (qp2 h2).2 r v hv
            have hspot : a.spot = none := by
              have h0 : l[0]? = some p0 := by rw [hle]; rfl
              have hp0 := hcl p0 (by rw [hle]; simp)
              have hlt : 0 < p0.2.length := by omega
              have := qsv (hcell 0 p0 h0 0 p0.2[0] (by simp [hlt]))
              rw [Nat.zero_mul] at this
              unfold Addr.add at this
              simpa using this
            obtain ⟨b, off, sp⟩ := a
            simp only at hspot
            subst hspot
            have hvlen : (l.map (·.2)).flatten.length = len * P.cellsOf e := by
              rw [qkO _ (fun q hq => by obtain ⟨p, hp, rfl⟩ := List.mem_map.1 hq; exact hcl p hp)]; simp [hl1]
            have hflat : ((l.map (·.1)).map (elD (qej P e))).flatMap D.cells = (l.map (·.1)).flatten := by
              rw [List.flatMap_map, List.flatMap_def]
              congr 1
              rw [List.map_congr_left (g := id)]
              · simp
              · intro q hq; exact qqs (htys q hq)
            have hrep : RepDL (g0 W).pub W (((l.map (·.1)).map (elD (qej P e))).flatMap D.cells) (l.map (·.2)).flatten := by
              rw [hflat]
              refine RepDL.split (by simp) (fun i q r hq hr => ?_)
              simp only [List.getElem?_map, Option.map_eq_some_iff] at hq hr
              obtain ⟨p, hp, rfl⟩ := hq
              obtain ⟨p', hp', rfl⟩ := hr
              rw [hp] at hp'
              cases hp'
              obtain ⟨y, _, _, _, h5, _⟩ := hl2 i p hp
              exact h5
            have hcs : ∀ j v, (l.map (·.2)).flatten[j]? = some v → W.cell? ⟨b, off + j, none⟩ = some v := fun j v hj => by
              obtain ⟨i, r, q, h1, h2, h3⟩ := qoJ _ (fun q hq => by obtain ⟨p, hp, rfl⟩ := List.mem_map.1 hq; exact hcl p hp) j v hj
              simp only [List.getElem?_map, Option.map_eq_some_iff] at h2
              obtain ⟨p, hp, rfl⟩ := h2
              have := hcell i p hp r v h3
              rw [qal, qal] at this
              rw [h1, ← Nat.add_assoc]; exact this
            have hlenD : ((l.map (·.1)).map (elD (qej P e))).length = len := by simp [hl1]
            have hsl := RepD.sl (pub := (g0 W).pub) (w := W) ((l.map (·.1)).map (elD (qej P e))) b off cap (P.cellsOf e) (l.map (·.2)).flatten (by rw [hle]; simp) (fun x hx => ?_) hrep hcs ?_ (by rw [hlenD]; exact hlc) ?_
            · rw [hlenD] at hsl; exact hsl
            · obtain ⟨q, hq, rfl⟩ := List.mem_map.1 hx
              rw [qqs (htys q hq)]
              obtain ⟨p, hp, rfl⟩ := List.mem_map.1 hq
              obtain ⟨i, hi⟩ := List.getElem?_of_mem hp
              obtain ⟨y, _, _, _, h5, _⟩ := hl2 i p hi
              rw [h5.length]; exact hcl p hp
            · have hp : 0 < len * P.cellsOf e := Nat.mul_pos hlpos hpos
              have hlt : (l.map (·.2)).flatten.length - 1 < (l.map (·.2)).flatten.length := by rw [hvlen]; omega
              have := quM (hcs _ _ (List.getElem?_eq_getElem hlt))
              rw [hvlen] at this ⊢
              omega
            · refine hrep.ones ?_
              rw [hflat]
              exact qfn fun q hq => qth (htys q hq)
        · rw [qzs, hB.sl]
          simp only [qFs, if_false]
          omega
    · -- struct
      rename_i fs hu
      simp only [qFt, List.all_eq_true, List.contains_iff_mem, Nat.beq_eq] at hcov
      obtain ⟨⟨hf, htile⟩, hsum⟩ := hcov
      obtain ⟨ys, m, hm, rfl, hlc, hlen, hel⟩ := DataW.trod_struct hu h
      cases hm
      rw [hu]
      obtain ⟨l, hl1, hl2⟩ := qhD (R := fun i (p : List D) => ∃ f y, fs[i]? = some f ∧ ys[i]? = some y ∧ Ty P n f.type p ∧ RepDL (g0 W).pub W p ((cs.drop f.offset).take (P.cellsOf f.type)) ∧ D.bulks p + (if qej P f.type then 1 else 0) ≤ B y.1) fs.size (fun i hi => by
        have hfi : fs[i]? = some fs[i] := by simp [hi]
        have h1 := hel i fs[i] hfi
        rw [List.getElem?_eq_getElem (by omega)] at h1
        obtain ⟨xs, h4, h5, h6⟩ := qnh hts hB n _ _ _ (hf fs[i] (by simp)) h1
        exact ⟨xs, fs[i], _, hfi, List.getElem?_eq_getElem (by omega), h4, h5, h6⟩)
      refine ⟨l.flatten, ⟨l, rfl, by simp [hl1], fun i f q hfi hq => ?_⟩, ?_, ?_⟩
      · obtain ⟨f', y, h1, h2, h3, _⟩ := hl2 i q hq
        have : fs[i]? = some f := by simpa using hfi
        rw [h1] at this; cases this
        exact h3
      · have hall : cs = (fs.toList.map fun f => (cs.drop f.offset).take (P.cellsOf f.type)).flatten := by
          rw [qmm cs _ 0 htile, ← hsum, ← hlc]; simp
        rw [hall]
        refine RepDL.split (by simp [hl1]) (fun i q r hq hr => ?_)
        simp only [List.getElem?_map, Option.map_eq_some_iff] at hr
        obtain ⟨f, hfi, rfl⟩ := hr
        obtain ⟨f', y, h1, h2, h3, h4, _⟩ := hl2 i q hq
        have : fs[i]? = some f := by simpa using hfi
        rw [h1] at this; cases this
        exact h4
      · simp only [hB.agg, if_true]
        have := qiv hB (ys := l) (ds := ys.map (·.1)) (by simp [hl1, hlen]) (fun i q d hq hd => by
          simp only [List.getElem?_map, Option.map_eq_some_iff] at hd
          obtain ⟨z, hz, rfl⟩ := hd
          obtain ⟨f', y, h1, h2, h3, h4, h5⟩ := hl2 i q hq
          rw [hz] at h2; cases h2
          omega)
        omega
    · -- array
      rename_i k e hu
      simp only [qFt, List.contains_iff_mem, Nat.beq_eq] at hcov
      obtain ⟨he, hsum⟩ := hcov
      obtain ⟨ys, m, hm, rfl, hlc, hlen, hel⟩ := DataW.trod_array hu h
      cases hm
      rw [hu]
      obtain ⟨l, hl1, hl2⟩ := qhD (R := fun i (p : List D) => ∃ y, ys[i]? = some y ∧ Ty P n e p ∧ RepDL (g0 W).pub W p ((cs.drop (i * P.cellsOf e)).take (P.cellsOf e)) ∧ D.bulks p + (if qej P e then 1 else 0) ≤ B y.1) k (fun i hi => by
        have h1 := hel i hi
        rw [List.getElem?_eq_getElem (by omega)] at h1
        obtain ⟨xs, h4, h5, h6⟩ := qnh hts hB n _ _ _ he h1
        exact ⟨xs, _, List.getElem?_eq_getElem (by omega), h4, h5, h6⟩)
      refine ⟨l.flatten, ⟨l, rfl, hl1, fun q hq => ?_⟩, ?_, ?_⟩
      · obtain ⟨i, hi⟩ := List.getElem?_of_mem hq
        obtain ⟨y, h2, h3, _⟩ := hl2 i q hi
        exact h3
      · have hall : cs = ((List.range k).map fun i => (cs.drop (i * P.cellsOf e)).take (P.cellsOf e)).flatten := by
          rw [qmB, ← hsum, ← hlc]; simp
        rw [hall]
        refine RepDL.split (by simp [hl1]) (fun i q r hq hr => ?_)
        simp only [List.getElem?_map, Option.map_eq_some_iff] at hr
        obtain ⟨i', hi', rfl⟩ := hr
        have hik : i < k := by rw [← hl1]; exact (List.getElem?_eq_some_iff.1 hq).1
        rw [List.getElem?_range hik] at hi'
        cases hi'
        obtain ⟨y, h2, h3, h4, _⟩ := hl2 i q hq
        exact h4
      · simp only [hB.agg, if_true]
        have := qiv hB (ys := l) (ds := ys.map (·.1)) (by simp [hl1, hlen]) (fun i q d hq hd => by
          simp only [List.getElem?_map, Option.map_eq_some_iff] at hd
          obtain ⟨z, hz, rfl⟩ := hd
          obtain ⟨y, h2, h3, h4, h5⟩ := hl2 i q hq
          rw [hz] at h2; cases h2
          omega)
        omega
    · cases hcov
end
end W

/-
  A law's contract from runs of the small semantics, one for every way that its arguments may read.
-/
set_option linter.unusedSimpArgs false
set_option linter.unusedVariables false
namespace W
open Go (World Value Addr IntKind Program TypeId FuncId Operand Act Oper Next Result Sem Ending Exit Code Func DataW MemPlace Calls TypeDesc Lit)
open Go.ChangeShapes Go.RowKit
section
variable {P : Program} {Hh : Type} {enc : TypeId × Value → Hh} {W : World} {M : Maps}
theorem qAB {r : Go.Reach} {b : Nat} {t : TypeId} {v : Value} (hv : Value.okWide P W r b t v) : (qej P t = true → ∃ cs, v = .agg cs) ∧
    (qej P t = false → (∃ d, P.underlying t = some d ∧ (d = .bool ∨ (∃ k, d = .int k) ∨ d = .string ∨ ∃ e, d = .slice e)) → v.cells.toList = [v]) := by
  unfold Value.okWide at hv
  unfold qej
  split at hv
  · rename_i hu
    rw [hu]
    obtain ⟨cs, rfl, _⟩ := hv
    exact ⟨fun _ => ⟨cs, rfl⟩, fun h => by cases h⟩
  · rename_i hu
    rw [hu]
    obtain ⟨cs, rfl, _⟩ := hv
    exact ⟨fun _ => ⟨cs, rfl⟩, fun h => by cases h⟩
  · rename_i h1 h2
    refine ⟨fun h => ?_, fun _ ⟨d, hu, hd⟩ => ?_⟩
    · exfalso
      split at h
      · rename_i hu; exact h1 _ hu
      · rename_i hu; exact h2 _ _ hu
      · cases h
    · cases v with
      | agg cs => rcases hd with rfl | ⟨k, rfl⟩ | rfl | ⟨e, rfl⟩ <;> simp [Go.Cell.okWide, Go.Cell.ok, hu] at hv
      | _ => rfl
theorem qA3 {ts : List TypeId} (hts : covers P ts = true) {B : DataW Hh → Nat} {BA : List (DataW Hh) → Nat} (hB : Bulk B BA) {r : Go.Reach} {b : Nat} {t : TypeId} {v : Value} {d : DataW Hh} {ps : List MemPlace} (ht : t ∈ ts)
    (hv : Value.okWide P W r b t v) (h : DataW.Trod enc P W 0 (fun _ => true) true t v d ps) : ∃ x, Arg P t x ∧ RepS M (g0 W) W (.d x) v ∧ D.bulk x ≤ B d := by
  obtain ⟨n, hn⟩ := h
  obtain ⟨xs, h1, h2, h3⟩ := qnh hts hB n t _ _ ht hn
  refine ⟨elD (qej P t) xs, ⟨n, xs, h1, rfl⟩, ?_, qwB h1 h3⟩
  obtain ⟨f1, f2⟩ := qAB hv
  cases ha : qej P t with
  | true =>
    obtain ⟨cs, rfl⟩ := f1 ha
    exact .d _ _ (.agg xs cs h2)
  | false =>
    have hcov : qqq P ts t = true := by
      simp only [covers, List.all_eq_true] at hts
      exact hts t ht
    have hc := f2 ha (by
      unfold qqq at hcov
      split at hcov
      · rename_i hu; exact ⟨_, hu, .inl rfl⟩
      · rename_i hu; exact ⟨_, hu, .inr (.inl ⟨_, rfl⟩)⟩
      · rename_i hu; exact ⟨_, hu, .inr (.inr (.inl rfl))⟩
      · rename_i hu; exact ⟨_, hu, .inr (.inr (.inr ⟨_, rfl⟩))⟩
      · rename_i hu; simp [qej, hu] at ha
      · rename_i hu; simp [qej, hu] at ha
      · cases hcov)
    rw [hc] at h2
    cases h2 with
    | cons x _ l _ hx hl =>
      cases hl
      exact .d _ _ hx
theorem qtp {ts : List TypeId} (hts : covers P ts = true) {B : DataW Hh → Nat} {BA : List (DataW Hh) → Nat} (hB : Bulk B BA) {r : Go.Reach} {b : Nat} : ∀ {tys : List TypeId} {vs : List Value} {ds : List (DataW Hh)} {ps : List MemPlace} (j : Nat),
    (∀ t ∈ tys, t ∈ ts) → (∀ (i : Nat) t v, tys[i]? = some t → vs[i]? = some v → Value.okWide P W r b t v) → DataW.TrodAll enc P W 0 (fun _ => true) true tys vs ds ps →
    ∃ xs : List D, All2 (Arg P) tys xs ∧ ArgsRep M (g0 W) W j (xs.map .d) vs ∧ D.bulks xs ≤ BA ds
  | [], vs, ds, ps, j, _, _, h => by
    obtain ⟨rfl, rfl, rfl⟩ := trodAll_nil h
    exact ⟨[], .nil, .nil j, by simp [D.bulks]⟩
  | t :: tys, vs, ds, ps, j, ht, hv, h => by
    obtain ⟨v, vs', d, ds', p, q, rfl, rfl, rfl, hd, hrest⟩ := trodAll_cons h
    obtain ⟨x, h1, h2, h3⟩ := qA3 (M := M) hts hB (ht t (by simp)) (hv 0 t v rfl rfl) hd
    obtain ⟨xs, h4, h5, h6⟩ := qtp hts hB (j + 1) (fun u hu => ht u (by simp [hu])) (fun i u w' hu hw => hv (i + 1) u w' (by simpa using hu) (by simpa using hw)) hrest
    refine ⟨x :: xs, .cons h1 h4, .cons (.s h2) h5, ?_⟩
    rw [hB.c, D.bulks]
    omega
theorem qsM {f : Func} {fid : FuncId} {s : Go.ChangeSpec} {apart fresh handsOn again : Bool} {args : Array Value} {ds gs : List (DataW Hh)} {before : List MemPlace} {tb : TypeId} {ts : List TypeId} {pg : Pg} {i : Nat} {r : Go.Reach} {b : Nat}
    (hgl : GlOk M (g0 W) W) (hm : P.follows .mixedOrders = true) (hT : Tab P M pg) (hx : yU P M pg.ext) (hxlo : yL pg.ext) (hlook : look M.fm fid = some i) (hext : pg.fn i ≠ none)
    (hts : covers P ts = true) (hpar : ∀ t ∈ f.params.toList, t ∈ ts) {B : DataW Hh → Nat} {BA : List (DataW Hh) → Nat} (hB : Bulk B BA)
    (hval : ∀ (j : Nat) t v, f.params[j]? = some t → args[j]? = some v → Value.okWide P W r b t v)
    (hvars : s.vars = []) (hW : DataW.Whole enc P f.params.toList s.vars apart W args.toList ds gs before) (hs : s.fn Hh ds = { results := [.lit (.bool true)], args := ds }) (hres : f.resultTypes = #[tb]) (htb : P.underlying tb = some .bool)
    (hl : Go.laidOutB P = true) (hread : ∀ t ∈ f.params.toList, P.readableRec t = true ∧ t < P.types.size)
    (run : ∀ xs : List D, All2 (Arg P) f.params.toList xs → D.bulks xs ≤ BA ds → ∃ n r, qcO pg n i (xs.map .d) [] = some r ∧ r.pan = false ∧ r.v = .d (.b true)) :
    Calls P fid args W fun e W' => ∃ v, e = .returned v ∧ s.post enc P f apart fresh handsOn again W args v W' := by
  have hW' := hW
  obtain ⟨p, q, hA, hV, rfl, hfz, hnd⟩ := hW
  obtain ⟨xs, h1, h2, h3⟩ := qtp (M := M) hts hB 0 hpar (fun j t v ht hv => hval j t v (by simpa using ht) (by simpa using hv)) hA
  obtain ⟨n, q2, hrun, hp, hv⟩ := run xs h1 h3
  have hc := quy hm hT hx hxlo hrun hlook hext h2 (qAJ M W hgl)
  have ha : args.toList.toArray = args := by simp
  rw [ha] at hc
  refine hc.mono (fun e W' he => ?_)
  cases e with
  | returned v =>
    obtain ⟨_, g', hH, hE, hr⟩ := he
    rw [hv] at hr
    have hvb : v = .bool true := by
      cases hr with
      | s h => cases h with
        | d _ _ h => cases h; rfl
    subst hvb
    exact ⟨_, rfl, qz6 hvars hW' hs hres htb hl hread hE.io (qBW hE)⟩
  | panicked ch =>
    obtain ⟨h, _⟩ := he
    rw [hp] at h; cases h
  | outgrown => exact he.elim
end
end W

/-
  What arguments read as, kind by kind.
-/
set_option linter.unusedSimpArgs false
set_option linter.unusedVariables false
namespace W
open Go (World Value Addr IntKind Program TypeId FuncId Func DataW MemPlace TypeDesc Lit)
theorem qlO {n a b : Nat} (h : look ((List.range n).map fun i => (i, i)) a = some b) : a = b := by
  have key : ∀ (l : List Nat), look (l.map fun i => (i, i)) a = some b → a = b := by
    intro l
    induction l with
    | nil => intro h; cases h
    | cons x l ih =>
      intro h
      simp only [qFz, look, qFA] at h
      split at h
      · rename_i hb
        cases h
        exact qFK hb
      · exact ih h
  exact key _ h
variable {P : Program} {t e : TypeId} {x : D}
theorem qwZ {k : IntKind} (hu : P.underlying t = some (.int k)) (h : Arg P t x) : ∃ z, x = .i k z ∧ (Lit.int k z).wf = true := by
  obtain ⟨n, xs, ht, rfl⟩ := h
  cases n with
  | zero => exact ht.elim
  | succ n =>
    simp only [Ty, hu] at ht
    obtain ⟨z, rfl, hw⟩ := ht
    exact ⟨z, by simp [qej, hu, elD], hw⟩
theorem qAi (hu : P.underlying t = some .bool) (h : Arg P t x) : ∃ z, x = .b z := by
  obtain ⟨n, xs, ht, rfl⟩ := h
  cases n with
  | zero => exact ht.elim
  | succ n =>
    simp only [Ty, hu] at ht
    obtain ⟨z, rfl⟩ := ht
    exact ⟨z, by simp [qej, hu, elD]⟩
inductive SlD {α : Type} (e : α → D) : D → List α → Prop
  | nil : SlD e .nil []
  | sl (L : List α) : SlD e (.sl (L.map e)) L
theorem SlD.len {α : Type} {e : α → D} {x : D} {L : List α} (h : SlD e x L) {H : List Obj} : ql5 .lenL (.d x) H = some (.d (.i .i64 L.length)) := by
  cases h with
  | nil => rfl
  | sl => simp [ql5]
end W

/-
  Tables that the rows list are what the small semantics reads.
-/
set_option linter.unusedSimpArgs false
set_option linter.unusedVariables false
namespace W
open Go (World Value Addr IntKind Program TypeId FuncId Func DataW MemPlace Lit)
theorem qyg {W : World} {b i : Nat} {v : Value} (h : W.cell? ⟨b, i, none⟩ = some v) : i < (g0 W).pub b := by
  show i < (match W.heap[b]? with | some (.cells c _ _) => c.size | _ => 0)
  simp only [World.cell?] at h
  split at h
  · rename_i c t f hb
    rw [hb]
    simp only [Option.isSome_none, qFs, if_false] at h
    exact (Array.getElem?_eq_some_iff.1 h).1
  · cases h
theorem quD {pub : Nat → Nat} {w : World} (k : IntKind) : ∀ zs : List Int, RepDL pub w (zs.map (D.i k)) (zs.map fun z => Value.int k z)
  | [] => .nil
  | z :: zs => .cons _ _ _ _ (.i k z) (quD k zs)
theorem qrA {P : Program} {W : World} {name : String} {k : IntKind} {zs : List Int} {g : Nat} {t e : TypeId} {n : Nat}
    (hg : P.globalNamed name = some g) (hty : (P.globals[g]?).map (·.type) = some t) (ht : P.underlying t = some (.array n e)) (he : P.underlying e = some (.int k)) (hce : P.cellsOf e = 1) (hct : P.cellsOf t = n) :
    ∀ {laid : List (String × DataW Unit)} {ps : List MemPlace}, DataW.LaidVars P W laid ps → (name, Go.Lib.tabData k zs) ∈ laid → Go.Lib.TabIs P W name k zs
  | [], _, _, hm => by cases hm
  | (nm, d) :: rest, ps, h, hm => by
    obtain ⟨g', t', cs, fuel, p, q, hg', ht', hvar, hd, hrest, _⟩ := h
    rcases List.mem_cons.1 hm with e | hm
    · cases e
      obtain rfl := Option.some.inj (hg.symm.trans hg')
      obtain rfl := Option.some.inj (hty.symm.trans ht')
      unfold Go.Lib.TabIs
      rw [hvar, ← Go.Lib.cells_of_tab ht he hce hct hd]
    · exact qrA hg hty ht he hce hct hrest hm
theorem qyC {M : Maps} {P : Program} {W : World} (h2 : qBP M (g0 W) W) (h : ∀ n x, look M.gl n = some x → ∃ name k zs, P.globalNamed name = some n ∧ x = .agg (zs.map (D.i k)) ∧ zs ≠ [] ∧ Go.Lib.TabIs P W name k zs) : GlOk M (g0 W) W := by
  refine ⟨?_, h2⟩
  intro n x hn
  obtain ⟨name, k, zs, hg, rfl, hne, ht⟩ := h n x hn
  refine ⟨zs.map fun z => Value.int k z, quD k zs, fun j v hj => ?_, ?_⟩
  · have hlt : j < zs.length := by
      have := (List.getElem?_eq_some_iff.1 hj).1
      simpa using this
    rw [qFC, ht.cell hg j hlt]
    have : (zs.map fun z => Value.int k z)[j]? = some (.int k (zs.getD j 0)) := by simp [List.getD, hlt]
    rw [this] at hj
    exact hj
  · have hpos : 0 < zs.length := by cases zs with | nil => exact absurd rfl hne | cons => simp
    have := qyg (ht.cell hg (zs.length - 1) (by omega))
    simp only [List.length_map]
    omega
theorem qsB {P : Program} {W : World} {name : String} {g t : Nat} {tn : String} {x : DataW Unit}
    (hg : P.globalNamed name = some g) (hty : (P.globals[g]?).map (·.type) = some t) (hct : P.cellsOf t = 1) :
    ∀ {laid : List (String × DataW Unit)} {ps : List MemPlace}, DataW.LaidVars P W laid ps → (name, DataW.iface tn x) ∈ laid → (∃ ev, W.cell? ⟨g, 0, none⟩ = some ev ∧ (ev = .nilIface ∨ ∃ te pe, ev = .iface te pe)) ∧ 0 < (g0 W).pub g
  | [], _, _, hm => by cases hm
  | (nm, d) :: rest, ps, h, hm => by
    obtain ⟨g', t', cs, fuel, p, q, hg', ht', hvar, hd, hrest, _⟩ := h
    rcases List.mem_cons.1 hm with e | hm
    · cases e
      obtain rfl := Option.some.inj (hg.symm.trans hg')
      obtain rfl := Option.some.inj (hty.symm.trans ht')
      have hcs : ∃ u v, cs.toList = [.iface u v] := by
        generalize hl : cs.toList = l at hd
        cases fuel with
        | zero => simp [DataW.trod] at hd
        | succ fuel =>
          unfold DataW.trod at hd
          split at hd
          all_goals try (exact ⟨_, _, rfl⟩)
          all_goals exfalso
          all_goals try (cases hd; done)
          all_goals try (simp only [Option.map_eq_some_iff, qFB, Prod.mk.injEq, reduceCtorEq, false_and, and_false, exists_false, exists_const] at hd; done)
          all_goals try split at hd
          all_goals try (cases hd; done)
          all_goals try (simp only [Option.map_eq_some_iff, qFB, Prod.mk.injEq, reduceCtorEq, false_and, and_false, exists_false, exists_const] at hd; done)
          all_goals try split at hd
          all_goals try (cases hd; done)
          all_goals try (simp only [Option.map_eq_some_iff, qFB, Prod.mk.injEq, reduceCtorEq, false_and, and_false, exists_false, exists_const] at hd; done)
          all_goals (obtain ⟨en, _, hd⟩ := Option.bind_eq_some_iff.1 hd; simp only at hd; split at hd <;> cases hd)
      obtain ⟨u, v, hcs⟩ := hcs
      have hc1 : cs = #[.iface u v] := by rw [← Array.toList_inj]; exact hcs
      subst hc1
      have hh : ∃ T f, W.heap[g]? = some (.cells #[.iface u v] T f) := by
        simp only [World.var?, hg, Option.bind_some] at hvar
        split at hvar
        · rename_i cs' T f he
          simp only [Option.some.injEq] at hvar
          subst hvar
          exact ⟨T, f, he⟩
        · cases hvar
      obtain ⟨T, f, hh⟩ := hh
      refine ⟨⟨.iface u v, ?_, .inr ⟨u, v, rfl⟩⟩, ?_⟩
      · simp [World.cell?, hh]
      · simp [g0, hh]
    · exact qsB hg hty hct hrest hm
end W

/- The program is what the small semantics runs: the seat's table, shared by its laws. -/
set_option linter.unusedVariables false
set_option linter.unusedSimpArgs false
namespace Go.Proofs.YtdgbjjpdepdmmaaGreatDoor
open Go.ChangeShapes Go.WideShapes Go.ChangeAt Go.RowKit W
set_option maxRecDepth 100000
theorem own : ownKnob Tryz.prog.godebug = none := by kernel_rfl
theorem qAM {H : Type} : Bulk (Rows.uptoBulk (H := H)) Rows.uptoBulkAll :=
  ⟨fun _ => rfl, fun l => by cases l <;> simp [Rows.uptoBulk], rfl, fun _ _ => rfl, fun _ => rfl, rfl, fun _ _ => rfl⟩
def pg0 : W.Pg := ⟨W.prog, fun _ _ _ => none⟩
def maps : Maps := { fm := (List.range 408).map fun i => (i, i), tm := (List.range 378).map fun i => (i, i), gl := [(0, glD 0), (5, glD 5), (6, glD 6), (7, glD 7)], bk := [(141, ⟨4, true⟩), (239, ⟨6, true⟩), (240, ⟨10, true⟩)], gi := [3, 4] }
theorem qFk : kr maps Tryz.prog { loc := [7, 8, 9, 39], org := [(7, 7), (8, 8), (9, 9), (41, 9), (45, 9), (64, 9), (76, 9), (90, 9), (56, 9)], mv := [(10, 8, 1), (19, 6, 1), (16, 4, 1), (13, 6, 1), (7, 5, 1), (7, 1, 9), (7, 3, 0), (5, 0, 8), (5, 3, 1)], bl := [(0, [8, 9, 10])], ll := [] } true Tryz.f7 = some qS := by kernel_rfl
theorem qFp : kr maps Tryz.prog { loc := [1, 2], org := [(1, 1), (2, 2), (13, 2)], mv := [(3, 6, 1)], bl := [], ll := [] } true Tryz.f8 = some qgt := by kernel_rfl
theorem qE2 : kr maps Tryz.prog { loc := [2, 7], org := [(2, 2), (13, 2), (25, 2), (43, 2), (7, 7)], mv := [(13, 0, 0), (13, 3, 0), (3, 3, 0), (3, 4, 1)], bl := [(1, [2, 4, 5, 26, 27, 28]), (0, [2, 4, 5])], ll := [(0, [2, 4, 5, 26, 27, 28])] } true Tryz.f11 = some qjF := by kernel_rfl
theorem qDX : kr maps Tryz.prog { loc := [], org := [], mv := [], bl := [], ll := [] } true Tryz.f14 = some jC := by kernel_rfl
theorem qEo : kr maps Tryz.prog { loc := [], org := [], mv := [], bl := [(1, [0, 3]), (0, [])], ll := [(0, [0, 3])] } true Tryz.f15 = some jA := by kernel_rfl
theorem qEL : kr maps Tryz.prog { loc := [2], org := [(2, 2), (10, 2), (32, 2), (39, 2), (53, 2)], mv := [(13, 0, 0), (13, 3, 0), (4, 5, 0), (3, 4, 0), (3, 2, 0), (3, 3, 1)], bl := [(1, [2, 5, 6]), (0, [2, 5])], ll := [(0, [2, 5, 6])] } true Tryz.f16 = some qf0 := by kernel_rfl
theorem qEY : kr maps Tryz.prog { loc := [2], org := [(2, 2), (15, 2)], mv := [], bl := [], ll := [] } false Tryz.f20 = some qhO := by kernel_rfl
theorem qEC : kr maps Tryz.prog { loc := [], org := [], mv := [], bl := [], ll := [] } false Tryz.f21 = some qlc := by kernel_rfl
theorem qER : kr maps Tryz.prog { loc := [1], org := [(1, 1), (7, 1), (12, 1), (18, 1), (24, 1), (32, 1), (38, 1), (44, 1), (50, 1), (56, 1), (61, 1), (64, 1), (67, 1), (81, 1)], mv := [(6, 3, 0), (5, 3, 0), (4, 3, 0), (1, 4, 0)], bl := [], ll := [] } true Tryz.f22 = some qnV := by kernel_rfl
theorem qEa : kr maps Tryz.prog { loc := [10], org := [(10, 10), (47, 10)], mv := [], bl := [(3, [4, 5, 6, 22, 23, 24]), (2, [4, 5, 6, 22, 23, 24]), (1, [4, 5, 6, 22, 23, 24]), (0, [5])], ll := [(0, [4, 5, 6, 22, 23, 24])], rl := [(2, [4, 5, 6, 8, 22, 23, 24])], rk := [(2, 141)] } true Tryz.f23 = some qkL := by kernel_rfl
theorem qEb : kr maps Tryz.prog { loc := [2, 8, 10, 12, 14, 16], org := [(2, 2), (21, 2), (25, 2), (30, 2), (37, 2), (48, 2), (60, 2), (72, 2), (84, 2), (96, 2), (108, 2), (8, 8), (68, 8), (10, 10), (80, 10), (12, 12), (92, 12), (14, 14), (104, 14), (16, 16), (116, 16)], mv := [(9, 4, 0), (9, 5, 1), (1, 3, 0)], bl := [(1, [0, 2, 4, 38, 39, 40]), (0, [2, 4]), (3, [2, 4, 61, 62, 63]), (2, [2, 4]), (5, [2, 4, 73, 74, 75]), (4, [2, 4]), (7, [2, 4, 85, 86, 87]), (6, [2, 4]), (9, [2, 4, 97, 98, 99]), (8, [2, 4]), (11, [4, 109, 110, 111]), (10, [])], ll := [(0, [0, 2, 4, 38, 39, 40]), (2, [2, 4, 61, 62, 63]), (4, [2, 4, 73, 74, 75]), (6, [2, 4, 85, 86, 87]), (8, [2, 4, 97, 98, 99]), (10, [4, 109, 110, 111])] } false Tryz.f24 = some qdl := by kernel_rfl
theorem qEx : kr maps Tryz.prog { loc := [3, 5, 10, 12], org := [(3, 3), (31, 3), (43, 3), (5, 5), (57, 5), (68, 5), (75, 5), (107, 5), (125, 5), (10, 10), (98, 10), (104, 10), (12, 12), (114, 12), (119, 12)], mv := [(11, 0, 0), (11, 1, 0)], bl := [(1, [0, 17, 18, 19]), (0, [0]), (5, [0, 5, 8, 51, 52, 53, 91, 92, 93]), (4, [0, 5, 51, 52, 53]), (7, [0, 5, 51, 52, 53, 108, 109, 110]), (6, [0, 5, 51, 52, 53]), (3, [0, 51, 52, 53]), (2, [])], ll := [(0, [0, 17, 18, 19]), (2, [0, 51, 52, 53]), (4, [0, 5, 8, 51, 52, 53, 91, 92, 93]), (6, [0, 5, 51, 52, 53, 108, 109, 110])] } false Tryz.f25 = some qcC := by kernel_rfl
theorem qEk : kr maps Tryz.prog { loc := [3, 5, 8, 10], org := [(3, 3), (22, 3), (25, 3), (26, 3), (30, 3), (31, 3), (32, 3), (5, 5), (49, 5), (8, 8), (65, 8), (80, 8), (83, 8), (10, 10), (104, 10)], mv := [], bl := [(1, [0, 15, 16, 17]), (0, [0]), (3, [0, 42, 43, 44]), (2, [0]), (5, [0, 6, 57, 58, 59]), (4, [0]), (7, [0, 90, 91, 92]), (6, [])], ll := [(0, [0, 15, 16, 17]), (2, [0, 42, 43, 44]), (4, [0, 6, 57, 58, 59]), (6, [0, 90, 91, 92])] } false Tryz.f26 = some qci := by kernel_rfl
theorem qEc : kr maps Tryz.prog { loc := [5], org := [(5, 5), (17, 5)], mv := [(7, 1, 0), (7, 2, 1)], bl := [(3, [0, 8, 9, 10, 18, 19, 20]), (2, [0, 8, 9, 10]), (1, [0, 8, 9, 10]), (0, [])], ll := [(0, [0, 8, 9, 10]), (2, [0, 8, 9, 10, 18, 19, 20])] } false Tryz.f28 = some qdR := by kernel_rfl
theorem qE4 : kr maps Tryz.prog { loc := [5], org := [(5, 5), (21, 5)], mv := [(6, 4, 1), (6, 0, 9), (6, 3, 0), (5, 3, 1), (2, 3, 1)], bl := [(1, [2, 3, 4]), (0, [2, 3])], ll := [(0, [2, 3, 4])] } false Tryz.f33 = some f_scan_All := by kernel_rfl
theorem qEy : kr maps Tryz.prog { loc := [], org := [], mv := [(1, 3, 0), (1, 1, 0), (1, 2, 1)], bl := [], ll := [] } true Tryz.f34 = some qcB := by kernel_rfl
theorem qFd : kr maps Tryz.prog { loc := [], org := [], mv := [(1, 1, 0)], bl := [(1, [0, 3, 4]), (0, [])], ll := [(0, [0, 3, 4])] } true Tryz.f35 = some qa0 := by kernel_rfl
theorem qEm : kr maps Tryz.prog { loc := [], org := [], mv := [], bl := [(0, [])], ll := [] } true Tryz.f36 = some qaF := by kernel_rfl
theorem qEr : kr maps Tryz.prog { loc := [1], org := [(1, 1), (7, 1), (12, 1), (19, 1), (26, 1), (32, 1), (39, 1), (45, 1), (52, 1), (58, 1), (64, 1), (70, 1), (78, 1), (84, 1), (93, 1), (104, 1), (110, 1), (119, 1), (129, 1), (139, 1), (145, 1)], mv := [], bl := [(1, [1, 3]), (0, [1]), (3, [1, 4]), (2, [1]), (5, [1, 5]), (4, [1]), (7, [1, 6]), (6, [])], ll := [(0, [1, 3]), (2, [1, 4]), (4, [1, 5]), (6, [1, 6])] } true Tryz.f37 = some qf5 := by kernel_rfl
theorem qEE : kr maps Tryz.prog { loc := [], org := [], mv := [(6, 7, 0), (6, 0, 0), (6, 6, 0)], bl := [(1, [0, 1, 5, 6]), (0, [5])], ll := [(0, [0, 1, 5, 6])] } true Tryz.f38 = some qfj := by kernel_rfl
theorem qEj : kr maps Tryz.prog { loc := [8], org := [(8, 8)], mv := [], bl := [(3, [0, 3, 4, 5, 6]), (2, [0, 3, 4, 5]), (1, [0, 3, 4, 5]), (0, [3])], ll := [(0, [0, 3, 4, 5]), (2, [0, 3, 4, 5, 6])] } true Tryz.f39 = some qhU := by kernel_rfl
theorem qE7 : kr maps Tryz.prog { loc := [3, 6], org := [(3, 3), (12, 3), (17, 3), (22, 3), (34, 3), (39, 3), (45, 3), (6, 6)], mv := [], bl := [(1, [0, 3, 4]), (0, [])], ll := [(0, [0, 3, 4])] } true Tryz.f40 = some qdq := by kernel_rfl
theorem qEz : kr maps Tryz.prog { loc := [3, 5, 7], org := [(3, 3), (30, 3), (36, 3), (51, 3), (57, 3), (62, 3), (143, 3), (151, 3), (163, 3), (171, 3), (5, 5), (46, 5), (7, 7), (65, 7), (80, 7), (85, 7), (123, 7), (131, 7)], mv := [(21, 0, 0), (21, 1, 0), (20, 8, 0), (20, 0, 0), (20, 7, 0)], bl := [(1, [0, 3, 4]), (0, [0, 3]), (5, [0, 3, 6, 7, 8, 9, 11, 12]), (4, [0, 3, 6, 7, 8, 11]), (7, [0, 3, 6, 7, 15]), (6, [0, 3, 6]), (3, [0, 3, 6]), (2, [0, 3]), (9, [0, 3, 18]), (8, [0, 3]), (11, [0, 3, 21, 22]), (10, [])], ll := [(0, [0, 3, 4]), (2, [0, 3, 6]), (4, [0, 3, 6, 7, 8, 9, 11, 12]), (6, [0, 3, 6, 7, 15]), (8, [0, 3, 18]), (10, [0, 3, 21, 22])] } true Tryz.f41 = some qdT := by kernel_rfl
theorem qEQ : kr maps Tryz.prog { loc := [], org := [], mv := [], bl := [(1, [0, 1, 5]), (0, [])], ll := [(0, [0, 1, 5])] } true Tryz.f43 = some qec := by kernel_rfl
theorem qEZ : kr maps Tryz.prog { loc := [], org := [], mv := [], bl := [], ll := [] } true Tryz.f49 = some qoI := by kernel_rfl
theorem qEF : kr maps Tryz.prog { loc := [], org := [], mv := [], bl := [], ll := [] } true Tryz.f50 = some qo3 := by kernel_rfl
theorem qE3 : kr maps Tryz.prog { loc := [], org := [], mv := [(1, 3, 0)], bl := [], ll := [] } true Tryz.f51 = some qiW := by kernel_rfl
theorem qEG : kr maps Tryz.prog { loc := [5], org := [(5, 5), (16, 5)], mv := [(9, 1, 0), (9, 2, 0)], bl := [(3, [3, 8, 9, 10, 17, 18, 19]), (2, [3, 8, 9, 10]), (1, [3, 8, 9, 10]), (0, [3])], ll := [(0, [3, 8, 9, 10]), (2, [3, 8, 9, 10, 17, 18, 19])] } true Tryz.f52 = some qoB := by kernel_rfl
theorem qE6 : kr maps Tryz.prog { loc := [4], org := [(4, 4), (15, 4), (21, 4), (28, 4), (35, 4), (40, 4)], mv := [], bl := [(1, [9, 10, 11]), (0, [])], ll := [(0, [9, 10, 11])] } true Tryz.f53 = some qiR := by kernel_rfl
theorem qEw : kr maps Tryz.prog { loc := [], org := [], mv := [(1, 1, 0), (1, 2, 1), (1, 0, 0), (1, 2, 0)], bl := [], ll := [] } true Tryz.f54 = some yX := by kernel_rfl
theorem qD1 : kr maps Tryz.prog { loc := [], org := [], mv := [(1, 0, 0), (1, 1, 0)], bl := [], ll := [] } true Tryz.f55 = some qlk := by kernel_rfl
theorem qEs : kr maps Tryz.prog { loc := [], org := [], mv := [(1, 1, 0), (1, 2, 1), (1, 0, 0), (1, 2, 0)], bl := [], ll := [] } true Tryz.f56 = some jX := by kernel_rfl
theorem qE5 : kr maps Tryz.prog { loc := [1], org := [(1, 1)], mv := [], bl := [], ll := [] } true Tryz.f58 = some qla := by kernel_rfl
theorem qEg : kr maps Tryz.prog { loc := [], org := [], mv := [(1, 1, 0), (1, 2, 1), (1, 0, 0), (1, 2, 0)], bl := [], ll := [] } true Tryz.f59 = some yE := by kernel_rfl
theorem qFa : kr maps Tryz.prog { loc := [], org := [], mv := [(1, 1, 0), (1, 2, 1), (1, 0, 0), (1, 2, 0)], bl := [], ll := [] } true Tryz.f61 = some yb := by kernel_rfl
theorem qEt : kr maps Tryz.prog { loc := [], org := [], mv := [], bl := [], ll := [] } true Tryz.f64 = some qao := by kernel_rfl
theorem qEl : kr maps Tryz.prog { loc := [], org := [], mv := [(0, 0, 0), (0, 1, 0)], bl := [], ll := [] } false Tryz.f65 = some qlg := by kernel_rfl
theorem qEJ : kr maps Tryz.prog { loc := [], org := [], mv := [(0, 2, 0)], bl := [], ll := [] } false Tryz.f66 = some qcE := by kernel_rfl
theorem qFb : kr maps Tryz.prog { loc := [10, 12], org := [(10, 10), (61, 10), (69, 10), (72, 10), (12, 12), (79, 12), (87, 12)], mv := [], bl := [(1, [2, 3, 4, 5, 6, 26, 27, 28]), (0, [2, 3, 4, 5, 6]), (3, [2, 3, 4, 5, 6]), (2, [2, 3, 4, 5, 6]), (5, [6]), (4, [6])], ll := [(0, [2, 3, 4, 5, 6, 26, 27, 28])], rl := [(2, [2, 3, 4, 5, 6]), (4, [2, 3, 4, 6])], rk := [(2, 239), (4, 240)] } true Tryz.f67 = some qfP := by kernel_rfl
theorem qEH : kr maps Tryz.prog { loc := [], org := [], mv := [], bl := [], ll := [] } true Tryz.f68 = some qd7 := by kernel_rfl
theorem qD7 : kr maps Tryz.prog { loc := [3], org := [(3, 3)], mv := [(4, 0, 0), (4, 1, 0)], bl := [], ll := [] } true Tryz.f70 = some qdZ := by kernel_rfl
theorem qD6 : kr maps Tryz.prog { loc := [3, 5, 7, 8], org := [(3, 3), (10, 3), (13, 3), (22, 3), (33, 3), (44, 3), (93, 3), (94, 3), (100, 3), (109, 3), (114, 3), (119, 3), (138, 3), (143, 3), (51, 3), (53, 3), (60, 3), (5, 5), (7, 7), (8, 8)], mv := [(26, 0, 0), (26, 2, 0), (24, 0, 0), (24, 2, 0), (19, 0, 0), (19, 2, 0), (17, 0, 0), (17, 2, 0), (2, 4, 0)], bl := [(1, [0, 23, 24, 25]), (0, []), (3, [0, 3, 34, 35, 36]), (2, [0, 3]), (4, [])], ll := [(0, [0, 23, 24, 25]), (2, [0, 3, 34, 35, 36])] } false Tryz.f71 = some qdy := by kernel_rfl
theorem qEK : kr maps Tryz.prog { loc := [], org := [], mv := [(0, 0, 0), (0, 1, 0)], bl := [], ll := [] } false Tryz.f72 = some qjD := by kernel_rfl
theorem qE8 : kr maps Tryz.prog { loc := [2, 3], org := [(2, 2), (3, 3)], mv := [(1, 5, 0)], bl := [], ll := [] } true Tryz.f75 = some qk8 := by kernel_rfl
theorem qEq : kr maps Tryz.prog { loc := [3, 4, 6], org := [(3, 3), (7, 3), (17, 3), (23, 3), (28, 3), (38, 3), (49, 3), (54, 3), (65, 3), (98, 3), (101, 3), (106, 3), (109, 3), (116, 3), (128, 3), (131, 3), (4, 4), (69, 4), (73, 4), (74, 4), (79, 4), (6, 6)], mv := [(2, 0, 0), (2, 2, 0), (30, 0, 0), (30, 2, 0), (28, 0, 0), (28, 2, 0), (26, 0, 0), (26, 2, 0), (22, 0, 0), (22, 2, 0), (19, 0, 0), (19, 2, 0), (17, 0, 0), (17, 2, 0), (7, 5, 0)], bl := [(2, [0, 4, 80, 81, 82]), (1, [0, 4]), (0, [])], ll := [(1, [0, 4, 80, 81, 82])] } false Tryz.f77 = some qdA := by kernel_rfl
theorem qEv : kr maps Tryz.prog { loc := [3], org := [(3, 3), (16, 3)], mv := [(5, 4, 1)], bl := [], ll := [] } false Tryz.f82 = some f_scan_All_1 := by kernel_rfl
theorem qD2 : kr maps Tryz.prog { loc := [2, 4], org := [(2, 2), (4, 4), (61, 4), (62, 4)], mv := [(4, 2, 1), (12, 2, 1), (11, 2, 0), (10, 2, 1), (9, 10, 0), (8, 2, 1), (7, 10, 0)], bl := [(0, [0, 2, 3, 4])], ll := [] } true Tryz.f83 = some f_scan_scanner_next := by kernel_rfl
theorem qEV : kr maps Tryz.prog { loc := [], org := [], mv := [(1, 1, 0), (1, 2, 1), (1, 0, 0), (1, 2, 0)], bl := [], ll := [] } true Tryz.f84 = some zi := by kernel_rfl
theorem qEI : kr maps Tryz.prog { loc := [], org := [], mv := [(14, 2, 0), (13, 2, 0), (13, 0, 0), (13, 1, 0), (9, 4, 0)], bl := [(1, [0, 3, 4, 5, 6]), (0, [0, 3, 5]), (3, [0, 9, 10, 12]), (2, [0, 9, 10, 12]), (7, [0, 9, 10, 12]), (6, [0, 9, 10, 12]), (5, [0, 9, 10, 11, 12]), (4, [0, 9, 10, 11])], ll := [(0, [0, 3, 4, 5, 6]), (2, [0, 9, 10, 12]), (4, [0, 9, 10, 11, 12]), (6, [0, 9, 10, 12])] } true Tryz.f85 = some qiT := by kernel_rfl
theorem qD9 : kr maps Tryz.prog { loc := [], org := [], mv := [(1, 1, 0)], bl := [], ll := [] } true Tryz.f86 = some qaL := by kernel_rfl
theorem qEA : kr maps Tryz.prog { loc := [], org := [], mv := [], bl := [], ll := [] } true Tryz.f87 = some qiU := by kernel_rfl
theorem qEP : kr maps Tryz.prog { loc := [], org := [], mv := [], bl := [(1, [0, 3]), (0, [])], ll := [(0, [0, 3])] } true Tryz.f88 = some qdu := by kernel_rfl
theorem qD3 : kr maps Tryz.prog { loc := [], org := [], mv := [], bl := [(3, [0, 3, 4, 5]), (2, [0, 3, 4]), (1, [0, 3, 4]), (0, [3])], ll := [(0, [0, 3, 4]), (2, [0, 3, 4, 5])] } true Tryz.f89 = some qhN := by kernel_rfl
theorem qD5 : kr maps Tryz.prog { loc := [], org := [], mv := [], bl := [(3, [0, 3, 4]), (2, [0, 3]), (1, [0, 3]), (0, [])], ll := [(0, [0, 3]), (2, [0, 3, 4])] } true Tryz.f90 = some qdE := by kernel_rfl
theorem qE9 : kr maps Tryz.prog { loc := [], org := [], mv := [], bl := [(1, [0, 3]), (0, [])], ll := [(0, [0, 3])] } true Tryz.f91 = some qdh := by kernel_rfl
theorem qES : kr maps Tryz.prog { loc := [], org := [], mv := [], bl := [(1, [0, 3, 4]), (0, [])], ll := [(0, [0, 3, 4])] } true Tryz.f93 = some qhF := by kernel_rfl
theorem qEX : kr maps Tryz.prog { loc := [1], org := [(1, 1), (9, 1), (13, 1), (20, 1), (29, 1), (36, 1), (45, 1), (52, 1), (61, 1), (68, 1), (77, 1), (84, 1)], mv := [(21, 9, 0), (21, 0, 0), (21, 8, 0), (17, 9, 0), (17, 0, 0), (17, 8, 0), (13, 9, 0), (13, 0, 0), (13, 8, 0), (9, 9, 0), (9, 0, 0), (9, 8, 0), (5, 9, 0), (5, 0, 0), (5, 8, 0), (1, 3, 0)], bl := [(1, [1, 3, 4]), (0, [1, 3]), (3, [1, 3, 5]), (2, [1, 3]), (5, [1, 3, 6]), (4, [1, 3]), (7, [1, 3, 7]), (6, [1, 3]), (9, [1, 3, 8]), (8, [3])], ll := [(0, [1, 3, 4]), (2, [1, 3, 5]), (4, [1, 3, 6]), (6, [1, 3, 7]), (8, [1, 3, 8])] } true Tryz.f94 = some qiO := by kernel_rfl
theorem qDY : kr maps Tryz.prog { loc := [2], org := [(2, 2), (7, 2), (13, 2)], mv := [], bl := [(1, [1, 2, 5]), (0, [])], ll := [(0, [1, 2, 5])] } true Tryz.f95 = some qd2 := by kernel_rfl
theorem qEU : kr maps Tryz.prog { loc := [4], org := [(4, 4)], mv := [], bl := [(1, [0, 1, 4, 6]), (0, [4])], ll := [(0, [0, 1, 4, 6])] } false Tryz.f96 = some qfl := by kernel_rfl
theorem qEn : kr maps Tryz.prog { loc := [2], org := [(2, 2), (5, 2)], mv := [], bl := [], ll := [] } true Tryz.f98 = some qjK := by kernel_rfl
theorem qE0 : kr maps Tryz.prog { loc := [], org := [], mv := [(1, 0, 0), (1, 4, 0)], bl := [], ll := [] } false Tryz.f99 = some qfg := by kernel_rfl
theorem qCI : kr maps Tryz.prog { loc := [5, 10, 14], org := [(5, 5), (10, 10), (40, 10), (49, 10), (14, 14), (54, 14), (58, 14)], mv := [(5, 1, 0), (5, 2, 1), (5, 0, 0), (5, 2, 0), (4, 0, 0), (4, 1, 0)], bl := [(1, [8, 10, 11, 12, 13]), (0, [])], ll := [(0, [8, 10, 11, 12, 13])] } true Tryz.f100 = some qdC := by kernel_rfl
theorem qDf : kr maps Tryz.prog { loc := [2], org := [(2, 2)], mv := [(1, 1, 0), (1, 3, 1)], bl := [], ll := [] } false Tryz.f101 = some qfX := by kernel_rfl
theorem qBX : kr maps Tryz.prog { loc := [3, 6, 6], org := [(3, 3), (6, 6), (15, 6), (19, 6), (24, 6), (28, 6), (11, 6)], mv := [], bl := [(1, [0, 3, 6]), (0, [0, 3])], ll := [(0, [0, 3, 6])] } false Tryz.f103 = some qdJ := by kernel_rfl
theorem qDJ : kr maps Tryz.prog { loc := [2, 3], org := [(2, 2), (6, 2), (12, 2), (19, 2), (26, 2), (35, 2), (41, 2), (3, 3), (8, 3), (14, 3), (21, 3), (29, 3), (46, 3)], mv := [], bl := [(1, [2, 3, 5]), (0, [])], ll := [(0, [2, 3, 5])] } true Tryz.f105 = some qf2 := by kernel_rfl
theorem qDn : kr maps Tryz.prog { loc := [3, 6], org := [(3, 3), (9, 3), (15, 3), (20, 3), (28, 3), (34, 3), (39, 3), (50, 3), (6, 6)], mv := [(10, 0, 0), (10, 2, 0), (7, 2, 0)], bl := [(1, [0, 3, 5]), (0, [0, 3])], ll := [(0, [0, 3, 5])] } true Tryz.f106 = some qee := by kernel_rfl
theorem qDk : kr maps Tryz.prog { loc := [3, 9, 10, 11, 13, 17], org := [(3, 3), (19, 3), (31, 3), (42, 3), (53, 3), (61, 3), (68, 3), (75, 3), (79, 3), (83, 3), (123, 3), (131, 3), (183, 3), (186, 3), (190, 3), (201, 3), (208, 3), (215, 3), (226, 3), (233, 3), (262, 3), (270, 3), (277, 3), (286, 3), (300, 3), (306, 3), (315, 3), (325, 3), (331, 3), (340, 3), (349, 3), (355, 3), (365, 3), (371, 3), (388, 3), (403, 3), (423, 3), (429, 3), (436, 3), (443, 3), (9, 9), (93, 9), (100, 9), (101, 9), (109, 9), (10, 10), (97, 10), (111, 10), (11, 11), (155, 11), (156, 11), (13, 13), (138, 13), (143, 13), (148, 13), (161, 13), (168, 13), (177, 13), (17, 17), (237, 17), (246, 17), (255, 17)], mv := [(63, 5, 0), (62, 17, 0), (62, 11, 0), (62, 5, 0), (60, 6, 0), (58, 6, 0), (56, 6, 0), (54, 6, 0), (54, 0, 0), (54, 5, 0), (52, 6, 0), (49, 6, 0), (46, 6, 0), (41, 6, 0), (41, 0, 0), (41, 5, 0), (27, 5, 0), (27, 0, 0), (27, 4, 0), (16, 3, 0), (15, 3, 0)], bl := [(1, [0, 3, 8]), (0, [0, 3]), (6, [0, 3, 16]), (5, []), (4, [0, 11, 13, 14]), (3, [0, 11, 13]), (2, [0])], ll := [(0, [0, 3, 8]), (5, [0, 3, 16]), (3, [0, 11, 13, 14])] } true Tryz.f108 = some qd5 := by kernel_rfl
theorem qDq : kr maps Tryz.prog { loc := [], org := [], mv := [(1, 1, 0), (1, 2, 1), (1, 0, 0), (1, 2, 0)], bl := [], ll := [] } true Tryz.f125 = some yx := by kernel_rfl
theorem qC6 : kr maps Tryz.prog { loc := [1], org := [(1, 1), (3, 1), (8, 1)], mv := [], bl := [], ll := [] } true Tryz.f126 = some qgn := by kernel_rfl
theorem qDj : kr maps Tryz.prog { loc := [2], org := [(2, 2), (8, 2), (13, 2), (19, 2)], mv := [], bl := [], ll := [] } true Tryz.f127 = some qiC := by kernel_rfl
theorem qCb : kr maps Tryz.prog { loc := [], org := [], mv := [(1, 1, 0), (1, 2, 1), (1, 0, 0), (1, 2, 0)], bl := [], ll := [] } true Tryz.f128 = some j8 := by kernel_rfl
theorem qDR : kr maps Tryz.prog { loc := [1], org := [(1, 1)], mv := [], bl := [], ll := [] } true Tryz.f129 = some qf8 := by kernel_rfl
theorem qDp : kr maps Tryz.prog { loc := [], org := [], mv := [(1, 1, 0), (1, 2, 1), (1, 0, 0), (1, 2, 0)], bl := [], ll := [] } true Tryz.f130 = some jL := by kernel_rfl
theorem qCO : kr maps Tryz.prog { loc := [], org := [], mv := [], bl := [(1, [0, 1, 7, 8]), (0, [])], ll := [(0, [0, 1, 7, 8])] } true Tryz.f132 = some qat := by kernel_rfl
theorem qDv : kr maps Tryz.prog { loc := [], org := [], mv := [], bl := [(1, [0, 1, 7, 8]), (0, [])], ll := [(0, [0, 1, 7, 8])] } true Tryz.f133 = some yn := by kernel_rfl
theorem qDy : kr maps Tryz.prog { loc := [1, 5], org := [(1, 1), (6, 1), (5, 5)], mv := [], bl := [(1, [3, 7, 8, 9]), (0, [3])], ll := [(0, [3, 7, 8, 9])] } true Tryz.f134 = some qnE := by kernel_rfl
theorem qC7 : kr maps Tryz.prog { loc := [1], org := [(1, 1), (3, 1), (8, 1), (13, 1), (19, 1)], mv := [], bl := [], ll := [] } true Tryz.f135 = some qi3 := by kernel_rfl
theorem qCi : kr maps Tryz.prog { loc := [], org := [], mv := [], bl := [(1, [0, 1, 7, 8]), (0, [])], ll := [(0, [0, 1, 7, 8])] } true Tryz.f136 = some y8 := by kernel_rfl
theorem qCn : kr maps Tryz.prog { loc := [], org := [], mv := [], bl := [(1, [0, 1, 7, 8]), (0, [])], ll := [(0, [0, 1, 7, 8])] } true Tryz.f137 = some yN := by kernel_rfl
theorem qBZ : kr maps Tryz.prog { loc := [4], org := [(4, 4)], mv := [(1, 6, 0)], bl := [], ll := [] } false Tryz.f142 = some qfU := by kernel_rfl
theorem qCK : kr maps Tryz.prog { loc := [], org := [], mv := [], bl := [], ll := [] } true Tryz.f143 = some qai := by kernel_rfl
theorem qDh : kr maps Tryz.prog { loc := [], org := [], mv := [], bl := [], ll := [] } true Tryz.f144 = some yY := by kernel_rfl
theorem qDV : kr maps Tryz.prog { loc := [8], org := [(8, 8), (32, 8)], mv := [(8, 4, 0), (8, 0, 0), (8, 3, 0)], bl := [(1, [0, 1, 6, 7]), (0, [6])], ll := [(0, [0, 1, 6, 7])] } false Tryz.f145 = some qmy := by kernel_rfl
theorem qCs : kr maps Tryz.prog { loc := [1], org := [(1, 1), (4, 1), (7, 1), (11, 1), (16, 1), (22, 1), (25, 1), (29, 1), (34, 1), (39, 1), (45, 1), (52, 1), (56, 1), (60, 1), (64, 1), (69, 1)], mv := [(1, 3, 0)], bl := [(0, [])], ll := [] } true Tryz.f147 = some qml := by kernel_rfl
theorem qDT : kr maps Tryz.prog { loc := [3], org := [(3, 3), (5, 3), (9, 3), (21, 3)], mv := [], bl := [(0, [])], ll := [] } true Tryz.f148 = some qhW := by kernel_rfl
theorem qDb : kr maps Tryz.prog { loc := [2], org := [(2, 2)], mv := [(2, 3, 0), (2, 0, 0), (2, 2, 0)], bl := [], ll := [] } false Tryz.f149 = some qmp := by kernel_rfl
theorem qDM : kr maps Tryz.prog { loc := [2], org := [(2, 2)], mv := [], bl := [], ll := [] } true Tryz.f150 = some qmn := by kernel_rfl
theorem qB9 : kr maps Tryz.prog { loc := [3], org := [(3, 3), (9, 3), (16, 3)], mv := [], bl := [], ll := [] } true Tryz.f151 = some qlm := by kernel_rfl
theorem qDs : kr maps Tryz.prog { loc := [3], org := [(3, 3), (6, 3), (7, 3), (9, 3), (15, 3), (41, 3), (45, 3), (52, 3), (56, 3), (63, 3), (69, 3), (75, 3)], mv := [(2, 5, 0)], bl := [(2, [3, 65, 66]), (1, []), (0, [])], ll := [(1, [3, 65, 66])] } false Tryz.f153 = some qd9 := by kernel_rfl
theorem qCR : kr maps Tryz.prog { loc := [3, 4], org := [(3, 3), (11, 3), (16, 3), (27, 3), (34, 3), (39, 3), (4, 4)], mv := [(5, 4, 0), (4, 0, 0), (4, 1, 0)], bl := [], ll := [] } false Tryz.f154 = some qdp := by kernel_rfl
theorem qB0 : kr maps Tryz.prog { loc := [3, 4, 7], org := [(3, 3), (16, 3), (23, 3), (29, 3), (55, 3), (4, 4), (25, 4), (32, 4), (42, 4), (7, 7)], mv := [(3, 5, 0), (2, 0, 0), (2, 1, 0)], bl := [(1, [0, 3, 43, 44, 45]), (0, [])], ll := [(0, [0, 3, 43, 44, 45])] } false Tryz.f156 = some qdx := by kernel_rfl
theorem qCA : kr maps Tryz.prog { loc := [2, 3], org := [(2, 2), (5, 2), (11, 2), (18, 2), (25, 2), (32, 2), (3, 3), (7, 3), (13, 3), (20, 3), (27, 3), (34, 3)], mv := [], bl := [], ll := [] } true Tryz.f160 = some qjL := by kernel_rfl
theorem qC1 : kr maps Tryz.prog { loc := [], org := [], mv := [], bl := [], ll := [] } true Tryz.f162 = some qmw := by kernel_rfl
theorem qCJ : kr maps Tryz.prog { loc := [4], org := [(4, 4), (8, 4), (14, 4), (21, 4)], mv := [], bl := [], ll := [] } false Tryz.f164 = some qjG := by kernel_rfl
theorem qC4 : kr maps Tryz.prog { loc := [1], org := [(1, 1), (3, 1)], mv := [], bl := [(0, [])], ll := [] } true Tryz.f165 = some qgz := by kernel_rfl
theorem qCQ : kr maps Tryz.prog { loc := [3], org := [(3, 3), (5, 3), (9, 3), (14, 3), (26, 3), (32, 3), (38, 3)], mv := [], bl := [(0, [3])], ll := [] } true Tryz.f166 = some qdm := by kernel_rfl
theorem qCE : kr maps Tryz.prog { loc := [3, 5], org := [(3, 3), (6, 3), (10, 3), (15, 3), (21, 3), (28, 3), (39, 3), (49, 3), (5, 5)], mv := [], bl := [(0, [0, 3]), (2, [0, 3, 50, 51, 52]), (1, [0, 3])], ll := [(1, [0, 3, 50, 51, 52])] } false Tryz.f171 = some qcp := by kernel_rfl
theorem qB3 : kr maps Tryz.prog { loc := [], org := [], mv := [(13, 0, 0), (13, 1, 0), (2, 2, 0)], bl := [(2, [0, 2, 3]), (1, [0, 2, 3]), (0, [2, 3])], ll := [(0, [0, 2, 3])] } false Tryz.f173 = some qaj := by kernel_rfl
theorem qC5 : kr maps Tryz.prog { loc := [], org := [], mv := [], bl := [], ll := [] } true Tryz.f174 = some qet := by kernel_rfl
theorem qCG : kr maps Tryz.prog { loc := [2], org := [(2, 2)], mv := [(5, 3, 0), (4, 0, 0), (4, 1, 0), (2, 2, 0), (2, 0, 0), (2, 1, 0)], bl := [(0, [2, 4])], ll := [] } true Tryz.f175 = some yi := by kernel_rfl
theorem qCq : kr maps Tryz.prog { loc := [], org := [], mv := [], bl := [], ll := [] } true Tryz.f176 = some qfx := by kernel_rfl
theorem qDP : kr maps Tryz.prog { loc := [2], org := [(2, 2)], mv := [(12, 0, 0), (12, 1, 0), (10, 2, 0), (10, 3, 2), (10, 1, 0), (10, 3, 1), (10, 0, 0), (10, 3, 0), (7, 2, 0), (4, 2, 0), (2, 2, 0)], bl := [(0, [2, 3, 4, 5, 6, 7])], ll := [] } true Tryz.f177 = some zM := by kernel_rfl
theorem qDL : kr maps Tryz.prog { loc := [], org := [], mv := [(1, 11, 0), (1, 9, 0), (1, 10, 1)], bl := [], ll := [] } true Tryz.f178 = some qbw := by kernel_rfl
theorem qBT : kr maps Tryz.prog { loc := [2], org := [(2, 2)], mv := [(7, 0, 0), (7, 1, 0), (5, 0, 0), (5, 1, 0), (3, 2, 0)], bl := [(0, [0, 2, 4])], ll := [] } true Tryz.f179 = some yl := by kernel_rfl
theorem qCl : kr maps Tryz.prog { loc := [2], org := [(2, 2)], mv := [], bl := [(1, [0, 2, 5, 6, 7]), (0, [0, 2])], ll := [(0, [0, 2, 5, 6, 7])], cp := [9] } true Tryz.f180 = some je := by kernel_rfl
theorem qDW : kr maps Tryz.prog { loc := [], org := [], mv := [], bl := [(1, [0, 1, 7, 8]), (0, [])], ll := [(0, [0, 1, 7, 8])] } true Tryz.f181 = some jy := by kernel_rfl
theorem qDS : kr maps Tryz.prog { loc := [2], org := [(2, 2), (9, 2), (15, 2), (22, 2), (28, 2)], mv := [], bl := [(1, [1, 2, 5]), (0, [])], ll := [(0, [1, 2, 5])] } true Tryz.f184 = some qdL := by kernel_rfl
theorem qC2 : kr maps Tryz.prog { loc := [1], org := [(1, 1), (6, 1), (13, 1)], mv := [], bl := [(1, [1, 3, 4]), (0, [3])], ll := [(0, [1, 3, 4])] } true Tryz.f185 = some qf6 := by kernel_rfl
theorem qDi : kr maps Tryz.prog { loc := [1], org := [(1, 1), (4, 1), (9, 1), (16, 1), (22, 1), (28, 1)], mv := [], bl := [(1, [1, 3]), (0, [])], ll := [(0, [1, 3])] } true Tryz.f186 = some qdo := by kernel_rfl
theorem qDB : kr maps Tryz.prog { loc := [8], org := [(8, 8), (23, 8), (27, 8), (43, 8)], mv := [(9, 9, 0), (9, 8, 0), (6, 2, 0), (6, 5, 1)], bl := [], ll := [] } false Tryz.f188 = some qfh := by kernel_rfl
theorem qDx : kr maps Tryz.prog { loc := [], org := [], mv := [], bl := [(1, [0, 5]), (0, [0])], ll := [(0, [0, 5])] } false Tryz.f189 = some qgB := by kernel_rfl
theorem qC3 : kr maps Tryz.prog { loc := [4, 7], org := [(4, 4), (7, 7)], mv := [(5, 4, 0), (5, 5, 1)], bl := [], ll := [] } false Tryz.f190 = some qdF := by kernel_rfl
theorem qCW : kr maps Tryz.prog { loc := [3], org := [(3, 3), (21, 3), (26, 3), (39, 3), (45, 3), (52, 3), (63, 3), (66, 3), (99, 3)], mv := [(5, 5, 0), (5, 6, 2), (5, 4, 0), (5, 6, 1)], bl := [(2, [1, 2, 3, 12, 14, 15]), (1, [2, 3, 14]), (0, [])], ll := [(1, [1, 2, 3, 12, 14, 15])] } false Tryz.f191 = some qge := by kernel_rfl
theorem qCr : kr maps Tryz.prog { loc := [1], org := [(1, 1), (3, 1), (10, 1), (14, 1), (19, 1), (26, 1), (30, 1), (35, 1), (40, 1), (46, 1), (55, 1), (59, 1), (64, 1)], mv := [], bl := [(0, [])], ll := [] } true Tryz.f192 = some qf4 := by kernel_rfl
theorem qDc : kr maps Tryz.prog { loc := [3, 4, 6, 9, 12], org := [(3, 3), (19, 3), (23, 3), (28, 3), (33, 3), (38, 3), (45, 3), (50, 3), (53, 3), (59, 3), (85, 3), (102, 3), (114, 3), (119, 3), (133, 3), (138, 3), (146, 3), (148, 3), (164, 3), (182, 3), (189, 3), (204, 3), (225, 3), (4, 4), (6, 6), (9, 9), (12, 12), (90, 12), (94, 12), (95, 12)], mv := [(33, 2, 1), (33, 0, 0), (33, 1, 0), (26, 10, 1), (24, 6, 0), (24, 5, 1), (24, 1, 0), (24, 4, 0), (22, 32, 1), (20, 17, 1), (14, 0, 0), (14, 2, 0), (8, 0, 0), (8, 3, 0)], bl := [(0, [3, 4, 6, 8])], ll := [] } false Tryz.f193 = some qd8 := by kernel_rfl
theorem qDA : kr maps Tryz.prog { loc := [], org := [], mv := [], bl := [(0, [])], ll := [] } false Tryz.f196 = some qfM := by kernel_rfl
theorem qCg : kr maps Tryz.prog { loc := [3], org := [(3, 3)], mv := [(1, 2, 0)], bl := [], ll := [] } true Tryz.f197 = some qc2 := by kernel_rfl
theorem qDO : kr maps Tryz.prog { loc := [4, 9, 13], org := [(4, 4), (9, 9), (31, 9), (40, 9), (13, 13), (45, 13), (50, 13)], mv := [(4, 1, 0), (4, 2, 1), (4, 0, 0), (4, 2, 0), (1, 0, 0), (1, 1, 0)], bl := [(1, [4, 7, 9, 10, 11, 12]), (0, [4])], ll := [(0, [4, 7, 9, 10, 11, 12])] } false Tryz.f200 = some qed := by kernel_rfl
theorem qB7 : kr maps Tryz.prog { loc := [4, 8], org := [(4, 4), (11, 4), (21, 4), (8, 8), (26, 8), (43, 8), (55, 8), (59, 8)], mv := [(7, 8, 0)], bl := [(1, [0, 2, 4, 7]), (0, [])], ll := [(0, [0, 2, 4, 7])] } true Tryz.f201 = some qd6 := by kernel_rfl
theorem qDC : kr maps Tryz.prog { loc := [4], org := [(4, 4), (11, 4)], mv := [(1, 3, 0), (1, 0, 0), (1, 2, 0)], bl := [], ll := [] } true Tryz.f202 = some qd0 := by kernel_rfl
theorem qDt : kr maps Tryz.prog { loc := [1], org := [(1, 1), (3, 1)], mv := [], bl := [(0, [])], ll := [] } true Tryz.f204 = some qgm := by kernel_rfl
theorem qDe : kr maps Tryz.prog { loc := [], org := [], mv := [], bl := [(1, [0, 1, 7, 8]), (0, [])], ll := [(0, [0, 1, 7, 8])] } true Tryz.f230 = some qae := by kernel_rfl
theorem qCV : kr maps Tryz.prog { loc := [], org := [], mv := [(1, 1, 0), (1, 2, 1), (1, 0, 0), (1, 2, 0)], bl := [], ll := [] } true Tryz.f231 = some yf := by kernel_rfl
theorem qCy : kr maps Tryz.prog { loc := [], org := [], mv := [], bl := [(1, [0, 1, 7, 8]), (0, [])], ll := [(0, [0, 1, 7, 8])] } true Tryz.f233 = some yO := by kernel_rfl
theorem qCN : kr maps Tryz.prog { loc := [], org := [], mv := [], bl := [(1, [0, 1, 7, 8]), (0, [])], ll := [(0, [0, 1, 7, 8])] } true Tryz.f234 = some jY := by kernel_rfl
theorem qDa : kr maps Tryz.prog { loc := [], org := [], mv := [], bl := [(1, [0, 1, 7, 8]), (0, [])], ll := [(0, [0, 1, 7, 8])] } true Tryz.f237 = some jZ := by kernel_rfl
theorem qCB : kr maps Tryz.prog { loc := [2], org := [(2, 2), (4, 2)], mv := [], bl := [], ll := [] } true Tryz.f238 = some qeS := by kernel_rfl
theorem qCt : kr maps Tryz.prog { loc := [3], org := [(3, 3), (11, 3), (15, 3), (24, 3), (30, 3), (34, 3), (38, 3)], mv := [(9, 4, 0), (9, 0, 0), (9, 3, 0), (4, 6, 0), (4, 0, 0), (4, 5, 0)], bl := [(0, [])], ll := [] } true Tryz.f242 = some qfk := by kernel_rfl
theorem qDr : kr maps Tryz.prog { loc := [], org := [], mv := [(1, 1, 0), (1, 2, 1), (1, 0, 0), (1, 2, 0)], bl := [], ll := [] } true Tryz.f244 = some qgE := by kernel_rfl
theorem qCz : kr maps Tryz.prog { loc := [2, 3], org := [(2, 2), (5, 2), (11, 2), (18, 2), (25, 2), (3, 3), (7, 3), (13, 3), (20, 3), (27, 3)], mv := [], bl := [], ll := [] } true Tryz.f252 = some qjI := by kernel_rfl
theorem qDg : kr maps Tryz.prog { loc := [8, 9], org := [(8, 8), (9, 9)], mv := [], bl := [(1, [1, 2, 15, 16, 17]), (0, [])], ll := [(0, [1, 2, 15, 16, 17])] } true Tryz.f253 = some jd := by kernel_rfl
theorem qCw : kr maps Tryz.prog { loc := [8, 9], org := [(8, 8), (9, 9)], mv := [], bl := [(1, [1, 2, 15, 16, 17]), (0, [])], ll := [(0, [1, 2, 15, 16, 17])] } true Tryz.f254 = some jc := by kernel_rfl
theorem qCm : kr maps Tryz.prog { loc := [], org := [], mv := [(1, 3, 0), (1, 1, 0), (1, 2, 1), (1, 0, 0), (1, 2, 0)], bl := [], ll := [] } true Tryz.f255 = some qbe := by kernel_rfl
theorem qCv : kr maps Tryz.prog { loc := [3], org := [(3, 3), (9, 3), (12, 3), (17, 3), (24, 3), (33, 3), (41, 3), (46, 3), (55, 3), (62, 3), (78, 3)], mv := [(4, 14, 0)], bl := [(1, [3, 71, 72, 73]), (0, [])], ll := [(0, [3, 71, 72, 73])] } true Tryz.f256 = some qhX := by kernel_rfl
theorem qDd : kr maps Tryz.prog { loc := [], org := [], mv := [], bl := [], ll := [] } false Tryz.f258 = some qhL := by kernel_rfl
theorem qDo : kr maps Tryz.prog { loc := [], org := [], mv := [], bl := [(1, [0, 1, 5]), (0, [0, 5])], ll := [(0, [0, 1, 5])] } true Tryz.f259 = some qa1 := by kernel_rfl
theorem qCj : kr maps Tryz.prog { loc := [], org := [], mv := [(1, 2, 0)], bl := [], ll := [] } true Tryz.f260 = some qfw := by kernel_rfl
theorem qDH : kr maps Tryz.prog { loc := [], org := [], mv := [(1, 1, 0)], bl := [], ll := [] } true Tryz.f261 = some qjJ := by kernel_rfl
theorem qC9 : kr maps Tryz.prog { loc := [], org := [], mv := [(1, 2, 0)], bl := [], ll := [] } true Tryz.f262 = some qje := by kernel_rfl
theorem qDU : kr maps Tryz.prog { loc := [], org := [], mv := [(3, 7, 0), (3, 4, 0), (3, 5, 4), (3, 3, 0), (3, 5, 3), (3, 2, 0), (3, 5, 2), (3, 1, 0), (3, 5, 1)], bl := [], ll := [] } false Tryz.f263 = some qam := by kernel_rfl
theorem qB4 : kr maps Tryz.prog { loc := [], org := [], mv := [], bl := [], ll := [] } true Tryz.f264 = some qaJ := by kernel_rfl
theorem qCU : kr maps Tryz.prog { loc := [4, 10, 12, 16], org := [(4, 4), (10, 10), (12, 12), (44, 12), (53, 12), (16, 16), (58, 16), (63, 16), (70, 16)], mv := [(5, 1, 0), (5, 2, 1), (5, 0, 0), (5, 2, 0)], bl := [(1, [4, 8, 12, 13, 14, 15]), (0, [4, 13])], ll := [(0, [4, 8, 12, 13, 14, 15])] } false Tryz.f266 = some qcD := by kernel_rfl
theorem qCh : kr maps Tryz.prog { loc := [3, 5], org := [(3, 3), (8, 3), (14, 3), (28, 3), (34, 3), (40, 3), (5, 5)], mv := [(3, 0, 0), (3, 3, 0)], bl := [(0, [3])], ll := [] } true Tryz.f272 = some qd3 := by kernel_rfl
theorem qDD : kr maps Tryz.prog { loc := [], org := [], mv := [], bl := [(1, [0, 1, 7, 8]), (0, [])], ll := [(0, [0, 1, 7, 8])] } true Tryz.f292 = some yM := by kernel_rfl
theorem qCu : kr maps Tryz.prog { loc := [11, 13], org := [(11, 11), (48, 11), (13, 13), (56, 13)], mv := [(15, 4, 0)], bl := [(3, [0, 1, 9, 42, 43, 44, 49, 50, 51]), (2, [0, 1, 9, 42, 43, 44]), (1, [0, 1, 9, 42, 43, 44]), (0, [0, 1, 9])], ll := [(0, [0, 1, 9, 42, 43, 44]), (2, [0, 1, 9, 42, 43, 44, 49, 50, 51])] } true Tryz.f293 = some qeG := by kernel_rfl
theorem qCk : kr maps Tryz.prog { loc := [], org := [], mv := [(1, 3, 0), (1, 1, 0), (1, 2, 1), (1, 0, 0), (1, 2, 0)], bl := [], ll := [] } true Tryz.f294 = some qjN := by kernel_rfl
theorem qC8 : kr maps Tryz.prog { loc := [], org := [], mv := [], bl := [], ll := [] } true Tryz.f299 = some zT := by kernel_rfl
theorem qCX : kr maps Tryz.prog { loc := [], org := [], mv := [(17, 1, 0), (15, 1, 0), (13, 1, 0), (11, 1, 0), (9, 1, 0), (7, 1, 0), (4, 1, 0)], bl := [(0, [])], ll := [] } false Tryz.f301 = some qmu := by kernel_rfl
theorem qCZ : kr maps Tryz.prog { loc := [], org := [], mv := [(45, 0, 0), (45, 1, 0)], bl := [(1, [0, 1, 2, 8, 9]), (0, [0, 1, 2, 8, 9]), (2, [0, 1, 2, 8, 9, 10]), (5, [1, 8, 9, 10, 11, 12, 13, 16, 99, 100, 101]), (4, [1, 8, 9, 10, 11, 12, 13, 99, 100, 101]), (3, [9, 12, 13])], ll := [(3, [1, 8, 9, 10, 11, 12, 13, 99, 100, 101])] } false Tryz.f303 = some zR := by kernel_rfl
theorem qDm : kr maps Tryz.prog { loc := [], org := [], mv := [(31, 5, 0), (31, 3, 0), (31, 4, 1), (26, 3, 0), (26, 4, 1), (17, 7, 0), (9, 1, 0), (9, 2, 1), (9, 0, 0), (9, 2, 0), (5, 4, 0), (5, 0, 0), (5, 3, 0)], bl := [(0, [0, 1, 5]), (2, [0, 1, 5, 6, 7, 8, 9, 10]), (1, [])], ll := [(1, [0, 1, 5, 6, 7, 8, 9, 10])] } true Tryz.f322 = some qbM := by kernel_rfl
theorem qDF : kr maps Tryz.prog { loc := [], org := [], mv := [], bl := [], ll := [] } true Tryz.f324 = some yQ := by kernel_rfl
theorem qFi : qEh Tryz.prog maps pg0 := by
  intro f' i hl fn' hf
  have e : f' = i := qlO hl
  subst e
  show FOk Tryz.prog maps f' fn'
  revert hf
  unfold pg0 prog
  simp only []
  refine qJ ⟨_, _, _, Tryz.func7, by decide +kernel, qFk⟩ ?_
  refine qJ ⟨_, _, _, Tryz.func8, by decide +kernel, qFp⟩ ?_
  refine qJ ⟨_, _, _, Tryz.func11, by decide +kernel, qE2⟩ ?_
  refine qJ ⟨_, _, _, Tryz.func14, by decide +kernel, qDX⟩ ?_
  refine qJ ⟨_, _, _, Tryz.func15, by decide +kernel, qEo⟩ ?_
  refine qJ ⟨_, _, _, Tryz.func16, by decide +kernel, qEL⟩ ?_
  refine qJ ⟨_, _, _, Tryz.func20, by decide +kernel, qEY⟩ ?_
  refine qJ ⟨_, _, _, Tryz.func21, by decide +kernel, qEC⟩ ?_
  refine qJ ⟨_, _, _, Tryz.func22, by decide +kernel, qER⟩ ?_
  refine qJ ⟨_, _, _, Tryz.func23, by decide +kernel, qEa⟩ ?_
  refine qJ ⟨_, _, _, Tryz.func24, by decide +kernel, qEb⟩ ?_
  refine qJ ⟨_, _, _, Tryz.func25, by decide +kernel, qEx⟩ ?_
  refine qJ ⟨_, _, _, Tryz.func26, by decide +kernel, qEk⟩ ?_
  refine qJ ⟨_, _, _, Tryz.func28, by decide +kernel, qEc⟩ ?_
  refine qJ ⟨_, _, _, Tryz.func33, by decide +kernel, qE4⟩ ?_
  refine qJ ⟨_, _, _, Tryz.func34, by decide +kernel, qEy⟩ ?_
  refine qJ ⟨_, _, _, Tryz.func35, by decide +kernel, qFd⟩ ?_
  refine qJ ⟨_, _, _, Tryz.func36, by decide +kernel, qEm⟩ ?_
  refine qJ ⟨_, _, _, Tryz.func37, by decide +kernel, qEr⟩ ?_
  refine qJ ⟨_, _, _, Tryz.func38, by decide +kernel, qEE⟩ ?_
  refine qJ ⟨_, _, _, Tryz.func39, by decide +kernel, qEj⟩ ?_
  refine qJ ⟨_, _, _, Tryz.func40, by decide +kernel, qE7⟩ ?_
  refine qJ ⟨_, _, _, Tryz.func41, by decide +kernel, qEz⟩ ?_
  refine qJ ⟨_, _, _, Tryz.func43, by decide +kernel, qEQ⟩ ?_
  refine qJ ⟨_, _, _, Tryz.func49, by decide +kernel, qEZ⟩ ?_
  refine qJ ⟨_, _, _, Tryz.func50, by decide +kernel, qEF⟩ ?_
  refine qJ ⟨_, _, _, Tryz.func51, by decide +kernel, qE3⟩ ?_
  refine qJ ⟨_, _, _, Tryz.func52, by decide +kernel, qEG⟩ ?_
  refine qJ ⟨_, _, _, Tryz.func53, by decide +kernel, qE6⟩ ?_
  refine qJ ⟨_, _, _, Tryz.func54, by decide +kernel, qEw⟩ ?_
  refine qJ ⟨_, _, _, Tryz.func55, by decide +kernel, qD1⟩ ?_
  refine qJ ⟨_, _, _, Tryz.func56, by decide +kernel, qEs⟩ ?_
  refine qJ ⟨_, _, _, Tryz.func58, by decide +kernel, qE5⟩ ?_
  refine qJ ⟨_, _, _, Tryz.func59, by decide +kernel, qEg⟩ ?_
  refine qJ ⟨_, _, _, Tryz.func61, by decide +kernel, qFa⟩ ?_
  refine qJ ⟨_, _, _, Tryz.func64, by decide +kernel, qEt⟩ ?_
  refine qJ ⟨_, _, _, Tryz.func65, by decide +kernel, qEl⟩ ?_
  refine qJ ⟨_, _, _, Tryz.func66, by decide +kernel, qEJ⟩ ?_
  refine qJ ⟨_, _, _, Tryz.func67, by decide +kernel, qFb⟩ ?_
  refine qJ ⟨_, _, _, Tryz.func68, by decide +kernel, qEH⟩ ?_
  refine qJ ⟨_, _, _, Tryz.func70, by decide +kernel, qD7⟩ ?_
  refine qJ ⟨_, _, _, Tryz.func71, by decide +kernel, qD6⟩ ?_
  refine qJ ⟨_, _, _, Tryz.func72, by decide +kernel, qEK⟩ ?_
  refine qJ ⟨_, _, _, Tryz.func75, by decide +kernel, qE8⟩ ?_
  refine qJ ⟨_, _, _, Tryz.func77, by decide +kernel, qEq⟩ ?_
  refine qJ ⟨_, _, _, Tryz.func82, by decide +kernel, qEv⟩ ?_
  refine qJ ⟨_, _, _, Tryz.func83, by decide +kernel, qD2⟩ ?_
  refine qJ ⟨_, _, _, Tryz.func84, by decide +kernel, qEV⟩ ?_
  refine qJ ⟨_, _, _, Tryz.func85, by decide +kernel, qEI⟩ ?_
  refine qJ ⟨_, _, _, Tryz.func86, by decide +kernel, qD9⟩ ?_
  refine qJ ⟨_, _, _, Tryz.func87, by decide +kernel, qEA⟩ ?_
  refine qJ ⟨_, _, _, Tryz.func88, by decide +kernel, qEP⟩ ?_
  refine qJ ⟨_, _, _, Tryz.func89, by decide +kernel, qD3⟩ ?_
  refine qJ ⟨_, _, _, Tryz.func90, by decide +kernel, qD5⟩ ?_
  refine qJ ⟨_, _, _, Tryz.func91, by decide +kernel, qE9⟩ ?_
  refine qJ ⟨_, _, _, Tryz.func93, by decide +kernel, qES⟩ ?_
  refine qJ ⟨_, _, _, Tryz.func94, by decide +kernel, qEX⟩ ?_
  refine qJ ⟨_, _, _, Tryz.func95, by decide +kernel, qDY⟩ ?_
  refine qJ ⟨_, _, _, Tryz.func96, by decide +kernel, qEU⟩ ?_
  refine qJ ⟨_, _, _, Tryz.func98, by decide +kernel, qEn⟩ ?_
  refine qJ ⟨_, _, _, Tryz.func99, by decide +kernel, qE0⟩ ?_
  refine qJ ⟨_, _, _, Tryz.func100, by decide +kernel, qCI⟩ ?_
  refine qJ ⟨_, _, _, Tryz.func101, by decide +kernel, qDf⟩ ?_
  refine qJ ⟨_, _, _, Tryz.func103, by decide +kernel, qBX⟩ ?_
  refine qJ ⟨_, _, _, Tryz.func105, by decide +kernel, qDJ⟩ ?_
  refine qJ ⟨_, _, _, Tryz.func106, by decide +kernel, qDn⟩ ?_
  refine qJ ⟨_, _, _, Tryz.func108, by decide +kernel, qDk⟩ ?_
  refine qJ ⟨_, _, _, Tryz.func125, by decide +kernel, qDq⟩ ?_
  refine qJ ⟨_, _, _, Tryz.func126, by decide +kernel, qC6⟩ ?_
  refine qJ ⟨_, _, _, Tryz.func127, by decide +kernel, qDj⟩ ?_
  refine qJ ⟨_, _, _, Tryz.func128, by decide +kernel, qCb⟩ ?_
  refine qJ ⟨_, _, _, Tryz.func129, by decide +kernel, qDR⟩ ?_
  refine qJ ⟨_, _, _, Tryz.func130, by decide +kernel, qDp⟩ ?_
  refine qJ ⟨_, _, _, Tryz.func132, by decide +kernel, qCO⟩ ?_
  refine qJ ⟨_, _, _, Tryz.func133, by decide +kernel, qDv⟩ ?_
  refine qJ ⟨_, _, _, Tryz.func134, by decide +kernel, qDy⟩ ?_
  refine qJ ⟨_, _, _, Tryz.func135, by decide +kernel, qC7⟩ ?_
  refine qJ ⟨_, _, _, Tryz.func136, by decide +kernel, qCi⟩ ?_
  refine qJ ⟨_, _, _, Tryz.func137, by decide +kernel, qCn⟩ ?_
  refine qJ ⟨_, _, _, Tryz.func142, by decide +kernel, qBZ⟩ ?_
  refine qJ ⟨_, _, _, Tryz.func143, by decide +kernel, qCK⟩ ?_
  refine qJ ⟨_, _, _, Tryz.func144, by decide +kernel, qDh⟩ ?_
  refine qJ ⟨_, _, _, Tryz.func145, by decide +kernel, qDV⟩ ?_
  refine qJ ⟨_, _, _, Tryz.func147, by decide +kernel, qCs⟩ ?_
  refine qJ ⟨_, _, _, Tryz.func148, by decide +kernel, qDT⟩ ?_
  refine qJ ⟨_, _, _, Tryz.func149, by decide +kernel, qDb⟩ ?_
  refine qJ ⟨_, _, _, Tryz.func150, by decide +kernel, qDM⟩ ?_
  refine qJ ⟨_, _, _, Tryz.func151, by decide +kernel, qB9⟩ ?_
  refine qJ ⟨_, _, _, Tryz.func153, by decide +kernel, qDs⟩ ?_
  refine qJ ⟨_, _, _, Tryz.func154, by decide +kernel, qCR⟩ ?_
  refine qJ ⟨_, _, _, Tryz.func156, by decide +kernel, qB0⟩ ?_
  refine qJ ⟨_, _, _, Tryz.func160, by decide +kernel, qCA⟩ ?_
  refine qJ ⟨_, _, _, Tryz.func162, by decide +kernel, qC1⟩ ?_
  refine qJ ⟨_, _, _, Tryz.func164, by decide +kernel, qCJ⟩ ?_
  refine qJ ⟨_, _, _, Tryz.func165, by decide +kernel, qC4⟩ ?_
  refine qJ ⟨_, _, _, Tryz.func166, by decide +kernel, qCQ⟩ ?_
  refine qJ ⟨_, _, _, Tryz.func171, by decide +kernel, qCE⟩ ?_
  refine qJ ⟨_, _, _, Tryz.func173, by decide +kernel, qB3⟩ ?_
  refine qJ ⟨_, _, _, Tryz.func174, by decide +kernel, qC5⟩ ?_
  refine qJ ⟨_, _, _, Tryz.func175, by decide +kernel, qCG⟩ ?_
  refine qJ ⟨_, _, _, Tryz.func176, by decide +kernel, qCq⟩ ?_
  refine qJ ⟨_, _, _, Tryz.func177, by decide +kernel, qDP⟩ ?_
  refine qJ ⟨_, _, _, Tryz.func178, by decide +kernel, qDL⟩ ?_
  refine qJ ⟨_, _, _, Tryz.func179, by decide +kernel, qBT⟩ ?_
  refine qJ ⟨_, _, _, Tryz.func180, by decide +kernel, qCl⟩ ?_
  refine qJ ⟨_, _, _, Tryz.func181, by decide +kernel, qDW⟩ ?_
  refine qJ ⟨_, _, _, Tryz.func184, by decide +kernel, qDS⟩ ?_
  refine qJ ⟨_, _, _, Tryz.func185, by decide +kernel, qC2⟩ ?_
  refine qJ ⟨_, _, _, Tryz.func186, by decide +kernel, qDi⟩ ?_
  refine qJ ⟨_, _, _, Tryz.func188, by decide +kernel, qDB⟩ ?_
  refine qJ ⟨_, _, _, Tryz.func189, by decide +kernel, qDx⟩ ?_
  refine qJ ⟨_, _, _, Tryz.func190, by decide +kernel, qC3⟩ ?_
  refine qJ ⟨_, _, _, Tryz.func191, by decide +kernel, qCW⟩ ?_
  refine qJ ⟨_, _, _, Tryz.func192, by decide +kernel, qCr⟩ ?_
  refine qJ ⟨_, _, _, Tryz.func193, by decide +kernel, qDc⟩ ?_
  refine qJ ⟨_, _, _, Tryz.func196, by decide +kernel, qDA⟩ ?_
  refine qJ ⟨_, _, _, Tryz.func197, by decide +kernel, qCg⟩ ?_
  refine qJ ⟨_, _, _, Tryz.func200, by decide +kernel, qDO⟩ ?_
  refine qJ ⟨_, _, _, Tryz.func201, by decide +kernel, qB7⟩ ?_
  refine qJ ⟨_, _, _, Tryz.func202, by decide +kernel, qDC⟩ ?_
  refine qJ ⟨_, _, _, Tryz.func204, by decide +kernel, qDt⟩ ?_
  refine qJ ⟨_, _, _, Tryz.func230, by decide +kernel, qDe⟩ ?_
  refine qJ ⟨_, _, _, Tryz.func231, by decide +kernel, qCV⟩ ?_
  refine qJ ⟨_, _, _, Tryz.func233, by decide +kernel, qCy⟩ ?_
  refine qJ ⟨_, _, _, Tryz.func234, by decide +kernel, qCN⟩ ?_
  refine qJ ⟨_, _, _, Tryz.func237, by decide +kernel, qDa⟩ ?_
  refine qJ ⟨_, _, _, Tryz.func238, by decide +kernel, qCB⟩ ?_
  refine qJ ⟨_, _, _, Tryz.func242, by decide +kernel, qCt⟩ ?_
  refine qJ ⟨_, _, _, Tryz.func244, by decide +kernel, qDr⟩ ?_
  refine qJ ⟨_, _, _, Tryz.func252, by decide +kernel, qCz⟩ ?_
  refine qJ ⟨_, _, _, Tryz.func253, by decide +kernel, qDg⟩ ?_
  refine qJ ⟨_, _, _, Tryz.func254, by decide +kernel, qCw⟩ ?_
  refine qJ ⟨_, _, _, Tryz.func255, by decide +kernel, qCm⟩ ?_
  refine qJ ⟨_, _, _, Tryz.func256, by decide +kernel, qCv⟩ ?_
  refine qJ ⟨_, _, _, Tryz.func258, by decide +kernel, qDd⟩ ?_
  refine qJ ⟨_, _, _, Tryz.func259, by decide +kernel, qDo⟩ ?_
  refine qJ ⟨_, _, _, Tryz.func260, by decide +kernel, qCj⟩ ?_
  refine qJ ⟨_, _, _, Tryz.func261, by decide +kernel, qDH⟩ ?_
  refine qJ ⟨_, _, _, Tryz.func262, by decide +kernel, qC9⟩ ?_
  refine qJ ⟨_, _, _, Tryz.func263, by decide +kernel, qDU⟩ ?_
  refine qJ ⟨_, _, _, Tryz.func264, by decide +kernel, qB4⟩ ?_
  refine qJ ⟨_, _, _, Tryz.func266, by decide +kernel, qCU⟩ ?_
  refine qJ ⟨_, _, _, Tryz.func272, by decide +kernel, qCh⟩ ?_
  refine qJ ⟨_, _, _, Tryz.func292, by decide +kernel, qDD⟩ ?_
  refine qJ ⟨_, _, _, Tryz.func293, by decide +kernel, qCu⟩ ?_
  refine qJ ⟨_, _, _, Tryz.func294, by decide +kernel, qCk⟩ ?_
  refine qJ ⟨_, _, _, Tryz.func299, by decide +kernel, qC8⟩ ?_
  refine qJ ⟨_, _, _, Tryz.func301, by decide +kernel, qCX⟩ ?_
  refine qJ ⟨_, _, _, Tryz.func303, by decide +kernel, qCZ⟩ ?_
  refine qJ ⟨_, _, _, Tryz.func322, by decide +kernel, qDm⟩ ?_
  refine qJ ⟨_, _, _, Tryz.func324, by decide +kernel, qDF⟩ ?_
  exact qEB
theorem qCY : qwl Tryz.prog maps := by
  intro f' k l hl hk
  have e : f' = k := qlO hl
  subst e
  simp only [maps, W.look, qFA] at hk
  by_cases h141 : f' = 141
  · subst h141
    simp at hk
    subst hk
    exact ⟨32, 58, 196, 3, 4, 0, Tryz.f141, Tryz.func141, by decide +kernel, by kernel_rfl, by kernel_rfl, by kernel_rfl, Tryz.underlying32, by kernel_rfl, by kernel_rfl, Tryz.underlying3, Tryz.underlying4⟩
  rw [if_neg (by simpa using h141)] at hk
  by_cases h239 : f' = 239
  · subst h239
    simp at hk
    subst hk
    exact ⟨31, 56, 257, 3, 4, 0, Tryz.f239, Tryz.func239, by decide +kernel, by kernel_rfl, by kernel_rfl, by kernel_rfl, Tryz.underlying31, by kernel_rfl, by kernel_rfl, Tryz.underlying3, Tryz.underlying4⟩
  rw [if_neg (by simpa using h239)] at hk
  by_cases h240 : f' = 240
  · subst h240
    simp at hk
    subst hk
    exact ⟨33, 63, 258, 3, 4, 0, Tryz.f240, Tryz.func240, by decide +kernel, by kernel_rfl, by kernel_rfl, by kernel_rfl, Tryz.underlying33, by kernel_rfl, by kernel_rfl, Tryz.underlying3, Tryz.underlying4⟩
  rw [if_neg (by simpa using h240)] at hk
  cases hk
theorem tab : Tab Tryz.prog maps pg0 := ⟨qFi, qCY⟩
theorem qFn : Tab Tryz.prog maps W.pgA := ⟨fun f' i hl fn' hf => tab.1 f' i hl fn' (by
  unfold W.pgA at hf
  simp only [qFA] at hf
  split at hf
  · cases hf
  · split at hf
    · cases hf
    · exact hf), tab.2⟩
theorem qDE : Tab Tryz.prog maps W.pg := ⟨fun f' i hl fn' hf => tab.1 f' i hl fn' (by
  unfold W.pg at hf
  simp only [qFA] at hf
  split at hf
  · cases hf
  · split at hf
    · cases hf
    · split at hf
      · cases hf
      · exact hf), tab.2⟩
theorem ixC : IxC Tryz.prog 257 := fun s c w => Tryz.strings_IndexByte s c w
theorem teS : TeC Tryz.prog 304 3 2 := fun fn s base bits ev w h1 h2 h3 => (Tryz.toError_syntax fn s base bits ev w h1 h2 h3).mono (by rintro e w' ⟨N, q1, _, _, q2⟩; exact ⟨N, q1, q2⟩)
theorem teR : TeC Tryz.prog 304 4 1 := fun fn s base bits ev w h1 h2 h3 => (Tryz.toError_range fn s base bits ev w h1 h2 h3).mono (by rintro e w' ⟨N, q1, _, _, q2⟩; exact ⟨N, q1, q2⟩)
theorem qAu {g : Gh} {w : World} {vs : List V} {H : List W.Obj} {r : Cr} (h : ixX vs H = some r) {argv : List Value} (ha : ArgsRep maps g w 0 vs argv) (hH : RelH maps g w H) : qpV Tryz.prog 257 argv.toArray w (zN maps g w r) := by
  have hs : Tryz.f257.body.isSome = true := by kernel_rfl
  obtain ⟨c, hc⟩ := Option.isSome_iff_exists.1 hs
  exact qwL ixC Tryz.func257 (by decide +kernel) hc h ha hH
theorem qzL {g : Gh} {w : World} {vs : List V} {H : List W.Obj} {r : Cr} (h : teX vs H = some r) {argv : List Value} (ha : ArgsRep maps g w 0 vs argv) (hH : RelH maps g w H) : qpV Tryz.prog 304 argv.toArray w (zN maps g w r) := by
  have hs : Tryz.f304.body.isSome = true := by kernel_rfl
  obtain ⟨c, hc⟩ := Option.isSome_iff_exists.1 hs
  exact qAQ teS teR (by simp [maps]) (by simp [maps]) (by decide +kernel) (fun t' ht => qlO ht) Tryz.func304 (by decide +kernel) hc h ha hH
theorem qy6 : yU Tryz.prog maps W.pgA.ext := by
  intro i vs H r h f' hl g w argv ha hH
  have e : f' = i := qlO hl
  subst e
  unfold W.pgA at h
  simp only [qFA] at h
  split at h
  · rename_i hb
    have e2 : f' = 257 := by simpa using hb
    subst e2
    exact qAu h ha hH
  · split at h
    · rename_i hb
      have e2 : f' = 304 := by simpa using hb
      subst e2
      exact qzL h ha hH
    · cases h
theorem qqS : yU Tryz.prog maps W.pg.ext := by
  intro i vs H r h f' hl g w argv ha hH
  have e : f' = i := qlO hl
  subst e
  unfold W.pg at h
  simp only [qFA] at h
  split at h
  · rename_i hb
    have e2 : f' = 257 := by simpa using hb
    subst e2
    exact qAu h ha hH
  · split at h
    · rename_i hb
      have e2 : f' = 304 := by simpa using hb
      subst e2
      exact qzL h ha hH
    · split at h
      · rename_i hb
        have e2 : f' = 261 := by simpa using hb
        subst e2
        unfold kwX at h
        split at h
        · cases h
          cases ha
          obtain ⟨lo, hk⟩ := qqC qww qDu
          obtain ⟨n, hn⟩ := qcz.1 hk
          exact qxV (sound (by kernel_rfl) qFn qy6 qww n) hn hl hH
        · cases h
      · cases h
theorem qFq : Tab Tryz.prog maps W.pgK := ⟨fun f' i hl fn' hf => qDE.1 f' i hl fn' (by
  unfold W.pgK at hf
  simp only [qFA] at hf
  split at hf
  · cases hf
  · exact hf), tab.2⟩
theorem qFl : IxC Tryz.prog 302 := fun s c w => Tryz.stringslite_IndexByte s c w
theorem qDI {g : Gh} {w : World} {vs : List V} {H : List W.Obj} {r : Cr} (h : ixX vs H = some r) {argv : List Value} (ha : ArgsRep maps g w 0 vs argv) (hH : RelH maps g w H) : qpV Tryz.prog 302 argv.toArray w (zN maps g w r) := by
  have hs : Tryz.f302.body.isSome = true := by kernel_rfl
  obtain ⟨c, hc⟩ := Option.isSome_iff_exists.1 hs
  exact qwL qFl Tryz.func302 (by decide +kernel) hc h ha hH
theorem qFc {g : Gh} {w : World} {vs : List V} {H : List W.Obj} {r : Cr} (h : idX vs H = some r) {argv : List Value} (ha : ArgsRep maps g w 0 vs argv) (hH : RelH maps g w H) (hl : W.look maps.fm 14 = some 14) : qpV Tryz.prog 14 argv.toArray w (zN maps g w r) := by
  unfold idX at h
  split at h
  · rename_i t
    rw [qFA] at h
    split at h
    · rename_i hb
      cases h
      simp only [qFt] at hb
      obtain ⟨lo, hk⟩ := qsT (qr3.1 hb.1) (Nat.le_of_ble_eq_true hb.2)
      obtain ⟨n, hn⟩ := qcz.1 hk
      exact qpF (l := [.s t]) (sound (by kernel_rfl) qDE qqS qso n) hn hl hH ha
    · cases h
  · cases h
theorem qE1 {g : Gh} {w : World} {vs : List V} {H : List W.Obj} {r : Cr} (h : idX vs H = some r) {argv : List Value} (ha : ArgsRep maps g w 0 vs argv) (hH : RelH maps g w H) (hl : W.look maps.fm 15 = some 15) : qpV Tryz.prog 15 argv.toArray w (zN maps g w r) := by
  unfold idX at h
  split at h
  · rename_i t
    rw [qFA] at h
    split at h
    · rename_i hb
      cases h
      simp only [qFt] at hb
      have hk := qsD (qr3.1 hb.1) (Nat.le_of_ble_eq_true hb.2) (H := [])
      obtain ⟨n, hn⟩ := qcz.1 hk
      exact qpF (l := [.s t]) (sound (by kernel_rfl) qDE qqS qso n) hn hl hH ha
    · cases h
  · cases h
theorem qBA : yU Tryz.prog maps W.pgK.ext := by
  intro i vs H r h f' hl g w argv ha hH
  have e : f' = i := qlO hl
  subst e
  unfold W.pgK at h
  simp only [qFA] at h
  split at h
  · rename_i hb
    simp only [Bool.or_eq_true] at hb
    rcases hb with hb | hb
    · obtain rfl := qFK hb
      exact qFc h ha hH hl
    · obtain rfl := qFK hb
      exact qE1 h ha hH hl
  · split at h
    · rename_i hb
      have e2 : f' = 302 := by simpa using hb
      subst e2
      exact qDI h ha hH
    · exact qqS _ _ _ _ h _ hl g w argv ha hH
end Go.Proofs.YtdgbjjpdepdmmaaGreatDoor

set_option linter.unusedSimpArgs false
set_option linter.unusedVariables false
namespace W
open Go (IntKind BinOp UnOp)
set_option maxRecDepth 20000
def isZ (r : Option Cr) (b : Bool) : Bool := match r with
  | some ⟨false, true, .d (.i .i64 e), _, _⟩ => (match eqI e 0, b with | true, true => true | false, false => true | _, _ => false)
  | _ => false
theorem qnv {pg : Pg} (hx : yL pg.ext) {N f : Nat} {vs : List V} {H : List Obj} {b : Bool} (h : isZ (qeM pg N f vs H) b = true) : ∃ e lo, kn pg f vs H = some ⟨false, true, .d (.i .i64 e), H, lo⟩ ∧ decide (e = 0) = b := by
  unfold isZ at h
  split at h
  · rename_i e H' lo hr
    refine ⟨e, lo, qsi hx (qsc hr), ?_⟩
    have he : decide (e = 0) = eqI e 0 := by
      cases hq : eqI e 0 with
      | true => simpa using qyZ hq
      | false =>
        by_cases h0 : e = 0
        · subst h0; cases hq
        · simpa using h0
    rw [he]
    split at h
    · rename_i h1; rw [h1]
    · rename_i h1; rw [h1]
    · cases h
  · cases h
def tI : List D := [.i .i64 1, .i .i64 0, .s [], .nil]
def lD (x y z : Bool) : D := .agg [.s [76], .nil, .nil, .nil, .sl [.agg [.s [82], .b y, .s [], .sl [.agg [.s [120], .b false, .i .i64 1, .i .i64 0, .s [], .nil]]]], .sl [.agg [.s [118], .b x, .i .i64 1, .i .i64 0, .s [], .nil]],
  .sl [.agg [.s [102], .b z, .nil, .i .i64 1, .i .i64 0, .s [], .nil, .nil, .nil, .sl [.agg [.i .i64 0, .i .i64 1, .i .i64 0, .s [], .nil, .i .i32 1, .s [], .nil]]]], .nil]
def eL (op : Int) (s : List Nat) : D := .agg [.i .i64 op, .i .i64 1, .i .i64 0, .s [], .nil, .i .i32 0, .s s, .nil]
def qpj (i : Bool) : D := .sl (if i then [.s [79, 117, 116], .s [76]] else [.s [79, 117, 116]])
def m0 (i : Bool) : D := .agg [.s [77], qpj i, .nil, .nil, .nil, .nil, .nil, .sl [.agg [.i .i64 14, .sl [eL 1 [76, 46, 118]], .nil, .nil]]]
def m1 (i : Bool) : D := .agg [.s [77], qpj i, .nil, .nil, .nil, .sl [.agg [.s [114], .b false, .i .i64 8, .i .i64 0, .s [76, 46, 82], .nil]], .nil, .nil]
def m2 (i : Bool) : D := .agg [.s [77], qpj i, .nil, .nil, .nil, .nil, .nil, .sl [.agg [.i .i64 14, .sl [eL 6 [76, 46, 102]], .nil, .nil]]]
def m3 (i : Bool) : D := .agg [.s [77], qpj i, .nil, .nil, .nil, .nil, .nil, .sl [.agg [.i .i64 0, .sl [eL 1 [76, 46, 118], eL 0 []], .nil, .nil]]]
noncomputable def both (m : D) (l : D) (ok : Bool) : Bool := isZ (qeM pgK 6000 11 [.d m, .d (.sl [l])] []) ok && isZ (qeM pgK 6000 16 [.d m, .d (.sl [l])] []) ok
noncomputable def lone (m : D) (ok : Bool) : Bool := isZ (qeM pgK 6000 11 [.d m, .d .nil] []) ok && isZ (qeM pgK 6000 16 [.d m, .d .nil] []) ok
end W

