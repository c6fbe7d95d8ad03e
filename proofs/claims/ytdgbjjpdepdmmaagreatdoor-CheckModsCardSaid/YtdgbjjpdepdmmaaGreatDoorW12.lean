/-
  A module is looked at beside others: what it imports is there, and exported; both checkers, of every mask, use and import.: part 12 of what the proof rests on (a value semantics for a part of the language, sound against the model; the walks).
-/
import Derived.Test.YtdgbjjpdepdmmaaGreatDoorW11


set_option linter.unusedSimpArgs false
set_option linter.unusedVariables false
open Bool renaming false_eq_true → qFs, and_eq_true → qFt, cond_eq_ite → qFA, and_self → qFD, or_true → qFE, or_self → qFM, not_true → qFO
open List renaming getElem?_cons_zero → qFu, getElem?_cons_succ → qFy, map_cons → qFz, length_cons → qFF, length_nil → qFG, map_nil → qFI, set_cons_zero → qFJ, set_cons_succ → qFL, take_succ_cons → qFP, drop_zero → qFQ
open Option renaming map_some → qFv, bind_eq_some_iff → qFB, bind_eq_bind → qFH, pure_def → qFN
open Nat renaming le_refl → qFw, beq → qFx, zero_add → qFC, eq_of_beq_eq_true → qFK
namespace W
open Go (IntKind BinOp UnOp)
set_option maxRecDepth 20000
theorem qc5 {m l : D} {ok : Bool} (h : both m l ok = true) : (∃ e lo, kn pgK 11 [.d m, .d (.sl [l])] [] = some ⟨false, true, .d (.i .i64 e), [], lo⟩ ∧ decide (e = 0) = ok) ∧ ∃ e lo, kn pgK 16 [.d m, .d (.sl [l])] [] = some ⟨false, true, .d (.i .i64 e), [], lo⟩ ∧ decide (e = 0) = ok := by
  simp only [both, qFt] at h
  exact ⟨qnv qlN h.1, qnv qlN h.2⟩
theorem qc7 {m : D} {ok : Bool} (h : lone m ok = true) : (∃ e lo, kn pgK 11 [.d m, .d .nil] [] = some ⟨false, true, .d (.i .i64 e), [], lo⟩ ∧ decide (e = 0) = ok) ∧ ∃ e lo, kn pgK 16 [.d m, .d .nil] [] = some ⟨false, true, .d (.i .i64 e), [], lo⟩ ∧ decide (e = 0) = ok := by
  simp only [lone, qFt] at h
  exact ⟨qnv qlN h.1, qnv qlN h.2⟩
theorem qBr {mask u : Nat} (hu : Int.tmod (u : Nat) 4 = 0) : ∃ lo, kn pgK 7 [.d (.i .u8 (mask : Nat)), .d (.i .u8 (u : Nat)), .d (.b true)] [] = some ⟨false, true, .d (.b true), [], lo⟩ := by
  obtain ⟨lo0, hkn⟩ := qcl
  obtain ⟨⟨e1, l1, c1, q1⟩, ⟨e2, l2, c2, q2⟩⟩ := qc5 (r0t (decide (0 < qeZ .u8 (mask : Nat) 1)) (decide (0 < qeZ .u8 (mask : Nat) 2)) (decide (0 < qeZ .u8 (mask : Nat) 4)))
  obtain ⟨⟨e3, l3, c3, q3⟩, ⟨e4, l4, c4, q4⟩⟩ := qc7 (r0l true)
  simp only [lD, m0, eL, qpj, ↓reduceIte, qFs] at c1 c2 c3 c4
  simp only [decide_eq_false_iff_not] at q3 q4
  have q3 : (e3 = 0) = False := eq_false q3
  have q4 : (e4 = 0) = False := eq_false q4
  have hro : roomy 16 2 = true := rfl
  rw [zl (fn := qS) rfl rfl]
  simp only [qS, ql, qFC, Nat.reduceAdd, qq, qFG, qr, qs, qk, qb, zk, qF, qG, qZ, qa, qc, qt, qFI, qh, qY, hkn, qu, qi, z8, kZ, qC, qx, yr, qFO, qFv, qm, qB, qK, qFs, ↓reduceIte, qR, zc, qFz, jQ, kP, jb, qFF, Nat.reduceLT, jP, qFJ, zS, zQ, zF, jI, zH, kK, zf, qM, zz, qU, yu, ke, qX, Nat.reduceEqDiff, qD, zB, qw, zy, zq, kC, qaD, qcy, kS, qFD, kY, kD, kI, kW, reduceCtorEq, qg, ko, kM, qFE, qev, zh, qy, yC, Nat.reduceLeDiff, j0, qFQ, qFP, List.take_zero, kA, qmv, qFL, jS, yK, qdS, List.cons_append, List.nil_append, List.drop_succ_cons, List.append_nil, kw, j2, List.reduceReplicate, zW, jt, jN, qdP, yP, jK, y7, jJ, qie, qbX, jE, yp, y1, qcd, qdb, qhY, qaV, qdj, qdk, qeB, qc6, qer, qbU, qdd, jh, qbT, kg, qa9, qf, qbY, qe1, qew, yA, qjy, qpt, qFy, qFu, qne, qaX, qlI, qc4, qk5, decide_true, hro, qpv, qc9, qax, qaT, qbL, ky, Int.reduceEq, qes, hu, qz, zD, ki, kq, kG, qI, kJ, qO, qj, zA, qT, qo, zu, kQ, qaR, kO, jB, kR, qcg, qe, qH, c1, qd, kl, q1, qFM, qcK, beq_self_eq_true, yk, qak, c2, q2, c3, q3, decide_false, c4, q4, kj, qP, qQ, qn, kx, ja, qp, qE, kf]
  all_goals exact ⟨_, zY rfl (Nat.zero_le _) (Nat.zero_le _)⟩
theorem qBm {mask u : Nat} (hu : Int.tmod (u : Nat) 4 = 0) : ∃ lo, kn pgK 7 [.d (.i .u8 (mask : Nat)), .d (.i .u8 (u : Nat)), .d (.b false)] [] = some ⟨false, true, .d (.b true), [], lo⟩ := by
  obtain ⟨lo0, hkn⟩ := qcl
  obtain ⟨⟨e1, l1, c1, q1⟩, ⟨e2, l2, c2, q2⟩⟩ := qc5 (r0f (decide (0 < qeZ .u8 (mask : Nat) 1)) (decide (0 < qeZ .u8 (mask : Nat) 2)) (decide (0 < qeZ .u8 (mask : Nat) 4)))
  obtain ⟨⟨e3, l3, c3, q3⟩, ⟨e4, l4, c4, q4⟩⟩ := qc7 (r0l false)
  simp only [lD, m0, eL, qpj, ↓reduceIte, qFs] at c1 c2 c3 c4
  simp only [decide_eq_false_iff_not] at q3 q4
  have q3 : (e3 = 0) = False := eq_false q3
  have q4 : (e4 = 0) = False := eq_false q4
  have hro : roomy 16 2 = true := rfl
  rw [zl (fn := qS) rfl rfl]
  simp only [qS, ql, qFC, Nat.reduceAdd, qq, qFG, qr, qs, qk, qb, zk, qF, qG, qZ, qa, qc, qt, qFI, qh, qY, hkn, qu, qi, z8, kZ, qC, qx, yr, qFO, qFv, qm, qB, qK, qFs, ↓reduceIte, qR, zc, qFz, jQ, kP, jb, qFF, Nat.reduceLT, jP, qFJ, zS, zQ, zF, jI, zH, kK, zf, qM, zz, qU, yu, ke, qX, Nat.reduceEqDiff, qD, zB, qw, zy, zq, kC, qaD, qcy, kS, qFD, kY, kD, kI, kW, reduceCtorEq, qg, ko, kM, qFE, qev, zh, qy, yC, Nat.reduceLeDiff, j0, qFQ, qFP, List.take_zero, kA, qmv, qFL, jS, yK, qdS, List.cons_append, List.nil_append, List.drop_succ_cons, List.append_nil, kw, j2, List.reduceReplicate, zW, jt, jN, qdP, yP, jK, y7, jJ, qie, qbX, jE, yp, y1, qcd, qdb, qhY, qaV, qdj, qdk, qeB, qc6, qer, qbU, qdd, jh, qbT, kg, qa9, Int.reduceEq, qes, hu, qz, zD, decide_true, qf, qbY, qe1, qax, yA, qaT, qbL, ky, ki, kq, kG, ku, qI, qW, zV, qO, qj, zA, qT, qo, zu, kQ, qlH, qaR, qni, kO, jB, kR, qcg, qe, qH, c1, qd, kl, q1, qFM, qcK, beq_self_eq_true, yk, qak, c2, q2, kJ, c3, q3, decide_false, c4, q4, kj, qP, qQ, qn, kx, ja, qp, qE, kf]
  all_goals exact ⟨_, zY rfl (Nat.zero_le _) (Nat.zero_le _)⟩
theorem qAA {mask u : Nat} (hu : Int.tmod (u : Nat) 4 = 1) : ∃ lo, kn pgK 7 [.d (.i .u8 (mask : Nat)), .d (.i .u8 (u : Nat)), .d (.b true)] [] = some ⟨false, true, .d (.b true), [], lo⟩ := by
  obtain ⟨lo0, hkn⟩ := qcl
  obtain ⟨⟨e1, l1, c1, q1⟩, ⟨e2, l2, c2, q2⟩⟩ := qc5 (r1t (decide (0 < qeZ .u8 (mask : Nat) 1)) (decide (0 < qeZ .u8 (mask : Nat) 2)) (decide (0 < qeZ .u8 (mask : Nat) 4)))
  obtain ⟨⟨e3, l3, c3, q3⟩, ⟨e4, l4, c4, q4⟩⟩ := qc7 (r1l true)
  simp only [lD, m1, eL, qpj, ↓reduceIte, qFs] at c1 c2 c3 c4
  simp only [decide_eq_false_iff_not] at q3 q4
  have q3 : (e3 = 0) = False := eq_false q3
  have q4 : (e4 = 0) = False := eq_false q4
  have hro : roomy 16 2 = true := rfl
  rw [zl (fn := qS) rfl rfl]
  simp only [qS, ql, qFC, Nat.reduceAdd, qq, qFG, qr, qs, qk, qb, zk, qF, qG, qZ, qa, qc, qt, qFI, qh, qY, hkn, qu, qi, z8, kZ, qC, qx, yr, qFO, qFv, qm, qB, qK, qFs, ↓reduceIte, qR, zc, qFz, jQ, kP, jb, qFF, Nat.reduceLT, jP, qFJ, zS, zQ, zF, jI, zH, kK, zf, qM, zz, qU, yu, ke, qX, Nat.reduceEqDiff, qD, zB, qw, zy, zq, kC, qaD, qcy, kS, qFD, kY, kD, kI, kW, reduceCtorEq, qg, ko, kM, qFE, qev, zh, qy, yC, Nat.reduceLeDiff, j0, qFQ, qFP, List.take_zero, kA, qmv, qFL, jS, yK, qdS, List.cons_append, List.nil_append, List.drop_succ_cons, List.append_nil, kw, j2, List.reduceReplicate, zW, jt, jN, qdP, yP, jK, y7, jJ, qie, qbX, jE, yp, y1, qcd, qdb, qhY, qaV, qdj, qdk, qeB, qc6, qer, qbU, qdd, jh, qbT, kg, qa9, qf, qbY, qe1, qew, yA, qjy, qpt, qFy, qFu, qne, qaX, qlI, qc4, qk5, decide_true, hro, qpv, qc9, qax, qaT, qbL, ky, Int.reduceEq, qes, hu, qz, zD, decide_false, ki, kq, kG, qI, kJ, qO, qj, zA, qT, qo, zu, kQ, qaR, kO, jB, kR, qcg, qe, qH, c1, qd, kl, q1, qFM, qcK, beq_self_eq_true, yk, qak, c2, q2, c3, q3, c4, q4, kj, qP, qQ, qn, kx, ja, qp, qE, kf]
  all_goals exact ⟨_, zY rfl (Nat.zero_le _) (Nat.zero_le _)⟩
theorem qAZ {mask u : Nat} (hu : Int.tmod (u : Nat) 4 = 1) : ∃ lo, kn pgK 7 [.d (.i .u8 (mask : Nat)), .d (.i .u8 (u : Nat)), .d (.b false)] [] = some ⟨false, true, .d (.b true), [], lo⟩ := by
  obtain ⟨lo0, hkn⟩ := qcl
  obtain ⟨⟨e1, l1, c1, q1⟩, ⟨e2, l2, c2, q2⟩⟩ := qc5 (r1f (decide (0 < qeZ .u8 (mask : Nat) 1)) (decide (0 < qeZ .u8 (mask : Nat) 2)) (decide (0 < qeZ .u8 (mask : Nat) 4)))
  obtain ⟨⟨e3, l3, c3, q3⟩, ⟨e4, l4, c4, q4⟩⟩ := qc7 (r1l false)
  simp only [lD, m1, eL, qpj, ↓reduceIte, qFs] at c1 c2 c3 c4
  simp only [decide_eq_false_iff_not] at q3 q4
  have q3 : (e3 = 0) = False := eq_false q3
  have q4 : (e4 = 0) = False := eq_false q4
  have hro : roomy 16 2 = true := rfl
  rw [zl (fn := qS) rfl rfl]
  simp only [qS, ql, qFC, Nat.reduceAdd, qq, qFG, qr, qs, qk, qb, zk, qF, qG, qZ, qa, qc, qt, qFI, qh, qY, hkn, qu, qi, z8, kZ, qC, qx, yr, qFO, qFv, qm, qB, qK, qFs, ↓reduceIte, qR, zc, qFz, jQ, kP, jb, qFF, Nat.reduceLT, jP, qFJ, zS, zQ, zF, jI, zH, kK, zf, qM, zz, qU, yu, ke, qX, Nat.reduceEqDiff, qD, zB, qw, zy, zq, kC, qaD, qcy, kS, qFD, kY, kD, kI, kW, reduceCtorEq, qg, ko, kM, qFE, qev, zh, qy, yC, Nat.reduceLeDiff, j0, qFQ, qFP, List.take_zero, kA, qmv, qFL, jS, yK, qdS, List.cons_append, List.nil_append, List.drop_succ_cons, List.append_nil, kw, j2, List.reduceReplicate, zW, jt, jN, qdP, yP, jK, y7, jJ, qie, qbX, jE, yp, y1, qcd, qdb, qhY, qaV, qdj, qdk, qeB, qc6, qer, qbU, qdd, jh, qbT, kg, qa9, Int.reduceEq, qes, hu, qz, zD, decide_false, decide_true, qf, qbY, qe1, qax, yA, qaT, qbL, ky, ki, kq, kG, ku, qI, qW, zV, qO, qj, zA, qT, qo, zu, kQ, qlH, qaR, qni, kO, jB, kR, qcg, qe, qH, c1, qd, kl, q1, qFM, qcK, beq_self_eq_true, yk, qak, c2, q2, kJ, c3, q3, c4, q4, kj, qP, qQ, qn, kx, ja, qp, qE, kf]
  all_goals exact ⟨_, zY rfl (Nat.zero_le _) (Nat.zero_le _)⟩
theorem qAD {mask u : Nat} (hu : Int.tmod (u : Nat) 4 = 2) : ∃ lo, kn pgK 7 [.d (.i .u8 (mask : Nat)), .d (.i .u8 (u : Nat)), .d (.b true)] [] = some ⟨false, true, .d (.b true), [], lo⟩ := by
  obtain ⟨lo0, hkn⟩ := qcl
  obtain ⟨⟨e1, l1, c1, q1⟩, ⟨e2, l2, c2, q2⟩⟩ := qc5 (r2t (decide (0 < qeZ .u8 (mask : Nat) 1)) (decide (0 < qeZ .u8 (mask : Nat) 2)) (decide (0 < qeZ .u8 (mask : Nat) 4)))
  obtain ⟨⟨e3, l3, c3, q3⟩, ⟨e4, l4, c4, q4⟩⟩ := qc7 (r2l true)
  simp only [lD, m2, eL, qpj, ↓reduceIte, qFs] at c1 c2 c3 c4
  simp only [decide_eq_false_iff_not] at q3 q4
  have q3 : (e3 = 0) = False := eq_false q3
  have q4 : (e4 = 0) = False := eq_false q4
  have hro : roomy 16 2 = true := rfl
  rw [zl (fn := qS) rfl rfl]
  simp only [qS, ql, qFC, Nat.reduceAdd, qq, qFG, qr, qs, qk, qb, zk, qF, qG, qZ, qa, qc, qt, qFI, qh, qY, hkn, qu, qi, z8, kZ, qC, qx, yr, qFO, qFv, qm, qB, qK, qFs, ↓reduceIte, qR, zc, qFz, jQ, kP, jb, qFF, Nat.reduceLT, jP, qFJ, zS, zQ, zF, jI, zH, kK, zf, qM, zz, qU, yu, ke, qX, Nat.reduceEqDiff, qD, zB, qw, zy, zq, kC, qaD, qcy, kS, qFD, kY, kD, kI, kW, reduceCtorEq, qg, ko, kM, qFE, qev, zh, qy, yC, Nat.reduceLeDiff, j0, qFQ, qFP, List.take_zero, kA, qmv, qFL, jS, yK, qdS, List.cons_append, List.nil_append, List.drop_succ_cons, List.append_nil, kw, j2, List.reduceReplicate, zW, jt, jN, qdP, yP, jK, y7, jJ, qie, qbX, jE, yp, y1, qcd, qdb, qhY, qaV, qdj, qdk, qeB, qc6, qer, qbU, qdd, jh, qbT, kg, qa9, qf, qbY, qe1, qew, yA, qjy, qpt, qFy, qFu, qne, qaX, qlI, qc4, qk5, decide_true, hro, qpv, qc9, qax, qaT, qbL, ky, Int.reduceEq, qes, hu, qz, zD, decide_false, ki, kq, kG, qI, kJ, qO, qj, zA, qT, qo, zu, kQ, qaR, kO, jB, kR, qcg, qe, qH, c1, qd, kl, q1, qFM, qcK, beq_self_eq_true, yk, qak, c2, q2, c3, q3, c4, q4, kj, qP, qQ, qn, kx, ja, qp, qE, kf]
  all_goals exact ⟨_, zY rfl (Nat.zero_le _) (Nat.zero_le _)⟩
theorem qAN {mask u : Nat} (hu : Int.tmod (u : Nat) 4 = 2) : ∃ lo, kn pgK 7 [.d (.i .u8 (mask : Nat)), .d (.i .u8 (u : Nat)), .d (.b false)] [] = some ⟨false, true, .d (.b true), [], lo⟩ := by
  obtain ⟨lo0, hkn⟩ := qcl
  obtain ⟨⟨e1, l1, c1, q1⟩, ⟨e2, l2, c2, q2⟩⟩ := qc5 (r2f (decide (0 < qeZ .u8 (mask : Nat) 1)) (decide (0 < qeZ .u8 (mask : Nat) 2)) (decide (0 < qeZ .u8 (mask : Nat) 4)))
  obtain ⟨⟨e3, l3, c3, q3⟩, ⟨e4, l4, c4, q4⟩⟩ := qc7 (r2l false)
  simp only [lD, m2, eL, qpj, ↓reduceIte, qFs] at c1 c2 c3 c4
  simp only [decide_eq_false_iff_not] at q3 q4
  have q3 : (e3 = 0) = False := eq_false q3
  have q4 : (e4 = 0) = False := eq_false q4
  have hro : roomy 16 2 = true := rfl
  rw [zl (fn := qS) rfl rfl]
  simp only [qS, ql, qFC, Nat.reduceAdd, qq, qFG, qr, qs, qk, qb, zk, qF, qG, qZ, qa, qc, qt, qFI, qh, qY, hkn, qu, qi, z8, kZ, qC, qx, yr, qFO, qFv, qm, qB, qK, qFs, ↓reduceIte, qR, zc, qFz, jQ, kP, jb, qFF, Nat.reduceLT, jP, qFJ, zS, zQ, zF, jI, zH, kK, zf, qM, zz, qU, yu, ke, qX, Nat.reduceEqDiff, qD, zB, qw, zy, zq, kC, qaD, qcy, kS, qFD, kY, kD, kI, kW, reduceCtorEq, qg, ko, kM, qFE, qev, zh, qy, yC, Nat.reduceLeDiff, j0, qFQ, qFP, List.take_zero, kA, qmv, qFL, jS, yK, qdS, List.cons_append, List.nil_append, List.drop_succ_cons, List.append_nil, kw, j2, List.reduceReplicate, zW, jt, jN, qdP, yP, jK, y7, jJ, qie, qbX, jE, yp, y1, qcd, qdb, qhY, qaV, qdj, qdk, qeB, qc6, qer, qbU, qdd, jh, qbT, kg, qa9, Int.reduceEq, qes, hu, qz, zD, decide_false, decide_true, qf, qbY, qe1, qax, yA, qaT, qbL, ky, ki, kq, kG, ku, qI, qW, zV, qO, qj, zA, qT, qo, zu, kQ, qlH, qaR, qni, kO, jB, kR, qcg, qe, qH, c1, qd, kl, q1, qFM, qcK, beq_self_eq_true, yk, qak, c2, q2, kJ, c3, q3, c4, q4, kj, qP, qQ, qn, kx, ja, qp, qE, kf]
  all_goals exact ⟨_, zY rfl (Nat.zero_le _) (Nat.zero_le _)⟩
theorem qAL {mask u : Nat} (hu : Int.tmod (u : Nat) 4 = 3) : ∃ lo, kn pgK 7 [.d (.i .u8 (mask : Nat)), .d (.i .u8 (u : Nat)), .d (.b true)] [] = some ⟨false, true, .d (.b true), [], lo⟩ := by
  obtain ⟨lo0, hkn⟩ := qcl
  obtain ⟨⟨e1, l1, c1, q1⟩, ⟨e2, l2, c2, q2⟩⟩ := qc5 (r3t (decide (0 < qeZ .u8 (mask : Nat) 1)) (decide (0 < qeZ .u8 (mask : Nat) 2)) (decide (0 < qeZ .u8 (mask : Nat) 4)))
  obtain ⟨⟨e3, l3, c3, q3⟩, ⟨e4, l4, c4, q4⟩⟩ := qc7 (r3l true)
  simp only [lD, m3, eL, qpj, ↓reduceIte, qFs] at c1 c2 c3 c4
  simp only [decide_eq_false_iff_not] at q3 q4
  have q3 : (e3 = 0) = False := eq_false q3
  have q4 : (e4 = 0) = False := eq_false q4
  have hro : roomy 16 2 = true := rfl
  rw [zl (fn := qS) rfl rfl]
  simp only [qS, ql, qFC, Nat.reduceAdd, qq, qFG, qr, qs, qk, qb, zk, qF, qG, qZ, qa, qc, qt, qFI, qh, qY, hkn, qu, qi, z8, kZ, qC, qx, yr, qFO, qFv, qm, qB, qK, qFs, ↓reduceIte, qR, zc, qFz, jQ, kP, jb, qFF, Nat.reduceLT, jP, qFJ, zS, zQ, zF, jI, zH, kK, zf, qM, zz, qU, yu, ke, qX, Nat.reduceEqDiff, qD, zB, qw, zy, zq, kC, qaD, qcy, kS, qFD, kY, kD, kI, kW, reduceCtorEq, qg, ko, kM, qFE, qev, zh, qy, yC, Nat.reduceLeDiff, j0, qFQ, qFP, List.take_zero, kA, qmv, qFL, jS, yK, qdS, List.cons_append, List.nil_append, List.drop_succ_cons, List.append_nil, kw, j2, List.reduceReplicate, zW, jt, jN, qdP, yP, jK, y7, jJ, qie, qbX, jE, yp, y1, qcd, qdb, qhY, qaV, qdj, qdk, qeB, qc6, qer, qbU, qdd, jh, qbT, kg, qa9, qf, qbY, qe1, qew, yA, qjy, qpt, qFy, qFu, qne, qaX, qlI, qc4, qk5, decide_true, hro, qpv, qc9, qax, qaT, qbL, ky, Int.reduceEq, qes, hu, qz, zD, decide_false, qO, qj, zA, qT, qo, zu, kQ, qaR, kO, jB, kR, qcg, qe, qH, c1, qd, kl, q1, qFM, qcK, beq_self_eq_true, yk, kq, qak, c2, q2, qI, kJ, c3, q3, c4, q4, kj, qP, qQ, qn, kx, ja, qp, qE, kf]
  all_goals exact ⟨_, zY rfl (Nat.zero_le _) (Nat.zero_le _)⟩
theorem qBs {mask u : Nat} (hu : Int.tmod (u : Nat) 4 = 3) : ∃ lo, kn pgK 7 [.d (.i .u8 (mask : Nat)), .d (.i .u8 (u : Nat)), .d (.b false)] [] = some ⟨false, true, .d (.b true), [], lo⟩ := by
  obtain ⟨lo0, hkn⟩ := qcl
  obtain ⟨⟨e1, l1, c1, q1⟩, ⟨e2, l2, c2, q2⟩⟩ := qc5 (r3f (decide (0 < qeZ .u8 (mask : Nat) 1)) (decide (0 < qeZ .u8 (mask : Nat) 2)) (decide (0 < qeZ .u8 (mask : Nat) 4)))
  obtain ⟨⟨e3, l3, c3, q3⟩, ⟨e4, l4, c4, q4⟩⟩ := qc7 (r3l false)
  simp only [lD, m3, eL, qpj, ↓reduceIte, qFs] at c1 c2 c3 c4
  simp only [decide_eq_false_iff_not] at q3 q4
  have q3 : (e3 = 0) = False := eq_false q3
  have q4 : (e4 = 0) = False := eq_false q4
  have hro : roomy 16 2 = true := rfl
  rw [zl (fn := qS) rfl rfl]
  simp only [qS, ql, qFC, Nat.reduceAdd, qq, qFG, qr, qs, qk, qb, zk, qF, qG, qZ, qa, qc, qt, qFI, qh, qY, hkn, qu, qi, z8, kZ, qC, qx, yr, qFO, qFv, qm, qB, qK, qFs, ↓reduceIte, qR, zc, qFz, jQ, kP, jb, qFF, Nat.reduceLT, jP, qFJ, zS, zQ, zF, jI, zH, kK, zf, qM, zz, qU, yu, ke, qX, Nat.reduceEqDiff, qD, zB, qw, zy, zq, kC, qaD, qcy, kS, qFD, kY, kD, kI, kW, reduceCtorEq, qg, ko, kM, qFE, qev, zh, qy, yC, Nat.reduceLeDiff, j0, qFQ, qFP, List.take_zero, kA, qmv, qFL, jS, yK, qdS, List.cons_append, List.nil_append, List.drop_succ_cons, List.append_nil, kw, j2, List.reduceReplicate, zW, jt, jN, qdP, yP, jK, y7, jJ, qie, qbX, jE, yp, y1, qcd, qdb, qhY, qaV, qdj, qdk, qeB, qc6, qer, qbU, qdd, jh, qbT, kg, qa9, Int.reduceEq, qes, hu, qz, zD, decide_false, qf, qbY, qe1, qax, yA, qaT, qbL, ky, qO, qj, zA, qT, qo, zu, kQ, qlH, qaR, qni, kO, jB, kR, qcg, qe, qH, c1, qd, kl, q1, qFM, qcK, beq_self_eq_true, yk, kq, qak, c2, q2, qI, kJ, c3, q3, c4, q4, kj, qP, qQ, qn, kx, ja, qp, qE, kf]
  all_goals exact ⟨_, zY rfl (Nat.zero_le _) (Nat.zero_le _)⟩
theorem qAx {mask u : Nat} {i : Bool} : ∃ lo, kn pgK 7 [.d (.i .u8 (mask : Nat)), .d (.i .u8 (u : Nat)), .d (.b i)] [] = some ⟨false, true, .d (.b true), [], lo⟩ := by
  have hu : Int.tmod (u : Nat) 4 = ((u % 4 : Nat) : Int) := (Int.ofNat_tmod u 4).symm
  have hr : u % 4 = 0 ∨ u % 4 = 1 ∨ u % 4 = 2 ∨ u % 4 = 3 := by omega
  rcases hr with h | h | h | h <;> rw [h] at hu <;> cases i
  · exact qBm hu
  · exact qBr hu
  · exact qAZ hu
  · exact qAA hu
  · exact qAN hu
  · exact qAD hu
  · exact qBs hu
  · exact qAL hu
end W

