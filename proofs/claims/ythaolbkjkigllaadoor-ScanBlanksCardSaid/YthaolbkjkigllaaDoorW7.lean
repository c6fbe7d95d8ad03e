/-
  ScanBlanks: part 7 of what the proof rests on (a value semantics for a part of the language, sound against the model; the walks).
-/
import Derived.WalkKit
import Derived.ProofKit
import Derived.OpenShut
import Derived.Carry
import Derived.ChangeSame
import Derived.RowKit
import Derived.Lib.Bytealg
import Derived.Shelf.Small.Strs
import Derived.Shelf.Pu.ToError
import Derived.Shelf.Pu.ToErrorRange
import Derived.Test.YthaolbkjkigllaaDoorProg
import Derived.Lib.LaidTab
import Derived.Test.YthaolbkjkigllaaDoorCards
import Derived.Test.YthaolbkjkigllaaDoorTie
import Derived.Deep.DeepHandedRow
import Derived.Deep.DeepWitnessRowRef
import Derived.Lay
import Derived.Test.YthaolbkjkigllaaDoorW6
set_option linter.unusedSimpArgs false
set_option linter.unusedVariables false
open Bool renaming false_eq_true → qz0, and_self → qz1, or_true → qz7, or_self → qAd, and_eq_true → qAf, cond_eq_ite → qAh, or_false → qAl, not_true → qAm, not_false → qAr
open List renaming getElem?_cons_zero → qz2, map_cons → qz3, length_cons → qz4, getElem?_cons_succ → qz5, length_nil → qz8, map_nil → qz9, set_cons_zero → qAa, set_cons_succ → qAc, take_succ_cons → qAi, drop_zero → qAn, take_zero → qAp, getElem?_eq_getElem → qAt
open Nat renaming zero_add → qz6, le_refl → qAe, beq → qAk, eq_of_beq_eq_true → qAo, min_self → qAs, add_zero → qAu
open Option renaming map_some → qAb, bind_eq_some_iff → qAg, bind_eq_bind → qAj, pure_def → qAq
open Int renaming cast_ofNat_Int → qAv
namespace W
open Go (IntKind BinOp UnOp)
set_option maxRecDepth 20000
theorem qmQ {Ld : D} {n : Nat} (hL : GL Ld n) {H : List Obj} {id : Nat} (hid : id < H.length) {d : Int} {b : Nat} (hb : b ≤ 1000000000000)
    (hleaf : GC 72 [] b Ld n H id d) (hnum : GC 56 [] b Ld n H id d) (hchar : GC 70 [] b Ld n H id d) (hset : GC 71 [] b Ld n H id d) (hcond : GC 55 [] b Ld n H id d) (hvariable : GC 69 [] b Ld n H id d) : GC 54 [] (2 * b + 60) Ld n H id d := by
  intro i0 n0
  have hg : ∀ o, (zi H id o)[id]? = some o := qiy hid
  obtain ⟨v, i1, z0, w0, n1, s0, l0, m0, u0, c0⟩ := jh hL hid (d := d) (n := 28) (by omega) (by omega) n0
  have hv : v = 0 ∨ v = 1 ∨ v = 2 ∨ v = 3 ∨ v = 4 ∨ v = 5 ∨ v = 6 ∨ v = 7 ∨ v = 8 ∨ v = 9 ∨ v = 10 ∨ v = 11 ∨ v = 12 ∨ v = 13 ∨ v = 14 ∨ v = 15 ∨ v = 16 ∨ v = 17 ∨ v = 18 ∨ v = 19 ∨ v = 20 ∨ v = 21 ∨ v = 22 ∨ v = 23 ∨ v = 24 ∨ v = 25 ∨ v = 26 ∨ v = 27 := by omega
  rcases hv with rfl | rfl | rfl | rfl | rfl | rfl | rfl | rfl | rfl | rfl | rfl | rfl | rfl | rfl | rfl | rfl | rfl | rfl | rfl | rfl | rfl | rfl | rfl | rfl | rfl | rfl | rfl | rfl
  · skip
    obtain ⟨t1, j1, q1, n1, s1, l1, m1, u1, c1⟩ := hnum i1 n1
    obtain ⟨r2, y2, _, e2⟩ := cat (txl 5 [105, 32, 58, 61, 32] rfl) q1 (by omega)
    refine ⟨r2, j1, y2.le (by omega), n1, ?_⟩
    rw [qY (fn := qG) rfl rfl]
    simp only [qG, qj, qz6, qo, qB, qx, qy, qm, qe, kK, qK, qL, qW, qa, qf, kI, reduceCtorEq, qF, qD, qP, qz, ki, qs, qz3, qz9, qc, qM, qI, qi, qz1, qT, c0, qr, qd, qg, qq, qk, ke, kr, qz7, qA, kj, decide_true, qp, qw, qC, ↓reduceIte, qS, zc, zH, qZ, c1, qAl, e2, qO, kG, ko, qJ, qb, qH, kv, qh, qt, qV]
    refine kR hid ?_ ?_ <;> omega
  · skip
    obtain ⟨t1, j1, q1, n1, s1, l1, m1, u1, c1⟩ := hnum i1 n1
    obtain ⟨r2, y2, _, e2⟩ := cat (txl 5 [105, 32, 58, 61, 32] rfl) q1 (by omega)
    refine ⟨r2, j1, y2.le (by omega), n1, ?_⟩
    rw [qY (fn := qG) rfl rfl]
    simp only [qG, qj, qz6, qo, qB, qx, qy, qm, qe, kK, qK, qL, qW, qa, qf, kI, reduceCtorEq, qF, qD, qP, qz, ki, qs, qz3, qz9, qc, qM, qI, qi, qz1, qT, c0, qr, qd, qg, qq, qk, ke, kr, qz7, qA, kj, Int.reduceEq, decide_false, qp, qw, qC, qz0, ↓reduceIte, Nat.reduceEqDiff, decide_true, zc, zH, qZ, c1, qAl, e2, qO, kG, ko, qJ, qb, qH, kv, qh, qt, qV]
    refine kR hid ?_ ?_ <;> omega
  · skip
    obtain ⟨t1, j1, q1, n1, s1, l1, m1, u1, c1⟩ := hvariable i1 n1
    obtain ⟨r2, y2, _, e2⟩ := cat q1 (txl 4 [32, 58, 61, 32] rfl) (by omega)
    obtain ⟨t3, j3, q3, n3, s3, l3, m3, u3, c3⟩ := hnum j1 n1
    obtain ⟨r4, y4, _, e4⟩ := cat y2 q3 (by omega)
    refine ⟨r4, j3, y4.le (by omega), n3, ?_⟩
    rw [qY (fn := qG) rfl rfl]
    simp only [qG, qj, qz6, qo, qB, qx, qy, qm, qe, kK, qK, qL, qW, qa, qf, kI, reduceCtorEq, qF, qD, qP, qz, ki, qs, qz3, qz9, qc, qM, qI, qi, qz1, qT, c0, qr, qd, qg, qq, qk, ke, kr, qz7, qA, kj, Int.reduceEq, decide_false, qp, qw, qC, qz0, ↓reduceIte, Nat.reduceEqDiff, decide_true, c1, e2, zc, zH, qZ, c3, qAd, e4, qO, kG, ko, qJ, qb, qH, kv, qh, qt, qV]
    refine kR hid ?_ ?_ <;> omega
  · skip
    obtain ⟨t1, j1, q1, n1, s1, l1, m1, u1, c1⟩ := hcond i1 n1
    obtain ⟨r2, y2, _, e2⟩ := cat (txl 5 [98, 32, 58, 61, 32] rfl) q1 (by omega)
    refine ⟨r2, j1, y2.le (by omega), n1, ?_⟩
    rw [qY (fn := qG) rfl rfl]
    simp only [qG, qj, qz6, qo, qB, qx, qy, qm, qe, kK, qK, qL, qW, qa, qf, kI, reduceCtorEq, qF, qD, qP, qz, ki, qs, qz3, qz9, qc, qM, qI, qi, qz1, qT, c0, qr, qd, qg, qq, qk, ke, kr, qz7, qA, kj, Int.reduceEq, decide_false, qp, qw, qC, qz0, ↓reduceIte, Nat.reduceEqDiff, decide_true, zc, zH, qZ, c1, qAl, e2, qO, kG, ko, qJ, qb, qH, kv, qh, qt, qV]
    refine kR hid ?_ ?_ <;> omega
  · skip
    obtain ⟨t1, j1, q1, n1, s1, l1, m1, u1, c1⟩ := hchar i1 n1
    obtain ⟨r2, y2, _, e2⟩ := cat (txl 5 [99, 32, 58, 61, 32] rfl) q1 (by omega)
    refine ⟨r2, j1, y2.le (by omega), n1, ?_⟩
    rw [qY (fn := qG) rfl rfl]
    simp only [qG, qj, qz6, qo, qB, qx, qy, qm, qe, kK, qK, qL, qW, qa, qf, kI, reduceCtorEq, qF, qD, qP, qz, ki, qs, qz3, qz9, qc, qM, qI, qi, qz1, qT, c0, qr, qd, qg, qq, qk, ke, kr, qz7, qA, kj, Int.reduceEq, decide_false, qp, qw, qC, qz0, ↓reduceIte, Nat.reduceEqDiff, decide_true, zc, zH, qZ, c1, qAl, e2, qO, kG, ko, qJ, qb, qH, kv, qh, qt, qV]
    refine kR hid ?_ ?_ <;> omega
  · skip
    obtain ⟨t1, j1, q1, n1, s1, l1, m1, u1, c1⟩ := hset i1 n1
    obtain ⟨r2, y2, _, e2⟩ := cat (txl 5 [115, 32, 58, 61, 32] rfl) q1 (by omega)
    refine ⟨r2, j1, y2.le (by omega), n1, ?_⟩
    rw [qY (fn := qG) rfl rfl]
    simp only [qG, qj, qz6, qo, qB, qx, qy, qm, qe, kK, qK, qL, qW, qa, qf, kI, reduceCtorEq, qF, qD, qP, qz, ki, qs, qz3, qz9, qc, qM, qI, qi, qz1, qT, c0, qr, qd, qg, qq, qk, ke, kr, qz7, qA, kj, Int.reduceEq, decide_false, qp, qw, qC, qz0, ↓reduceIte, Nat.reduceEqDiff, decide_true, zc, zH, qZ, c1, qAl, e2, qO, kG, ko, qJ, qb, qH, kv, qh, qt, qV]
    refine kR hid ?_ ?_ <;> omega
  · skip
    obtain ⟨t1, j1, q1, n1, s1, l1, m1, u1, c1⟩ := hnum i1 n1
    obtain ⟨r2, y2, _, e2⟩ := cat (txl 8 [79, 117, 116, 46, 73, 110, 116, 40] rfl) q1 (by omega)
    obtain ⟨r3, y3, _, e3⟩ := cat y2 (txl 9 [41, 59, 32, 79, 117, 116, 46, 76, 110] rfl) (by omega)
    refine ⟨r3, j1, y3.le (by omega), n1, ?_⟩
    rw [qY (fn := qG) rfl rfl]
    simp only [qG, qj, qz6, qo, qB, qx, qy, qm, qe, kK, qK, qL, qW, qa, qf, kI, reduceCtorEq, qF, qD, qP, qz, ki, qs, qz3, qz9, qc, qM, qI, qi, qz1, qT, c0, qr, qd, qg, qq, qk, ke, kr, qz7, qA, kj, Int.reduceEq, decide_false, qp, qw, qC, qz0, ↓reduceIte, Nat.reduceEqDiff, decide_true, qS, zc, zH, qZ, c1, qAl, e2, e3, qO, kG, ko, qJ, qb, qH, kv, qh, qt, qV]
    refine kR hid ?_ ?_ <;> omega
  · skip
    obtain ⟨t1, j1, q1, n1, s1, l1, m1, u1, c1⟩ := hnum i1 n1
    obtain ⟨r2, y2, _, e2⟩ := cat (txl 8 [79, 117, 116, 46, 73, 110, 116, 40] rfl) q1 (by omega)
    obtain ⟨r3, y3, _, e3⟩ := cat y2 (txl 9 [41, 59, 32, 79, 117, 116, 46, 76, 110] rfl) (by omega)
    refine ⟨r3, j1, y3.le (by omega), n1, ?_⟩
    rw [qY (fn := qG) rfl rfl]
    simp only [qG, qj, qz6, qo, qB, qx, qy, qm, qe, kK, qK, qL, qW, qa, qf, kI, reduceCtorEq, qF, qD, qP, qz, ki, qs, qz3, qz9, qc, qM, qI, qi, qz1, qT, c0, qr, qd, qg, qq, qk, ke, kr, qz7, qA, kj, Int.reduceEq, decide_false, qp, qw, qC, qz0, ↓reduceIte, Nat.reduceEqDiff, decide_true, zc, zH, qZ, c1, qAl, e2, e3, qO, kG, ko, qJ, qb, qH, kv, qh, qt, qV]
    refine kR hid ?_ ?_ <;> omega
  · skip
    obtain ⟨t1, j1, q1, n1, s1, l1, m1, u1, c1⟩ := hchar i1 n1
    obtain ⟨r2, y2, _, e2⟩ := cat (txl 9 [79, 117, 116, 46, 67, 104, 97, 114, 40] rfl) q1 (by omega)
    obtain ⟨r3, y3, _, e3⟩ := cat y2 (txl 1 [41] rfl) (by omega)
    refine ⟨r3, j1, y3.le (by omega), n1, ?_⟩
    rw [qY (fn := qG) rfl rfl]
    simp only [qG, qj, qz6, qo, qB, qx, qy, qm, qe, kK, qK, qL, qW, qa, qf, kI, reduceCtorEq, qF, qD, qP, qz, ki, qs, qz3, qz9, qc, qM, qI, qi, qz1, qT, c0, qr, qd, qg, qq, qk, ke, kr, qz7, qA, kj, Int.reduceEq, decide_false, qp, qw, qC, qz0, ↓reduceIte, Nat.reduceEqDiff, decide_true, zc, zH, qZ, c1, qAl, e2, e3, qO, kG, ko, qJ, qb, qH, kv, qh, qt, qV]
    refine kR hid ?_ ?_ <;> omega
  · skip
    obtain ⟨v1, j1, z1, w1, n1, s1, l1, m1, u1, c1⟩ := jh hL hid (d := d) (n := 3) (by omega) (by omega) n1
    obtain ⟨t1, q1, x1⟩ : ∃ t, Tx 7 t ∧ iaV (.d (.sl [D.s [34, 104, 101, 108, 108, 111, 34], D.s [116], D.s [34, 34]])) (.d (.i .i64 v1)) 1 none = some (.cp (.s t)) := qbh [[34, 104, 101, 108, 108, 111, 34], [116], [34, 34]] 7 rfl z1 w1
    obtain ⟨r2, y2, _, e2⟩ := cat (txl 11 [79, 117, 116, 46, 83, 116, 114, 105, 110, 103, 40] rfl) q1 (by omega)
    obtain ⟨r3, y3, _, e3⟩ := cat y2 (txl 1 [41] rfl) (by omega)
    refine ⟨r3, j1, y3.le (by omega), n1, ?_⟩
    rw [qY (fn := qG) rfl rfl]
    simp only [qG, qj, qz6, qo, qB, qx, qy, qm, qe, kK, qK, qL, qW, qa, qf, kI, reduceCtorEq, qF, qD, qP, qz, ki, qs, qz3, qz9, qc, qM, qI, qi, qz1, qT, c0, qr, qd, qg, qq, qk, ke, kr, qz7, qA, kj, Int.reduceEq, decide_false, qp, qw, qC, qz0, ↓reduceIte, Nat.reduceEqDiff, decide_true, kJ, jD, qz4, qz8, List.reduceReplicate, Nat.reduceAdd, Nat.reduceLT, zD, qAa, qAc, zR, jk, jg, yR, jK, jj, yy, zc, zH, qZ, c1, kH, jb, x1, yQ, zP, zX, qab, zN, qAl, e2, e3, qO, kG, ko, qJ, qb, qH, kv, qh, qt, qV]
    refine kR hid ?_ ?_ <;> omega
  · skip
    obtain ⟨v1, j1, z1, w1, n1, s1, l1, m1, u1, c1⟩ := jh hL hid (d := d) (n := 3) (by omega) (by omega) n1
    obtain ⟨t1, q1, x1⟩ : ∃ t, Tx 7 t ∧ iaV (.d (.sl [D.s [34, 97, 98, 99, 100, 101, 34], D.s [34, 34], D.s [34, 120, 121, 34]])) (.d (.i .i64 v1)) 1 none = some (.cp (.s t)) := qbh [[34, 97, 98, 99, 100, 101, 34], [34, 34], [34, 120, 121, 34]] 7 rfl z1 w1
    obtain ⟨r2, y2, _, e2⟩ := cat (txl 5 [116, 32, 58, 61, 32] rfl) q1 (by omega)
    refine ⟨r2, j1, y2.le (by omega), n1, ?_⟩
    rw [qY (fn := qG) rfl rfl]
    simp only [qG, qj, qz6, qo, qB, qx, qy, qm, qe, kK, qK, qL, qW, qa, qf, kI, reduceCtorEq, qF, qD, qP, qz, ki, qs, qz3, qz9, qc, qM, qI, qi, qz1, qT, c0, qr, qd, qg, qq, qk, ke, kr, qz7, qA, kj, Int.reduceEq, decide_false, qp, qw, qC, qz0, ↓reduceIte, Nat.reduceEqDiff, decide_true, kJ, jD, qz4, qz8, List.reduceReplicate, Nat.reduceAdd, Nat.reduceLT, zD, qAa, qAc, zR, jk, jg, yR, jK, jj, yy, zc, zH, qZ, c1, kH, jb, x1, yQ, zP, zX, qab, zN, qAl, e2, qO, kG, ko, qJ, qb, qH, kv, qh, qt, qV]
    refine kR hid ?_ ?_ <;> omega
  · skip
    obtain ⟨v1, j1, z1, w1, n1, s1, l1, m1, u1, c1⟩ := jh hL hid (d := d) (n := 5) (by omega) (by omega) n1
    obtain ⟨t1, q1, x1⟩ : ∃ t, Tx 6 t ∧ iaV (.d (.sl [D.s [112], D.s [113], D.s [117], D.s [112, 46, 110, 101, 120, 116], D.s [114, 46, 110, 101, 120, 116]])) (.d (.i .i64 v1)) 1 none = some (.cp (.s t)) := qbh [[112], [113], [117], [112, 46, 110, 101, 120, 116], [114, 46, 110, 101, 120, 116]] 6 rfl z1 w1
    obtain ⟨r2, y2, _, e2⟩ := cat (txl 4 [78, 69, 87, 40] rfl) q1 (by omega)
    obtain ⟨r3, y3, _, e3⟩ := cat y2 (txl 1 [41] rfl) (by omega)
    refine ⟨r3, j1, y3.le (by omega), n1, ?_⟩
    rw [qY (fn := qG) rfl rfl]
    simp only [qG, qj, qz6, qo, qB, qx, qy, qm, qe, kK, qK, qL, qW, qa, qf, kI, reduceCtorEq, qF, qD, qP, qz, ki, qs, qz3, qz9, qc, qM, qI, qi, qz1, qT, c0, qr, qd, qg, qq, qk, ke, kr, qz7, qA, kj, Int.reduceEq, decide_false, qp, qw, qC, qz0, ↓reduceIte, Nat.reduceEqDiff, decide_true, kJ, jD, qz4, qz8, List.reduceReplicate, Nat.reduceAdd, Nat.reduceLT, zD, qAa, qAc, zR, jk, jg, yR, jK, jj, yy, zc, zH, qZ, c1, kH, jb, x1, yQ, zP, zX, qab, zN, qAl, e2, e3, qO, kG, ko, qJ, qb, qH, kv, qh, qt, qV]
    refine kR hid ?_ ?_ <;> omega
  · skip
    obtain ⟨v1, j1, z1, w1, n1, s1, l1, m1, u1, c1⟩ := jh hL hid (d := d) (n := 7) (by omega) (by omega) n1
    obtain ⟨t1, q1, x1⟩ : ∃ t, Tx 11 t ∧ iaV (.d (.sl [D.s [112, 32, 58, 61, 32, 113], D.s [113, 32, 58, 61, 32, 112], D.s [112, 32, 58, 61, 32, 117], D.s [113, 32, 58, 61, 32, 117], D.s [112, 32, 58, 61, 32, 78, 73, 76], D.s [114, 46, 110, 101, 120, 116, 32, 58, 61, 32, 112], D.s [117, 32, 58, 61, 32, 113, 40, 83, 41]])) (.d (.i .i64 v1)) 1 none = some (.cp (.s t)) := qbh [[112, 32, 58, 61, 32, 113], [113, 32, 58, 61, 32, 112], [112, 32, 58, 61, 32, 117], [113, 32, 58, 61, 32, 117], [112, 32, 58, 61, 32, 78, 73, 76], [114, 46, 110, 101, 120, 116, 32, 58, 61, 32, 112], [117, 32, 58, 61, 32, 113, 40, 83, 41]] 11 rfl z1 w1
    refine ⟨t1, j1, q1.le (by omega), n1, ?_⟩
    rw [qY (fn := qG) rfl rfl]
    simp only [qG, qj, qz6, qo, qB, qx, qy, qm, qe, kK, qK, qL, qW, qa, qf, kI, reduceCtorEq, qF, qD, qP, qz, ki, qs, qz3, qz9, qc, qM, qI, qi, qz1, qT, c0, qr, qd, qg, qq, qk, ke, kr, qz7, qA, kj, Int.reduceEq, decide_false, qp, qw, qC, qz0, ↓reduceIte, Nat.reduceEqDiff, decide_true, kJ, jD, qz4, qz8, List.reduceReplicate, Nat.reduceAdd, Nat.reduceLT, zD, qAa, qAc, zR, jk, jg, yR, jK, jj, yy, zc, zH, qZ, c1, kH, jb, x1, yQ, zP, zX, qab, zN, qO, kG, ko, qJ, qb, qH, kv, qh, qt, qV]
    refine kR hid ?_ ?_ <;> omega
  · skip
    obtain ⟨v1, j1, z1, w1, n1, s1, l1, m1, u1, c1⟩ := jh hL hid (d := d) (n := 5) (by omega) (by omega) n1
    obtain ⟨t1, q1, x1⟩ : ∃ t, Tx 4 t ∧ iaV (.d (.sl [D.s [105], D.s [106], D.s [97, 91, 50, 93], D.s [114, 46, 120], D.s [112, 46, 121]])) (.d (.i .i64 v1)) 1 none = some (.cp (.s t)) := qbh [[105], [106], [97, 91, 50, 93], [114, 46, 120], [112, 46, 121]] 4 rfl z1 w1
    obtain ⟨r2, y2, _, e2⟩ := cat (txl 2 [103, 40] rfl) q1 (by omega)
    obtain ⟨r3, y3, _, e3⟩ := cat y2 (txl 2 [44, 32] rfl) (by omega)
    obtain ⟨t4, j4, q4, n4, s4, l4, m4, u4, c4⟩ := hnum j1 n1
    obtain ⟨r5, y5, _, e5⟩ := cat y3 q4 (by omega)
    obtain ⟨r6, y6, _, e6⟩ := cat y5 (txl 1 [41] rfl) (by omega)
    refine ⟨r6, j4, y6.le (by omega), n4, ?_⟩
    rw [qY (fn := qG) rfl rfl]
    simp only [qG, qj, qz6, qo, qB, qx, qy, qm, qe, kK, qK, qL, qW, qa, qf, kI, reduceCtorEq, qF, qD, qP, qz, ki, qs, qz3, qz9, qc, qM, qI, qi, qz1, qT, c0, qr, qd, qg, qq, qk, ke, kr, qz7, qA, kj, Int.reduceEq, decide_false, qp, qw, qC, qz0, ↓reduceIte, Nat.reduceEqDiff, decide_true, jp, zV, kJ, jD, qz4, qz8, List.reduceReplicate, Nat.reduceAdd, Nat.reduceLT, zD, qAa, qAc, zR, jk, jg, yR, jK, jj, zT, qdE, zW, jz, c1, zx, yu, kH, jb, x1, qej, zP, zX, qab, zN, qAl, e2, e3, zc, zH, c4, qZ, qAd, e5, e6, zw, qO, kG, ko, qJ, qb, qH, kv, qh, qt, qV]
    refine kR hid ?_ ?_ <;> omega
  · skip
    refine ⟨[104, 40, 97, 41], i1, (txl 4 [104, 40, 97, 41] rfl).le (by omega), n1, ?_⟩
    rw [qY (fn := qG) rfl rfl]
    simp only [qG, qj, qz6, qo, qB, qx, qy, qm, qe, kK, qK, qL, qW, qa, qf, kI, reduceCtorEq, qF, qD, qP, qz, ki, qs, qz3, qz9, qc, qM, qI, qi, qz1, qT, c0, qr, qd, qg, qq, qk, ke, kr, qz7, qA, kj, Int.reduceEq, decide_false, qp, qw, qC, qz0, ↓reduceIte, Nat.reduceEqDiff, decide_true, qO, kG, ko, qJ, qb, qH, kv, qh, qt, qV]
    refine kR hid ?_ ?_ <;> omega
  · skip
    obtain ⟨t1, j1, q1, n1, s1, l1, m1, u1, c1⟩ := hvariable i1 n1
    obtain ⟨r2, y2, _, e2⟩ := cat (txl 4 [73, 78, 67, 40] rfl) q1 (by omega)
    obtain ⟨r3, y3, _, e3⟩ := cat y2 (txl 2 [44, 32] rfl) (by omega)
    obtain ⟨t4, j4, q4, n4, s4, l4, m4, u4, c4⟩ := hnum j1 n1
    obtain ⟨r5, y5, _, e5⟩ := cat y3 q4 (by omega)
    obtain ⟨r6, y6, _, e6⟩ := cat y5 (txl 1 [41] rfl) (by omega)
    refine ⟨r6, j4, y6.le (by omega), n4, ?_⟩
    rw [qY (fn := qG) rfl rfl]
    simp only [qG, qj, qz6, qo, qB, qx, qy, qm, qe, kK, qK, qL, qW, qa, qf, kI, reduceCtorEq, qF, qD, qP, qz, ki, qs, qz3, qz9, qc, qM, qI, qi, qz1, qT, c0, qr, qd, qg, qq, qk, ke, kr, qz7, qA, kj, Int.reduceEq, decide_false, qp, qw, qC, qz0, ↓reduceIte, Nat.reduceEqDiff, decide_true, c1, qAl, e2, e3, zc, zH, qZ, c4, qAd, e5, e6, qO, kG, ko, qJ, qb, qH, kv, qh, qt, qV]
    refine kR hid ?_ ?_ <;> omega
  · skip
    obtain ⟨t1, j1, q1, n1, s1, l1, m1, u1, c1⟩ := hvariable i1 n1
    obtain ⟨r2, y2, _, e2⟩ := cat (txl 4 [68, 69, 67, 40] rfl) q1 (by omega)
    obtain ⟨r3, y3, _, e3⟩ := cat y2 (txl 1 [41] rfl) (by omega)
    refine ⟨r3, j1, y3.le (by omega), n1, ?_⟩
    rw [qY (fn := qG) rfl rfl]
    simp only [qG, qj, qz6, qo, qB, qx, qy, qm, qe, kK, qK, qL, qW, qa, qf, kI, reduceCtorEq, qF, qD, qP, qz, ki, qs, qz3, qz9, qc, qM, qI, qi, qz1, qT, c0, qr, qd, qg, qq, qk, ke, kr, qz7, qA, kj, Int.reduceEq, decide_false, qp, qw, qC, qz0, ↓reduceIte, Nat.reduceEqDiff, decide_true, zc, zH, qZ, c1, qAl, e2, e3, qO, kG, ko, qJ, qb, qH, kv, qh, qt, qV]
    refine kR hid ?_ ?_ <;> omega
  · skip
    obtain ⟨v1, j1, z1, w1, n1, s1, l1, m1, u1, c1⟩ := jh hL hid (d := d) (n := 2) (by omega) (by omega) n1
    obtain ⟨t1, q1, x1⟩ : ∃ t, Tx 4 t ∧ iaV (.d (.sl [D.s [73, 78, 67, 76], D.s [69, 88, 67, 76]])) (.d (.i .i64 v1)) 1 none = some (.cp (.s t)) := qbh [[73, 78, 67, 76], [69, 88, 67, 76]] 4 rfl z1 w1
    obtain ⟨r2, y2, _, e2⟩ := cat q1 (txl 4 [40, 115, 44, 32] rfl) (by omega)
    obtain ⟨v3, j3, z3, w3, n3, s3, l3, m3, u3, c3⟩ := jh hL hid (d := d) (n := 3) (by omega) (by omega) n1
    obtain ⟨t3, q3, x3⟩ : ∃ t, Tx 8 t ∧ iaV (.d (.sl [D.s [51], D.s [105, 32, 77, 79, 68, 32, 51, 50], D.s [106]])) (.d (.i .i64 v3)) 1 none = some (.cp (.s t)) := qbh [[51], [105, 32, 77, 79, 68, 32, 51, 50], [106]] 8 rfl z3 w3
    obtain ⟨r4, y4, _, e4⟩ := cat y2 q3 (by omega)
    obtain ⟨r5, y5, _, e5⟩ := cat y4 (txl 1 [41] rfl) (by omega)
    refine ⟨r5, j3, y5.le (by omega), n3, ?_⟩
    rw [qY (fn := qG) rfl rfl]
    simp only [qG, qj, qz6, qo, qB, qx, qy, qm, qe, kK, qK, qL, qW, qa, qf, kI, reduceCtorEq, qF, qD, qP, qz, ki, qs, qz3, qz9, qc, qM, qI, qi, qz1, qT, c0, qr, qd, qg, qq, qk, ke, kr, qz7, qA, kj, Int.reduceEq, decide_false, qp, qw, qC, qz0, ↓reduceIte, Nat.reduceEqDiff, decide_true, jp, zV, kJ, jD, qz4, qz8, List.reduceReplicate, Nat.reduceAdd, Nat.reduceLT, zD, qAa, qAc, zR, jk, jg, yR, jK, jj, zT, qdE, zW, jz, c1, zx, yu, kH, jb, x1, qej, zP, zX, qab, zN, e2, zc, zH, c3, qZ, x3, qAd, e4, e5, zw, qO, kG, ko, qJ, qb, qH, kv, qh, qt, qV]
    refine kR hid ?_ ?_ <;> omega
  · skip
    obtain ⟨v1, j1, z1, w1, n1, s1, l1, m1, u1, c1⟩ := jh hL hid (d := d) (n := 3) (by omega) (by omega) n1
    obtain ⟨t1, q1, x1⟩ : ∃ t, Tx 4 t ∧ iaV (.d (.sl [D.s [99], D.s [116, 91, 49, 93], D.s [117, 46, 122]])) (.d (.i .i64 v1)) 1 none = some (.cp (.s t)) := qbh [[99], [116, 91, 49, 93], [117, 46, 122]] 4 rfl z1 w1
    obtain ⟨r2, y2, _, e2⟩ := cat (txl 8 [73, 110, 46, 67, 104, 97, 114, 40] rfl) q1 (by omega)
    obtain ⟨r3, y3, _, e3⟩ := cat y2 (txl 1 [41] rfl) (by omega)
    refine ⟨r3, j1, y3.le (by omega), n1, ?_⟩
    rw [qY (fn := qG) rfl rfl]
    simp only [qG, qj, qz6, qo, qB, qx, qy, qm, qe, kK, qK, qL, qW, qa, qf, kI, reduceCtorEq, qF, qD, qP, qz, ki, qs, qz3, qz9, qc, qM, qI, qi, qz1, qT, c0, qr, qd, qg, qq, qk, ke, kr, qz7, qA, kj, Int.reduceEq, decide_false, qp, qw, qC, qz0, ↓reduceIte, Nat.reduceEqDiff, decide_true, kJ, jD, qz4, qz8, List.reduceReplicate, Nat.reduceAdd, Nat.reduceLT, zD, qAa, qAc, zR, jk, jg, yR, jK, jj, yy, zc, zH, qZ, c1, kH, jb, x1, yQ, zP, zX, qab, zN, qAl, e2, e3, qO, kG, ko, qJ, qb, qH, kv, qh, qt, qV]
    refine kR hid ?_ ?_ <;> omega
  · skip
    obtain ⟨t1, j1, q1, n1, s1, l1, m1, u1, c1⟩ := hcond i1 n1
    obtain ⟨r2, y2, _, e2⟩ := cat (txl 7 [65, 83, 83, 69, 82, 84, 40] rfl) q1 (by omega)
    obtain ⟨r3, y3, _, e3⟩ := cat y2 (txl 1 [41] rfl) (by omega)
    refine ⟨r3, j1, y3.le (by omega), n1, ?_⟩
    rw [qY (fn := qG) rfl rfl]
    simp only [qG, qj, qz6, qo, qB, qx, qy, qm, qe, kK, qK, qL, qW, qa, qf, kI, reduceCtorEq, qF, qD, qP, qz, ki, qs, qz3, qz9, qc, qM, qI, qi, qz1, qT, c0, qr, qd, qg, qq, qk, ke, kr, qz7, qA, kj, Int.reduceEq, decide_false, qp, qw, qC, qz0, ↓reduceIte, Nat.reduceEqDiff, decide_true, zc, zH, qZ, c1, qAl, e2, e3, qO, kG, ko, qJ, qb, qH, kv, qh, qt, qV]
    refine kR hid ?_ ?_ <;> omega
  · skip
    obtain ⟨v1, j1, z1, w1, n1, s1, l1, m1, u1, c1⟩ := jh hL hid (d := d) (n := 3) (by omega) (by omega) n1
    obtain ⟨t1, q1, x1⟩ : ∃ t, Tx 8 t ∧ iaV (.d (.sl [D.s [114, 32, 58, 61, 32, 112, 94], D.s [112, 94, 32, 58, 61, 32, 114], D.s [113, 94, 32, 58, 61, 32, 112, 94]])) (.d (.i .i64 v1)) 1 none = some (.cp (.s t)) := qbh [[114, 32, 58, 61, 32, 112, 94], [112, 94, 32, 58, 61, 32, 114], [113, 94, 32, 58, 61, 32, 112, 94]] 8 rfl z1 w1
    refine ⟨t1, j1, q1.le (by omega), n1, ?_⟩
    rw [qY (fn := qG) rfl rfl]
    simp only [qG, qj, qz6, qo, qB, qx, qy, qm, qe, kK, qK, qL, qW, qa, qf, kI, reduceCtorEq, qF, qD, qP, qz, ki, qs, qz3, qz9, qc, qM, qI, qi, qz1, qT, c0, qr, qd, qg, qq, qk, ke, kr, qz7, qA, kj, Int.reduceEq, decide_false, qp, qw, qC, qz0, ↓reduceIte, Nat.reduceEqDiff, decide_true, kJ, jD, qz4, qz8, List.reduceReplicate, Nat.reduceAdd, Nat.reduceLT, zD, qAa, qAc, zR, jk, jg, yR, jK, jj, yy, zc, zH, qZ, c1, kH, jb, x1, yQ, zP, zX, qab, zN, qO, kG, ko, qJ, qb, qH, kv, qh, qt, qV]
    refine kR hid ?_ ?_ <;> omega
  · skip
    refine ⟨[100, 32, 58, 61, 32, 97, 59, 32, 97, 91, 51, 93, 32, 58, 61, 32, 100, 91, 48, 93], i1, (txl 20 [100, 32, 58, 61, 32, 97, 59, 32, 97, 91, 51, 93, 32, 58, 61, 32, 100, 91, 48, 93] rfl).le (by omega), n1, ?_⟩
    rw [qY (fn := qG) rfl rfl]
    simp only [qG, qj, qz6, qo, qB, qx, qy, qm, qe, kK, qK, qL, qW, qa, qf, kI, reduceCtorEq, qF, qD, qP, qz, ki, qs, qz3, qz9, qc, qM, qI, qi, qz1, qT, c0, qr, qd, qg, qq, qk, ke, kr, qz7, qA, kj, Int.reduceEq, decide_false, qp, qw, qC, qz0, ↓reduceIte, Nat.reduceEqDiff, decide_true, qO, kG, ko, qJ, qb, qH, kv, qh, qt, qV]
    refine kR hid ?_ ?_ <;> omega
  · skip
    obtain ⟨t1, j1, q1, n1, s1, l1, m1, u1, c1⟩ := hnum i1 n1
    obtain ⟨r2, y2, _, e2⟩ := cat (txl 17 [101, 91, 105, 32, 77, 79, 68, 32, 50, 44, 32, 49, 93, 32, 58, 61, 32] rfl) q1 (by omega)
    refine ⟨r2, j1, y2.le (by omega), n1, ?_⟩
    rw [qY (fn := qG) rfl rfl]
    simp only [qG, qj, qz6, qo, qB, qx, qy, qm, qe, kK, qK, qL, qW, qa, qf, kI, reduceCtorEq, qF, qD, qP, qz, ki, qs, qz3, qz9, qc, qM, qI, qi, qz1, qT, c0, qr, qd, qg, qq, qk, ke, kr, qz7, qA, kj, Int.reduceEq, decide_false, qp, qw, qC, qz0, ↓reduceIte, Nat.reduceEqDiff, decide_true, zc, zH, qZ, c1, qAl, e2, qO, kG, ko, qJ, qb, qH, kv, qh, qt, qV]
    refine kR hid ?_ ?_ <;> omega
  · skip
    refine ⟨[110, 32, 58, 61, 32, 110, 32, 43, 32, 49], i1, (txl 10 [110, 32, 58, 61, 32, 110, 32, 43, 32, 49] rfl).le (by omega), n1, ?_⟩
    rw [qY (fn := qG) rfl rfl]
    simp only [qG, qj, qz6, qo, qB, qx, qy, qm, qe, kK, qK, qL, qW, qa, qf, kI, reduceCtorEq, qF, qD, qP, qz, ki, qs, qz3, qz9, qc, qM, qI, qi, qz1, qT, c0, qr, qd, qg, qq, qk, ke, kr, qz7, qA, kj, Int.reduceEq, decide_false, qp, qw, qC, qz0, ↓reduceIte, Nat.reduceEqDiff, decide_true, qO, kG, ko, qJ, qb, qH, kv, qh, qt, qV]
    refine kR hid ?_ ?_ <;> omega
  · skip
    refine ⟨[79, 117, 116, 46, 73, 110, 116, 40, 101, 91, 49, 93, 91, 106, 32, 77, 79, 68, 32, 51, 93, 41], i1, (txl 22 [79, 117, 116, 46, 73, 110, 116, 40, 101, 91, 49, 93, 91, 106, 32, 77, 79, 68, 32, 51, 93, 41] rfl).le (by omega), n1, ?_⟩
    rw [qY (fn := qG) rfl rfl]
    simp only [qG, qj, qz6, qo, qB, qx, qy, qm, qe, kK, qK, qL, qW, qa, qf, kI, reduceCtorEq, qF, qD, qP, qz, ki, qs, qz3, qz9, qc, qM, qI, qi, qz1, qT, c0, qr, qd, qg, qq, qk, ke, kr, qz7, qA, kj, Int.reduceEq, decide_false, qp, qw, qC, qz0, ↓reduceIte, Nat.reduceEqDiff, decide_true, qO, kG, ko, qJ, qb, qH, kv, qh, qt, qV]
    refine kR hid ?_ ?_ <;> omega
  · skip
    obtain ⟨t1, j1, q1, n1, s1, l1, m1, u1, c1⟩ := hleaf i1 n1
    obtain ⟨r2, y2, _, e2⟩ := cat (txl 5 [106, 32, 58, 61, 32] rfl) q1 (by omega)
    refine ⟨r2, j1, y2.le (by omega), n1, ?_⟩
    rw [qY (fn := qG) rfl rfl]
    simp only [qG, qj, qz6, qo, qB, qx, qy, qm, qe, kK, qK, qL, qW, qa, qf, kI, reduceCtorEq, qF, qD, qP, qz, ki, qs, qz3, qz9, qc, qM, qI, qi, qz1, qT, c0, qr, qd, qg, qq, qk, ke, kr, qz7, qA, kj, Int.reduceEq, decide_false, qp, qw, qC, qz0, ↓reduceIte, Nat.reduceEqDiff, qS, qR, ql, kz, qn, zc, zH, qZ, c1, qAl, e2, qO, qJ, qb, qH, kv, qh, qt, qV]
    refine kR hid ?_ ?_ <;> omega
  · skip
    obtain ⟨t1, j1, q1, n1, s1, l1, m1, u1, c1⟩ := hleaf i1 n1
    obtain ⟨r2, y2, _, e2⟩ := cat (txl 5 [106, 32, 58, 61, 32] rfl) q1 (by omega)
    refine ⟨r2, j1, y2.le (by omega), n1, ?_⟩
    rw [qY (fn := qG) rfl rfl]
    simp only [qG, qj, qz6, qo, qB, qx, qy, qm, qe, kK, qK, qL, qW, qa, qf, kI, reduceCtorEq, qF, qD, qP, qz, ki, qs, qz3, qz9, qc, qM, qI, qi, qz1, qT, c0, qr, qd, qg, qq, qk, ke, kr, qz7, qA, kj, Int.reduceEq, decide_false, qp, qw, qC, qz0, ↓reduceIte, Nat.reduceEqDiff, qS, qR, ql, kz, qn, zc, zH, qZ, c1, qAl, e2, qO, qJ, qb, qH, kv, qh, qt, qV]
    refine kR hid ?_ ?_ <;> omega
  · skip
    obtain ⟨t1, j1, q1, n1, s1, l1, m1, u1, c1⟩ := hleaf i1 n1
    obtain ⟨r2, y2, _, e2⟩ := cat (txl 5 [106, 32, 58, 61, 32] rfl) q1 (by omega)
    refine ⟨r2, j1, y2.le (by omega), n1, ?_⟩
    rw [qY (fn := qG) rfl rfl]
    simp only [qG, qj, qz6, qo, qB, qx, qy, qm, qe, kK, qK, qL, qW, qa, qf, kI, reduceCtorEq, qF, qD, qP, qz, ki, qs, qz3, qz9, qc, qM, qI, qi, qz1, qT, c0, qr, qd, qg, qq, qk, ke, kr, qz7, qA, kj, Int.reduceEq, decide_false, qp, qw, qC, qz0, ↓reduceIte, Nat.reduceEqDiff, qS, qR, ql, kz, qn, zc, zH, qZ, c1, qAl, e2, qO, qJ, qb, qH, kv, qh, qt, qV]
    refine kR hid ?_ ?_ <;> omega
end W

set_option linter.unusedSimpArgs false
set_option linter.unusedVariables false
namespace W
open Go (IntKind BinOp UnOp)
set_option maxRecDepth 20000
theorem qqt {Ld : D} {n : Nat} (hL : GL Ld n) {H : List Obj} {id : Nat} (hid : id < H.length) {d b : Nat} (hd : d ≤ 100) (hb : b ≤ 1000000000000)
    (hnum : GC 56 [] b Ld n H id ((d : Nat) : Int)) (hcond : GC 55 [] b Ld n H id ((d : Nat) : Int)) (hsimple : GC 54 [] b Ld n H id ((d : Nat) : Int)) (hbody2 : GC 23 [.d (.i .i64 2)] b Ld n H id ((d : Nat) : Int)) (hbody3 : GC 23 [.d (.i .i64 3)] b Ld n H id ((d : Nat) : Int)) : GC 33 [] (5 * b + 200) Ld n H id ((d + 1 : Nat) : Int) := by
  intro i0 n0
  have hg : ∀ o, (zi H id o)[id]? = some o := qiy hid
  have hle : (((d + 1 : Nat) : Int) ≤ 0) = False := eq_false (by omega)
  have hw1 : wr .i64 (((d + 1 : Nat) : Int) - 1) = (d : Nat) := by rw [jl (by omega) (by omega)]; omega
  have hw2 : wr .i64 ((d : Nat) + 1 : Int) = ((d + 1 : Nat) : Int) := by rw [jl (by omega) (by omega)]; omega
  obtain ⟨v, i1, z0, w0, n1, s0, l0, m0, u0, c0⟩ := jh hL hid (d := (d : Nat)) (n := 16) (by omega) (by omega) n0
  have hv : v = 0 ∨ v = 1 ∨ v = 2 ∨ v = 3 ∨ v = 4 ∨ v = 5 ∨ v = 6 ∨ v = 7 ∨ v = 8 ∨ v = 9 ∨ v = 10 ∨ v = 11 ∨ v = 12 ∨ v = 13 ∨ v = 14 ∨ v = 15 := by omega
  rcases hv with rfl | rfl | rfl | rfl | rfl | rfl | rfl | rfl | rfl | rfl | rfl | rfl | rfl | rfl | rfl | rfl
  · skip
    obtain ⟨t1, j1, q1, n1, s1, l1, m1, u1, c1⟩ := hcond i1 n1
    obtain ⟨r2, y2, _, e2⟩ := cat (txl 3 [73, 70, 32] rfl) q1 (by omega)
    obtain ⟨r3, y3, _, e3⟩ := cat y2 (txl 6 [32, 84, 72, 69, 78, 32] rfl) (by omega)
    obtain ⟨t4, j4, q4, n4, s4, l4, m4, u4, c4⟩ := hbody3 j1 n1
    obtain ⟨r5, y5, _, e5⟩ := cat y3 q4 (by omega)
    obtain ⟨r6, y6, _, e6⟩ := cat y5 (txl 4 [32, 69, 78, 68] rfl) (by omega)
    refine ⟨r6, j4, y6.le (by omega), n4, ?_⟩
    rw [qY (fn := ku) rfl rfl]
    simp only [ku, qj, qz6, qo, qB, qx, qy, qm, qe, kK, qK, qL, qW, qa, qf, kI, reduceCtorEq, qF, qD, qP, qz, ki, qE, qp, qu, kP, qQ, kh, hg, kL, qz5, qz2, qAb, kq, qk, ke, kr, qz7, qA, zr, hle, decide_false, qw, qC, qz0, ↓reduceIte, qS, zk, hw1, Nat.reduceEqDiff, qN, kW, zq, ky, qz4, qz8, qX, kS, kl, qz1, kf, Nat.reduceAdd, Nat.reduceLT, kn, qAc, qAa, kg, kD, kp, qs, qz3, qz9, qc, qM, qI, qi, qT, c0, qr, qd, qg, qq, kj, decide_true, c1, qAl, e2, e3, c4, qAd, e5, e6, qR, ql, kz, qU, qn, kB, hw2, qO, qJ, qb, qH, kv, qh, qt, qV]
    refine kR hid ?_ ?_ <;> omega
  · skip
    obtain ⟨t1, j1, q1, n1, s1, l1, m1, u1, c1⟩ := hcond i1 n1
    obtain ⟨r2, y2, _, e2⟩ := cat (txl 3 [73, 70, 32] rfl) q1 (by omega)
    obtain ⟨r3, y3, _, e3⟩ := cat y2 (txl 6 [32, 84, 72, 69, 78, 32] rfl) (by omega)
    obtain ⟨t4, j4, q4, n4, s4, l4, m4, u4, c4⟩ := hbody2 j1 n1
    obtain ⟨r5, y5, _, e5⟩ := cat y3 q4 (by omega)
    obtain ⟨r6, y6, _, e6⟩ := cat y5 (txl 7 [32, 69, 76, 83, 73, 70, 32] rfl) (by omega)
    obtain ⟨t7, j7, q7, n7, s7, l7, m7, u7, c7⟩ := hcond j4 n4
    obtain ⟨r8, y8, _, e8⟩ := cat y6 q7 (by omega)
    obtain ⟨r9, y9, _, e9⟩ := cat y8 (txl 6 [32, 84, 72, 69, 78, 32] rfl) (by omega)
    obtain ⟨t10, j10, q10, n10, s10, l10, m10, u10, c10⟩ := hbody2 j7 n7
    obtain ⟨r11, y11, _, e11⟩ := cat y9 q10 (by omega)
    obtain ⟨r12, y12, _, e12⟩ := cat y11 (txl 6 [32, 69, 76, 83, 69, 32] rfl) (by omega)
    obtain ⟨t13, j13, q13, n13, s13, l13, m13, u13, c13⟩ := hbody2 j10 n10
    obtain ⟨r14, y14, _, e14⟩ := cat y12 q13 (by omega)
    obtain ⟨r15, y15, _, e15⟩ := cat y14 (txl 4 [32, 69, 78, 68] rfl) (by omega)
    refine ⟨r15, j13, y15.le (by omega), n13, ?_⟩
    rw [qY (fn := ku) rfl rfl]
    simp only [ku, qj, qz6, qo, qB, qx, qy, qm, qe, kK, qK, qL, qW, qa, qf, kI, reduceCtorEq, qF, qD, qP, qz, ki, qE, qp, qu, kP, qQ, kh, hg, kL, qz5, qz2, qAb, kq, qk, ke, kr, qz7, qA, zr, hle, decide_false, qw, qC, qz0, ↓reduceIte, qS, zk, hw1, Nat.reduceEqDiff, qN, kW, zq, ky, qz4, qz8, qX, kS, kl, qz1, kf, Nat.reduceAdd, Nat.reduceLT, kn, qAc, qAa, kg, kD, kp, qs, qz3, qz9, qc, qM, qI, qi, qT, c0, qr, qd, qg, qq, kj, Int.reduceEq, decide_true, c1, qAl, e2, e3, c4, qAd, e5, e6, c7, e8, e9, c10, e11, e12, c13, e14, e15, qR, ql, kz, qU, qn, kB, hw2, qO, qJ, qb, qH, kv, qh, qt, qV]
    refine kR hid ?_ ?_ <;> omega
  · skip
    obtain ⟨t1, j1, q1, n1, s1, l1, m1, u1, c1⟩ := hcond i1 n1
    obtain ⟨r2, y2, _, e2⟩ := cat (txl 7 [87, 72, 73, 76, 69, 32, 40] rfl) q1 (by omega)
    obtain ⟨r3, y3, _, e3⟩ := cat y2 (txl 23 [41, 32, 38, 32, 40, 110, 32, 62, 32, 48, 41, 32, 68, 79, 32, 68, 69, 67, 40, 110, 41, 59, 32] rfl) (by omega)
    obtain ⟨t4, j4, q4, n4, s4, l4, m4, u4, c4⟩ := hbody2 j1 n1
    obtain ⟨r5, y5, _, e5⟩ := cat y3 q4 (by omega)
    obtain ⟨r6, y6, _, e6⟩ := cat y5 (txl 4 [32, 69, 78, 68] rfl) (by omega)
    refine ⟨r6, j4, y6.le (by omega), n4, ?_⟩
    rw [qY (fn := ku) rfl rfl]
    simp only [ku, qj, qz6, qo, qB, qx, qy, qm, qe, kK, qK, qL, qW, qa, qf, kI, reduceCtorEq, qF, qD, qP, qz, ki, qE, qp, qu, kP, qQ, kh, hg, kL, qz5, qz2, qAb, kq, qk, ke, kr, qz7, qA, zr, hle, decide_false, qw, qC, qz0, ↓reduceIte, qS, zk, hw1, Nat.reduceEqDiff, qN, kW, zq, ky, qz4, qz8, qX, kS, kl, qz1, kf, Nat.reduceAdd, Nat.reduceLT, kn, qAc, qAa, kg, kD, kp, qs, qz3, qz9, qc, qM, qI, qi, qT, c0, qr, qd, qg, qq, kj, Int.reduceEq, decide_true, c1, qAl, e2, e3, c4, qAd, e5, e6, qR, ql, kz, qU, qn, kB, hw2, qO, qJ, qb, qH, kv, qh, qt, qV]
    refine kR hid ?_ ?_ <;> omega
  · skip
    obtain ⟨t1, j1, q1, n1, s1, l1, m1, u1, c1⟩ := hbody2 i1 n1
    obtain ⟨r2, y2, _, e2⟩ := cat (txl 15 [82, 69, 80, 69, 65, 84, 32, 73, 78, 67, 40, 106, 41, 59, 32] rfl) q1 (by omega)
    obtain ⟨r3, y3, _, e3⟩ := cat y2 (txl 19 [32, 85, 78, 84, 73, 76, 32, 40, 106, 32, 62, 32, 53, 41, 32, 79, 82, 32, 40] rfl) (by omega)
    obtain ⟨t4, j4, q4, n4, s4, l4, m4, u4, c4⟩ := hcond j1 n1
    obtain ⟨r5, y5, _, e5⟩ := cat y3 q4 (by omega)
    obtain ⟨r6, y6, _, e6⟩ := cat y5 (txl 1 [41] rfl) (by omega)
    refine ⟨r6, j4, y6.le (by omega), n4, ?_⟩
    rw [qY (fn := ku) rfl rfl]
    simp only [ku, qj, qz6, qo, qB, qx, qy, qm, qe, kK, qK, qL, qW, qa, qf, kI, reduceCtorEq, qF, qD, qP, qz, ki, qE, qp, qu, kP, qQ, kh, hg, kL, qz5, qz2, qAb, kq, qk, ke, kr, qz7, qA, zr, hle, decide_false, qw, qC, qz0, ↓reduceIte, qS, zk, hw1, Nat.reduceEqDiff, qN, kW, zq, ky, qz4, qz8, qX, kS, kl, qz1, kf, Nat.reduceAdd, Nat.reduceLT, kn, qAc, qAa, kg, kD, kp, qs, qz3, qz9, qc, qM, qI, qi, qT, c0, qr, qd, qg, qq, kj, Int.reduceEq, decide_true, c1, qAl, e2, e3, c4, qAd, e5, e6, qR, ql, kz, qU, qn, kB, hw2, qO, qJ, qb, qH, kv, qh, qt, qV]
    refine kR hid ?_ ?_ <;> omega
  · skip
    obtain ⟨v1, j1, z1, w1, n1, s1, l1, m1, u1, c1⟩ := jh hL hid (d := (d : Nat)) (n := 3) (by omega) (by omega) n1
    obtain ⟨t1, q1, x1⟩ : ∃ t, Tx 7 t ∧ iaV (.d (.sl [D.s [51], D.s [106, 32, 77, 79, 68, 32, 53], D.s [53]])) (.d (.i .i64 v1)) 1 none = some (.cp (.s t)) := qbh [[51], [106, 32, 77, 79, 68, 32, 53], [53]] 7 rfl z1 w1
    obtain ⟨r2, y2, _, e2⟩ := cat (txl 14 [70, 79, 82, 32, 105, 32, 58, 61, 32, 48, 32, 84, 79, 32] rfl) q1 (by omega)
    obtain ⟨r3, y3, _, e3⟩ := cat y2 (txl 4 [32, 68, 79, 32] rfl) (by omega)
    obtain ⟨t4, j4, q4, n4, s4, l4, m4, u4, c4⟩ := hbody2 j1 n1
    obtain ⟨r5, y5, _, e5⟩ := cat y3 q4 (by omega)
    obtain ⟨r6, y6, _, e6⟩ := cat y5 (txl 4 [32, 69, 78, 68] rfl) (by omega)
    refine ⟨r6, j4, y6.le (by omega), n4, ?_⟩
    rw [qY (fn := ku) rfl rfl]
    simp only [ku, qj, qz6, qo, qB, qx, qy, qm, qe, kK, qK, qL, qW, qa, qf, kI, reduceCtorEq, qF, qD, qP, qz, ki, qE, qp, qu, kP, qQ, kh, hg, kL, qz5, qz2, qAb, kq, qk, ke, kr, qz7, qA, zr, hle, decide_false, qw, qC, qz0, ↓reduceIte, qS, zk, hw1, Nat.reduceEqDiff, qN, kW, zq, ky, qz4, qz8, qX, kS, kl, qz1, kf, Nat.reduceAdd, Nat.reduceLT, kn, qAc, qAa, kg, kD, kp, qs, qz3, qz9, qc, qM, qI, qi, qT, c0, qr, qd, qg, qq, kj, Int.reduceEq, decide_true, jp, zV, kJ, jD, List.reduceReplicate, zD, zR, jk, jg, yR, jK, jj, zT, qdE, zW, jz, c1, zx, yu, kH, jb, x1, qej, zP, zX, qab, zN, qAl, e2, e3, c4, qAd, e5, e6, zw, qR, ql, kz, qU, qn, kB, hw2, qO, qJ, qb, qH, kv, qh, qt, qV]
    refine kR hid ?_ ?_ <;> omega
  · skip
    obtain ⟨t1, j1, q1, n1, s1, l1, m1, u1, c1⟩ := hbody2 i1 n1
    obtain ⟨r2, y2, _, e2⟩ := cat (txl 25 [70, 79, 82, 32, 106, 32, 58, 61, 32, 54, 32, 84, 79, 32, 49, 32, 66, 89, 32, 45, 50, 32, 68, 79, 32] rfl) q1 (by omega)
    obtain ⟨r3, y3, _, e3⟩ := cat y2 (txl 4 [32, 69, 78, 68] rfl) (by omega)
    refine ⟨r3, j1, y3.le (by omega), n1, ?_⟩
    rw [qY (fn := ku) rfl rfl]
    simp only [ku, qj, qz6, qo, qB, qx, qy, qm, qe, kK, qK, qL, qW, qa, qf, kI, reduceCtorEq, qF, qD, qP, qz, ki, qE, qp, qu, kP, qQ, kh, hg, kL, qz5, qz2, qAb, kq, qk, ke, kr, qz7, qA, zr, hle, decide_false, qw, qC, qz0, ↓reduceIte, qS, zk, hw1, Nat.reduceEqDiff, qN, kW, zq, ky, qz4, qz8, qX, kS, kl, qz1, kf, Nat.reduceAdd, Nat.reduceLT, kn, qAc, qAa, kg, kD, kp, qs, qz3, qz9, qc, qM, qI, qi, qT, c0, qr, qd, qg, qq, kj, Int.reduceEq, decide_true, c1, qAl, e2, e3, qR, ql, kz, qU, qn, kB, hw2, qO, qJ, qb, qH, kv, qh, qt, qV]
    refine kR hid ?_ ?_ <;> omega
  · skip
    obtain ⟨t1, j1, q1, n1, s1, l1, m1, u1, c1⟩ := hnum i1 n1
    obtain ⟨r2, y2, _, e2⟩ := cat (txl 5 [67, 65, 83, 69, 32] rfl) q1 (by omega)
    obtain ⟨r3, y3, _, e3⟩ := cat y2 (txl 13 [32, 77, 79, 68, 32, 53, 32, 79, 70, 32, 48, 58, 32] rfl) (by omega)
    obtain ⟨t4, j4, q4, n4, s4, l4, m4, u4, c4⟩ := hbody2 j1 n1
    obtain ⟨r5, y5, _, e5⟩ := cat y3 q4 (by omega)
    obtain ⟨r6, y6, _, e6⟩ := cat y5 (txl 14 [32, 124, 32, 49, 32, 46, 46, 32, 50, 44, 32, 52, 58, 32] rfl) (by omega)
    obtain ⟨t7, j7, q7, n7, s7, l7, m7, u7, c7⟩ := hbody2 j4 n4
    obtain ⟨r8, y8, _, e8⟩ := cat y6 q7 (by omega)
    obtain ⟨r9, y9, _, e9⟩ := cat y8 (txl 6 [32, 124, 32, 51, 58, 32] rfl) (by omega)
    obtain ⟨t10, j10, q10, n10, s10, l10, m10, u10, c10⟩ := hsimple j7 n7
    obtain ⟨r11, y11, _, e11⟩ := cat y9 q10 (by omega)
    obtain ⟨r12, y12, _, e12⟩ := cat y11 (txl 4 [32, 69, 78, 68] rfl) (by omega)
    refine ⟨r12, j10, y12.le (by omega), n10, ?_⟩
    rw [qY (fn := ku) rfl rfl]
    simp only [ku, qj, qz6, qo, qB, qx, qy, qm, qe, kK, qK, qL, qW, qa, qf, kI, reduceCtorEq, qF, qD, qP, qz, ki, qE, qp, qu, kP, qQ, kh, hg, kL, qz5, qz2, qAb, kq, qk, ke, kr, qz7, qA, zr, hle, decide_false, qw, qC, qz0, ↓reduceIte, qS, zk, hw1, Nat.reduceEqDiff, qN, kW, zq, ky, qz4, qz8, qX, kS, kl, qz1, kf, Nat.reduceAdd, Nat.reduceLT, kn, qAc, qAa, kg, kD, kp, qs, qz3, qz9, qc, qM, qI, qi, qT, c0, qr, qd, qg, qq, kj, Int.reduceEq, decide_true, c1, qAl, e2, e3, c4, qAd, e5, e6, c7, e8, e9, c10, e11, e12, qR, ql, kz, qU, qn, kB, hw2, qO, qJ, qb, qH, kv, qh, qt, qV]
    refine kR hid ?_ ?_ <;> omega
  · skip
    obtain ⟨t1, j1, q1, n1, s1, l1, m1, u1, c1⟩ := hsimple i1 n1
    obtain ⟨r2, y2, _, e2⟩ := cat (txl 22 [67, 65, 83, 69, 32, 99, 32, 79, 70, 32, 34, 97, 34, 32, 46, 46, 32, 34, 122, 34, 58, 32] rfl) q1 (by omega)
    obtain ⟨r3, y3, _, e3⟩ := cat y2 (txl 7 [32, 124, 32, 48, 88, 58, 32] rfl) (by omega)
    obtain ⟨t4, j4, q4, n4, s4, l4, m4, u4, c4⟩ := hsimple j1 n1
    obtain ⟨r5, y5, _, e5⟩ := cat y3 q4 (by omega)
    obtain ⟨r6, y6, _, e6⟩ := cat y5 (txl 20 [32, 124, 32, 34, 48, 34, 58, 32, 99, 32, 58, 61, 32, 34, 113, 34, 32, 69, 78, 68] rfl) (by omega)
    refine ⟨r6, j4, y6.le (by omega), n4, ?_⟩
    rw [qY (fn := ku) rfl rfl]
    simp only [ku, qj, qz6, qo, qB, qx, qy, qm, qe, kK, qK, qL, qW, qa, qf, kI, reduceCtorEq, qF, qD, qP, qz, ki, qE, qp, qu, kP, qQ, kh, hg, kL, qz5, qz2, qAb, kq, qk, ke, kr, qz7, qA, zr, hle, decide_false, qw, qC, qz0, ↓reduceIte, qS, zk, hw1, Nat.reduceEqDiff, qN, kW, zq, ky, qz4, qz8, qX, kS, kl, qz1, kf, Nat.reduceAdd, Nat.reduceLT, kn, qAc, qAa, kg, kD, kp, qs, qz3, qz9, qc, qM, qI, qi, qT, c0, qr, qd, qg, qq, kj, Int.reduceEq, decide_true, c1, qAl, e2, e3, c4, qAd, e5, e6, qR, ql, kz, qU, qn, kB, hw2, qO, qJ, qb, qH, kv, qh, qt, qV]
    refine kR hid ?_ ?_ <;> omega
  · skip
    refine ⟨[87, 72, 73, 76, 69, 32, 106, 32, 60, 32, 48, 32, 68, 79, 32, 73, 78, 67, 40, 106, 41, 32, 69, 76, 83, 73, 70, 32, 106, 32, 62, 32, 57, 32, 68, 79, 32, 68, 69, 67, 40, 106, 44, 32, 51, 41, 32, 69, 78, 68], i1, (txl 50 [87, 72, 73, 76, 69, 32, 106, 32, 60, 32, 48, 32, 68, 79, 32, 73, 78, 67, 40, 106, 41, 32, 69, 76, 83, 73, 70, 32, 106, 32, 62, 32, 57, 32, 68, 79, 32, 68, 69, 67, 40, 106, 44, 32, 51, 41, 32, 69, 78, 68] rfl).le (by omega), n1, ?_⟩
    rw [qY (fn := ku) rfl rfl]
    simp only [ku, qj, qz6, qo, qB, qx, qy, qm, qe, kK, qK, qL, qW, qa, qf, kI, reduceCtorEq, qF, qD, qP, qz, ki, qE, qp, qu, kP, qQ, kh, hg, kL, qz5, qz2, qAb, kq, qk, ke, kr, qz7, qA, zr, hle, decide_false, qw, qC, qz0, ↓reduceIte, qS, zk, hw1, Nat.reduceEqDiff, qN, kW, zq, ky, qz4, qz8, qX, kS, kl, qz1, kf, Nat.reduceAdd, Nat.reduceLT, kn, qAc, qAa, kg, kD, kp, qs, qz3, qz9, qc, qM, qI, qi, qT, c0, qr, qd, qg, qq, kj, Int.reduceEq, decide_true, qR, ql, kz, qU, qn, kB, hw2, qO, qJ, qb, qH, kv, qh, qt, qV]
    refine kR hid ?_ ?_ <;> omega
  · skip
    obtain ⟨t1, j1, q1, n1, s1, l1, m1, u1, c1⟩ := hsimple i1 n1
    refine ⟨t1, j1, q1.le (by omega), n1, ?_⟩
    rw [qY (fn := ku) rfl rfl]
    simp only [ku, qj, qz6, qo, qB, qx, qy, qm, qe, kK, qK, qL, qW, qa, qf, kI, reduceCtorEq, qF, qD, qP, qz, ki, qE, qp, qu, kP, qQ, kh, hg, kL, qz5, qz2, qAb, kq, qk, ke, kr, qz7, qA, zr, hle, decide_false, qw, qC, qz0, ↓reduceIte, qS, zk, hw1, Nat.reduceEqDiff, qN, kW, zq, ky, qz4, qz8, qX, kS, kl, qz1, kf, Nat.reduceAdd, Nat.reduceLT, kn, qAc, qAa, kg, kD, kp, qs, qz3, qz9, qc, qM, qI, qi, qT, c0, qr, qd, qg, qq, kj, Int.reduceEq, c1, zc, kV, qZ, qR, ql, kz, qU, qn, kB, hw2, qO, qJ, qb, qH, kv, qh, qt, qV]
    refine kR hid ?_ ?_ <;> omega
  · skip
    obtain ⟨t1, j1, q1, n1, s1, l1, m1, u1, c1⟩ := hsimple i1 n1
    refine ⟨t1, j1, q1.le (by omega), n1, ?_⟩
    rw [qY (fn := ku) rfl rfl]
    simp only [ku, qj, qz6, qo, qB, qx, qy, qm, qe, kK, qK, qL, qW, qa, qf, kI, reduceCtorEq, qF, qD, qP, qz, ki, qE, qp, qu, kP, qQ, kh, hg, kL, qz5, qz2, qAb, kq, qk, ke, kr, qz7, qA, zr, hle, decide_false, qw, qC, qz0, ↓reduceIte, qS, zk, hw1, Nat.reduceEqDiff, qN, kW, zq, ky, qz4, qz8, qX, kS, kl, qz1, kf, Nat.reduceAdd, Nat.reduceLT, kn, qAc, qAa, kg, kD, kp, qs, qz3, qz9, qc, qM, qI, qi, qT, c0, qr, qd, qg, qq, kj, Int.reduceEq, c1, zc, kV, qZ, qR, ql, kz, qU, qn, kB, hw2, qO, qJ, qb, qH, kv, qh, qt, qV]
    refine kR hid ?_ ?_ <;> omega
  · skip
    obtain ⟨t1, j1, q1, n1, s1, l1, m1, u1, c1⟩ := hsimple i1 n1
    refine ⟨t1, j1, q1.le (by omega), n1, ?_⟩
    rw [qY (fn := ku) rfl rfl]
    simp only [ku, qj, qz6, qo, qB, qx, qy, qm, qe, kK, qK, qL, qW, qa, qf, kI, reduceCtorEq, qF, qD, qP, qz, ki, qE, qp, qu, kP, qQ, kh, hg, kL, qz5, qz2, qAb, kq, qk, ke, kr, qz7, qA, zr, hle, decide_false, qw, qC, qz0, ↓reduceIte, qS, zk, hw1, Nat.reduceEqDiff, qN, kW, zq, ky, qz4, qz8, qX, kS, kl, qz1, kf, Nat.reduceAdd, Nat.reduceLT, kn, qAc, qAa, kg, kD, kp, qs, qz3, qz9, qc, qM, qI, qi, qT, c0, qr, qd, qg, qq, kj, Int.reduceEq, c1, zc, kV, qZ, qR, ql, kz, qU, qn, kB, hw2, qO, qJ, qb, qH, kv, qh, qt, qV]
    refine kR hid ?_ ?_ <;> omega
  · skip
    obtain ⟨t1, j1, q1, n1, s1, l1, m1, u1, c1⟩ := hsimple i1 n1
    refine ⟨t1, j1, q1.le (by omega), n1, ?_⟩
    rw [qY (fn := ku) rfl rfl]
    simp only [ku, qj, qz6, qo, qB, qx, qy, qm, qe, kK, qK, qL, qW, qa, qf, kI, reduceCtorEq, qF, qD, qP, qz, ki, qE, qp, qu, kP, qQ, kh, hg, kL, qz5, qz2, qAb, kq, qk, ke, kr, qz7, qA, zr, hle, decide_false, qw, qC, qz0, ↓reduceIte, qS, zk, hw1, Nat.reduceEqDiff, qN, kW, zq, ky, qz4, qz8, qX, kS, kl, qz1, kf, Nat.reduceAdd, Nat.reduceLT, kn, qAc, qAa, kg, kD, kp, qs, qz3, qz9, qc, qM, qI, qi, qT, c0, qr, qd, qg, qq, kj, Int.reduceEq, c1, zc, kV, qZ, qR, ql, kz, qU, qn, kB, hw2, qO, qJ, qb, qH, kv, qh, qt, qV]
    refine kR hid ?_ ?_ <;> omega
  · skip
    obtain ⟨t1, j1, q1, n1, s1, l1, m1, u1, c1⟩ := hsimple i1 n1
    refine ⟨t1, j1, q1.le (by omega), n1, ?_⟩
    rw [qY (fn := ku) rfl rfl]
    simp only [ku, qj, qz6, qo, qB, qx, qy, qm, qe, kK, qK, qL, qW, qa, qf, kI, reduceCtorEq, qF, qD, qP, qz, ki, qE, qp, qu, kP, qQ, kh, hg, kL, qz5, qz2, qAb, kq, qk, ke, kr, qz7, qA, zr, hle, decide_false, qw, qC, qz0, ↓reduceIte, qS, zk, hw1, Nat.reduceEqDiff, qN, kW, zq, ky, qz4, qz8, qX, kS, kl, qz1, kf, Nat.reduceAdd, Nat.reduceLT, kn, qAc, qAa, kg, kD, kp, qs, qz3, qz9, qc, qM, qI, qi, qT, c0, qr, qd, qg, qq, kj, Int.reduceEq, c1, zc, kV, qZ, qR, ql, kz, qU, qn, kB, hw2, qO, qJ, qb, qH, kv, qh, qt, qV]
    refine kR hid ?_ ?_ <;> omega
  · skip
    obtain ⟨t1, j1, q1, n1, s1, l1, m1, u1, c1⟩ := hsimple i1 n1
    refine ⟨t1, j1, q1.le (by omega), n1, ?_⟩
    rw [qY (fn := ku) rfl rfl]
    simp only [ku, qj, qz6, qo, qB, qx, qy, qm, qe, kK, qK, qL, qW, qa, qf, kI, reduceCtorEq, qF, qD, qP, qz, ki, qE, qp, qu, kP, qQ, kh, hg, kL, qz5, qz2, qAb, kq, qk, ke, kr, qz7, qA, zr, hle, decide_false, qw, qC, qz0, ↓reduceIte, qS, zk, hw1, Nat.reduceEqDiff, qN, kW, zq, ky, qz4, qz8, qX, kS, kl, qz1, kf, Nat.reduceAdd, Nat.reduceLT, kn, qAc, qAa, kg, kD, kp, qs, qz3, qz9, qc, qM, qI, qi, qT, c0, qr, qd, qg, qq, kj, Int.reduceEq, c1, zc, kV, qZ, qR, ql, kz, qU, qn, kB, hw2, qO, qJ, qb, qH, kv, qh, qt, qV]
    refine kR hid ?_ ?_ <;> omega
  · skip
    obtain ⟨t1, j1, q1, n1, s1, l1, m1, u1, c1⟩ := hsimple i1 n1
    refine ⟨t1, j1, q1.le (by omega), n1, ?_⟩
    rw [qY (fn := ku) rfl rfl]
    simp only [ku, qj, qz6, qo, qB, qx, qy, qm, qe, kK, qK, qL, qW, qa, qf, kI, reduceCtorEq, qF, qD, qP, qz, ki, qE, qp, qu, kP, qQ, kh, hg, kL, qz5, qz2, qAb, kq, qk, ke, kr, qz7, qA, zr, hle, decide_false, qw, qC, qz0, ↓reduceIte, qS, zk, hw1, Nat.reduceEqDiff, qN, kW, zq, ky, qz4, qz8, qX, kS, kl, qz1, kf, Nat.reduceAdd, Nat.reduceLT, kn, qAc, qAa, kg, kD, kp, qs, qz3, qz9, qc, qM, qI, qi, qT, c0, qr, qd, qg, qq, kj, Int.reduceEq, c1, zc, kV, qZ, qR, ql, kz, qU, qn, kB, hw2, qO, qJ, qb, qH, kv, qh, qt, qV]
    refine kR hid ?_ ?_ <;> omega
end W

set_option linter.unusedSimpArgs false
set_option linter.unusedVariables false
namespace W
open Go (IntKind BinOp UnOp)
set_option maxRecDepth 20000
def digs : List Nat := [48, 49, 50, 51, 52, 53, 54, 55, 56, 57]
theorem quZ {n : Int} (h0 : 0 ≤ n) (h1 : n < 10) : ∃ t, Tx 1 t ∧ qev (.d (.s [48, 49, 50, 51, 52, 53, 54, 55, 56, 57])) (some n) (some (n + 1)) = some (.d (.s t)) := by
  have h : n = 0 ∨ n = 1 ∨ n = 2 ∨ n = 3 ∨ n = 4 ∨ n = 5 ∨ n = 6 ∨ n = 7 ∨ n = 8 ∨ n = 9 := by omega
  rcases h with rfl | rfl | rfl | rfl | rfl | rfl | rfl | rfl | rfl | rfl
  · exact ⟨[48], txl 1 _ rfl, rfl⟩
  · exact ⟨[49], txl 1 _ rfl, rfl⟩
  · exact ⟨[50], txl 1 _ rfl, rfl⟩
  · exact ⟨[51], txl 1 _ rfl, rfl⟩
  · exact ⟨[52], txl 1 _ rfl, rfl⟩
  · exact ⟨[53], txl 1 _ rfl, rfl⟩
  · exact ⟨[54], txl 1 _ rfl, rfl⟩
  · exact ⟨[55], txl 1 _ rfl, rfl⟩
  · exact ⟨[56], txl 1 _ rfl, rfl⟩
  · exact ⟨[57], txl 1 _ rfl, rfl⟩
def qo4 (m : Int) (k : Nat) : Prop := ∀ (n : Int) (H : List Obj), 0 ≤ n → n < m → ∃ t, Tx k t ∧ zC pg 83 [.d (.i .i64 n)] H = some ⟨false, true, .d (.s t), H, H.length⟩
theorem quE : qo4 10 1 := by
  intro n H h0 h1
  obtain ⟨t, h, hs⟩ := quZ h0 h1
  have hw : wr .i64 (n + 1) = n + 1 := jl (by omega) (by omega)
  refine ⟨t, h, ?_⟩
  rw [qY (fn := qbK) rfl rfl]
  simp only [qbK, qj, qz6, qo, qx, qy, qm, qe, kK, qK, qL, qW, qa, qf, kI, reduceCtorEq, qF, qD, qA, qz, qk, ke, kr, qz7, zj, eq_true h1, decide_true, qp, qw, qC, ↓reduceIte, kB, hw, jY, yn, Nat.reduceEqDiff, qc4, qas, hs, qO, ko, qJ, qb, qH, kv, qh, qt, qV, qI, jM, yp, kM]
theorem qx9 {m : Int} {k : Nat} (hk : 1 ≤ k) (hk2 : k ≤ 100) (hm : 10 ≤ m) (hm2 : m ≤ 1000000) (ih : qo4 m k) : qo4 (10 * m) (k + 1) := by
  intro n H h0 h1
  by_cases h : n < 10
  · obtain ⟨t, q, c⟩ := quE n H h0 h
    exact ⟨t, q.le (by omega), c⟩
  · have e1 := Int.tdiv_eq_ediv_of_nonneg (b := 10) h0
    have e2 := Int.tmod_eq_emod_of_nonneg (b := 10) h0
    have hw : wr .i64 (n.tdiv 10) = n.tdiv 10 := jl (by omega) (by omega)
    obtain ⟨t, q, c⟩ := ih (n.tdiv 10) H (by omega) (by omega)
    obtain ⟨u, r, d⟩ := quE (n.tmod 10) H (by omega) (by omega)
    obtain ⟨x, y, _, e⟩ := cat q r (by omega)
    refine ⟨x, y, ?_⟩
    rw [qY (fn := qbK) rfl rfl]
    simp only [qbK, qj, qz6, qo, qx, qy, qm, qe, kK, qK, qL, qW, qa, qf, kI, reduceCtorEq, qF, qD, qA, qz, qk, ke, kr, qz7, zj, eq_false h, decide_false, qp, qw, qC, qz0, ↓reduceIte, qS, Int.reduceEq, qtu, hw, qs, qz3, qz9, qc, qI, qi, qz1, qT, c, qr, qd, qg, qAs, qme, d, qAd, Nat.reduceEqDiff, e, qO, qJ, qb, qH, kv, qh, qt, qV, jM, yp, kM]
theorem qzm : qo4 1000 3 := qx9 (by omega) (by omega) (by omega) (by omega) (qx9 (by omega) (by omega) (by omega) (by omega) quE)
theorem qk9 {Ld : D} {n : Nat} (hL : GL Ld n) {H : List Obj} {id : Nat} (hid : id < H.length) {d : Int} : GC 70 [] 30 Ld n H id d := by
  intro i0 n0
  have hg : ∀ o, (zi H id o)[id]? = some o := qiy hid
  obtain ⟨v1, i1, z1, w1, n1, s1, l1, m1, u1, c1⟩ := jh hL hid (d := d) (n := 300) (by omega) (by omega) n0
  obtain ⟨t2, q2, c2⟩ := qzm v1 (G H id Ld i1 d) (by omega) (by omega)
  obtain ⟨r1, y1, _, e1⟩ := cat (txl 4 [67, 72, 82, 40] rfl) q2 (by omega)
  obtain ⟨r2, y2, _, e2⟩ := cat y1 (txl 9 [32, 77, 79, 68, 32, 50, 53, 54, 41] rfl) (by omega)
  obtain ⟨v3, i3, z3, w3, n3, s3, l3, m3, u3, c3⟩ := jh hL hid (d := d) (n := 9) (by omega) (by omega) n1
  have hx : ∃ t, Tx 30 t ∧ iaV (.d (.sl [D.s [99], D.s [34, 120, 34], D.s [52, 49, 88], D.s [116, 91, 50, 93], D.s r2, D.s [67, 72, 82, 40, 105, 32, 77, 79, 68, 32, 49, 50, 56, 41], D.s [116, 91, 105, 32, 77, 79, 68, 32, 54, 93], D.s [117, 46, 122], D.s [48, 88]])) (.d (.i .i64 v3)) 1 none = some (.cp (.s t)) := by
    have h : v3 = 0 ∨ v3 = 1 ∨ v3 = 2 ∨ v3 = 3 ∨ v3 = 4 ∨ v3 = 5 ∨ v3 = 6 ∨ v3 = 7 ∨ v3 = 8 := by omega
    rcases h with rfl | rfl | rfl | rfl | rfl | rfl | rfl | rfl | rfl
    · exact ⟨_, txl 30 [99] rfl, rfl⟩
    · exact ⟨_, txl 30 [34, 120, 34] rfl, rfl⟩
    · exact ⟨_, txl 30 [52, 49, 88] rfl, rfl⟩
    · exact ⟨_, txl 30 [116, 91, 50, 93] rfl, rfl⟩
    · exact ⟨r2, y2.le (by omega), rfl⟩
    · exact ⟨_, txl 30 [67, 72, 82, 40, 105, 32, 77, 79, 68, 32, 49, 50, 56, 41] rfl, rfl⟩
    · exact ⟨_, txl 30 [116, 91, 105, 32, 77, 79, 68, 32, 54, 93] rfl, rfl⟩
    · exact ⟨_, txl 30 [117, 46, 122] rfl, rfl⟩
    · exact ⟨_, txl 30 [48, 88] rfl, rfl⟩
  obtain ⟨t4, q4, x4⟩ := hx
  refine ⟨t4, i3, q4, n3, ?_⟩
  rw [qY (fn := qbO) rfl rfl]
  simp only [qbO, qj, qz6, qo, qB, qx, qy, qm, qe, kK, qK, qL, qW, qa, qf, kI, reduceCtorEq, qF, qD, qP, qz, ki, qs, qz3, qz9, qc, qM, qI, qi, qz1, qT, c1, qr, qd, qg, qA, c2, qk, kr, ke, qAl, e1, qp, qz7, e2, kJ, jD, qz4, qz8, List.reduceReplicate, Nat.reduceAdd, Nat.reduceLT, zD, qAa, qAc, zR, jk, jg, yR, jK, jj, yy, zc, zH, qZ, c3, kH, Nat.reduceEqDiff, jb, x4, yQ, zP, zX, qab, zN, qO, qJ, qb, qH, kv, qh, qt, qV]
  refine kR hid ?_ ?_ <;> omega
theorem qr7 {Ld : D} {n : Nat} (hL : GL Ld n) {H : List Obj} {id : Nat} (hid : id < H.length) : GC 56 [] 9 Ld n H id ((0 : Nat) : Int) := by
  show GC 56 [] 9 Ld n H id (0 : Int)
  intro i0 n0
  have hg : ∀ o, (zi H id o)[id]? = some o := qiy hid
  obtain ⟨t1, i1, q1, n1, s1, l1, m1, u1, c1⟩ := qgW hL hid (d := (0 : Int)) i0 n0
  refine ⟨t1, i1, q1, n1, ?_⟩
  rw [qY (fn := kc) rfl rfl]
  simp only [kc, qj, qz6, qo, qB, qx, qy, qm, qe, kK, qK, qL, qW, qa, qf, kI, reduceCtorEq, qF, qD, qP, qz, ki, qE, qp, qu, kP, qQ, kh, hg, kL, qz5, qz2, qAb, kq, qk, ke, kr, qz7, qA, zr, Int.reduceLE, decide_true, qw, qC, ↓reduceIte, zc, zH, qZ, qs, qz3, qz9, qc, qM, qi, qz1, qT, c1, qr, qd, qg, kV, qO, ko, qJ, qb, qH, kv, qh, qt, qV]
  refine kR hid ?_ ?_ <;> omega
theorem qqz {Ld : D} {n : Nat} (hL : GL Ld n) {H : List Obj} {id : Nat} (hid : id < H.length) : GC 55 [] 9 Ld n H id ((0 : Nat) : Int) := by
  show GC 55 [] 9 Ld n H id (0 : Int)
  intro i0 n0
  have hg : ∀ o, (zi H id o)[id]? = some o := qiy hid
  obtain ⟨v1, i1, z1, w1, n1, s1, l1, m1, u1, c1⟩ := jh hL hid (d := (0 : Int)) (n := 3) (by omega) (by omega) n0
  obtain ⟨t1, q1, x1⟩ : ∃ t, Tx 9 t ∧ iaV (.d (.sl [D.s [98], D.s [84, 82, 85, 69], D.s [105, 32, 60, 32, 110]])) (.d (.i .i64 v1)) 1 none = some (.cp (.s t)) := qbh [[98], [84, 82, 85, 69], [105, 32, 60, 32, 110]] 9 rfl z1 w1
  refine ⟨t1, i1, q1, n1, ?_⟩
  rw [qY (fn := kC) rfl rfl]
  simp only [kC, qj, qz6, qo, qB, qx, qy, qm, qe, kK, qK, qL, qW, qa, qf, kI, reduceCtorEq, qF, qD, qP, qz, ki, qE, qp, qu, kP, qQ, kh, hg, kL, qz5, qz2, qAb, kq, qk, ke, kr, qz7, qA, zr, Int.reduceLE, decide_true, qw, qC, ↓reduceIte, kJ, jD, qz4, qz8, List.reduceReplicate, qz3, qz9, Nat.reduceAdd, Nat.reduceLT, zD, qAa, qAc, zR, jk, jg, yR, jK, qz1, jj, yy, zc, zH, qZ, qs, qc, qM, qI, qi, qT, c1, qr, qd, qg, kH, Nat.reduceEqDiff, jb, x1, yQ, zP, zX, qab, zN, qO, ko, qJ, qb, qH, kv, qh, qt, qV]
  refine kR hid ?_ ?_ <;> omega
theorem qqN {Ld : D} {n : Nat} {H : List Obj} {id : Nat} (hid : id < H.length) {b : Nat} (hs : GC 54 [] b Ld n H id (0 : Int)) : GC 33 [] b Ld n H id ((0 : Nat) : Int) := by
  show GC 33 [] b Ld n H id (0 : Int)
  intro i0 n0
  have hg : ∀ o, (zi H id o)[id]? = some o := qiy hid
  obtain ⟨t1, i1, q1, n1, s1, l1, m1, u1, c1⟩ := hs i0 n0
  refine ⟨t1, i1, q1, n1, ?_⟩
  rw [qY (fn := ku) rfl rfl]
  simp only [ku, qj, qz6, qo, qB, qx, qy, qm, qe, kK, qK, qL, qW, qa, qf, kI, reduceCtorEq, qF, qD, qP, qz, ki, qE, qp, qu, kP, qQ, kh, hg, kL, qz5, qz2, qAb, kq, qk, ke, kr, qz7, qA, zr, Int.reduceLE, decide_true, qw, qC, ↓reduceIte, zc, zH, qZ, qs, qz3, qz9, qc, qM, qi, qz1, qT, c1, qr, qd, qg, kV, qO, ko, qJ, qb, qH, kv, qh, qt, qV]
  refine kR hid ?_ ?_ <;> omega
theorem qmc {Ld : D} {n : Nat} (hL : GL Ld n) {H : List Obj} {id : Nat} (hid : id < H.length) : ∀ d : Nat, d ≤ 4 → GC 56 [] 2000 Ld n H id (d : Nat) ∧ GC 55 [] 2000 Ld n H id (d : Nat) := by
  have st : ∀ d b : Nat, d ≤ 100 → 40 ≤ b → b ≤ 1000000 → GC 56 [] b Ld n H id (d : Nat) → GC 55 [] b Ld n H id (d : Nat) → GC 56 [] (2 * b + 40) Ld n H id ((d + 1 : Nat) : Int) ∧ GC 55 [] (2 * b + 40) Ld n H id ((d + 1 : Nat) : Int) := fun d b hd hb hb2 h1 h2 =>
    ⟨qr6 hL hid hd (by omega) ((qgW hL hid).le (by omega)) h1 ((qk9 hL hid).le (by omega)) ((qjM hL hid).le (by omega)) h2,
     qpN hL hid hd (by omega) ((qgW hL hid).le (by omega)) h1 ((qjM hL hid).le (by omega)) h2⟩
  have h0 : GC 56 [] 40 Ld n H id ((0 : Nat) : Int) ∧ GC 55 [] 40 Ld n H id ((0 : Nat) : Int) := ⟨(qr7 hL hid).le (by omega), (qqz hL hid).le (by omega)⟩
  have h1 := st 0 40 (by omega) (by omega) (by omega) h0.1 h0.2
  have h2 := st 1 _ (by omega) (by omega) (by omega) h1.1 h1.2
  have h3 := st 2 _ (by omega) (by omega) (by omega) h2.1 h2.2
  have h4 := st 3 _ (by omega) (by omega) (by omega) h3.1 h3.2
  intro d hd
  have h : d = 0 ∨ d = 1 ∨ d = 2 ∨ d = 3 ∨ d = 4 := by omega
  rcases h with rfl | rfl | rfl | rfl | rfl
  · exact ⟨h0.1.le (by omega), h0.2.le (by omega)⟩
  · exact ⟨h1.1.le (by omega), h1.2.le (by omega)⟩
  · exact ⟨h2.1.le (by omega), h2.2.le (by omega)⟩
  · exact ⟨h3.1.le (by omega), h3.2.le (by omega)⟩
  · exact ⟨h4.1.le (by omega), h4.2.le (by omega)⟩
theorem qkv {Ld : D} {n : Nat} (hL : GL Ld n) {H : List Obj} {id : Nat} (hid : id < H.length) {d : Nat} (hd : d ≤ 4) : GC 54 [] 5000 Ld n H id (d : Nat) :=
  (qmQ hL hid (b := 2000) (by omega) ((qgW hL hid).le (by omega)) (qmc hL hid d hd).1 ((qk9 hL hid).le (by omega)) ((qjM hL hid).le (by omega)) (qmc hL hid d hd).2 ((qk6 hL hid).le (by omega))).le (by omega)
theorem qiL {Ld : D} {n : Nat} {H : List Obj} {id : Nat} (hid : id < H.length) {d : Int} {b : Nat} (hb : b ≤ 1000000000) (hs : GC 33 [] b Ld n H id d) : ∀ (k : Nat) (i : Nat) (t : List Nat) (B lo : Nat), k ≤ 10 → i ≤ n → Tx B t → B + k * (b + 2) ≤ 1000000000000 → id ≤ lo →
    ∃ t' i' lo', Tx (B + k * (b + 2)) t' ∧ i' ≤ n ∧ id ≤ lo' ∧ (H.length ≤ lo' → i' = i ∧ H.length ≤ lo) ∧ j5 0 [5] (qa0 pg (.ptr id 0) (.d (.s t)) (.d (.i .i64 (k : Nat))) (G H id Ld i d) lo) = some (.nrm, ⟨[(5, .d (.s t'))], G H id Ld i' d, lo'⟩)
  | 0, i, t, B, lo, hk, hi, ht, hB, hlo => by
    have hlt : ((0 : Int) < ((0 : Nat) : Int)) = False := by simp
    refine ⟨t, i, lo, ht.le (by omega), hi, hlo, fun h => ⟨rfl, h⟩, ?_⟩
    rw [qbo]
    simp only [yW, kz, qU, qAv, qx, qy, qm, qe, kI, reduceCtorEq, qF, Nat.reduceEqDiff, qD, qA, qz, qL, qW, qk, ke, kr, qz7, kK, je, Int.reduceLT, decide_false, qp, qa, qf, qw, qC, qz0, ↓reduceIte, yB, jH, jx, ql, qn]
  | k + 1, i, t, B, lo, hk, hi, ht, hB, hlo => by
    have hlt : ((0 : Int) < ((k + 1 : Nat) : Int)) = True := eq_true (by omega)
    have hw : wr .i64 (((k + 1 : Nat) : Int) - 1) = (k : Nat) := by rw [jl (by omega) (by omega)]; omega
    have hmul : (k + 1) * (b + 2) = k * (b + 2) + (b + 2) := Nat.succ_mul k (b + 2)
    obtain ⟨t1, j1, q1, n1, s1, l1, m1, u1, c1⟩ := hs i hi
    by_cases h0 : t = []
    · subst h0
      obtain ⟨r2, y2, _, e2⟩ := cat ht q1 (by omega)
      obtain ⟨t', i', lo', a1, a2, a3, a4, a5⟩ := qiL hid hb hs k j1 r2 (B + b) (min lo l1) (by omega) n1 y2 (by omega) (by omega)
      refine ⟨t', i', lo', a1.le (by omega), a2, a3, fun h => ?_, ?_⟩
      · obtain ⟨x1, x2⟩ := a4 h
        have := u1 (by omega)
        exact ⟨by omega, by omega⟩
      · rw [qbo]
        simp only [yW, kz, qU, qx, qy, qm, qe, kI, reduceCtorEq, qF, Nat.reduceEqDiff, qD, qA, qz, qL, qW, qk, ke, kr, qz7, kK, je, hlt, decide_true, qp, qa, qf, qw, qC, ↓reduceIte, qS, qq, qjN, qAm, qz0, qP, ki, qs, qz3, qz9, qc, qM, qi, qz1, qT, c1, qr, qd, qg, qAd, e2, qR, ql, qn, zk, hw, qbz]
        exact a5
    · obtain ⟨r1, y1, _, e1⟩ := cat ht (txl 2 [59, 32] rfl) (by omega)
      obtain ⟨r2, y2, _, e2⟩ := cat y1 q1 (by omega)
      obtain ⟨t', i', lo', a1, a2, a3, a4, a5⟩ := qiL hid hb hs k j1 r2 (B + 2 + b) (min lo l1) (by omega) n1 y2 (by omega) (by omega)
      refine ⟨t', i', lo', a1.le (by omega), a2, a3, fun h => ?_, ?_⟩
      · obtain ⟨x1, x2⟩ := a4 h
        have := u1 (by omega)
        exact ⟨by omega, by omega⟩
      · rw [qbo]
        simp only [yW, kz, qU, qx, qy, qm, qe, kI, reduceCtorEq, qF, Nat.reduceEqDiff, qD, qA, qz, qL, qW, qk, ke, kr, qz7, kK, je, hlt, decide_true, qp, qa, qf, qw, qC, ↓reduceIte, qS, qq, qjN, eq_false h0, decide_false, qAr, e1, qP, ki, qs, qz3, qz9, qc, qM, qi, qz1, qT, c1, qr, qd, qg, qAd, e2, qR, ql, qn, zk, hw, qbz]
        exact a5
theorem qiI {Ld : D} {n : Nat} (hL : GL Ld n) {H : List Obj} {id : Nat} (hid : id < H.length) {d : Int} {b : Nat} (hb : b ≤ 1000000000) (hs : GC 33 [] b Ld n H id d) {m : Nat} (hm : 0 < m) (hm2 : m ≤ 9) : GC 23 [.d (.i .i64 (m : Nat))] (m * (b + 2)) Ld n H id d := by
  intro i0 n0
  have hg : ∀ o, (zi H id o)[id]? = some o := qiy hid
  have hmb : m * (b + 2) ≤ 9 * (b + 2) := Nat.mul_le_mul_right _ hm2
  obtain ⟨v1, i1, z1, w1, n1, s1, l1, m1, u1, c1⟩ := jh hL hid (d := d) (n := (m : Nat)) (by omega) (by omega) n0
  obtain ⟨v, rfl⟩ := Int.eq_ofNat_of_zero_le z1
  have hvm : (v + 1) * (b + 2) ≤ m * (b + 2) := Nat.mul_le_mul_right _ (by omega)
  have hw : wr .i64 ((v : Int) + 1) = ((v + 1 : Nat) : Int) := by rw [jl (by omega) (by omega)]; omega
  obtain ⟨t', i', lo', a1, a2, a3, a4, a5⟩ := qiL hid hb hs (v + 1) i1 [] 0 (min H.length l1) (by omega) n1 (txl 0 [] rfl) (by omega) (by omega)
  refine ⟨t', i', a1.le (by omega), a2, ?_⟩
  rw [qY (fn := qbS) rfl rfl]
  simp only [qbS, qdn, qj, qz6, Nat.reduceAdd, qo, qB, qx, qy, qm, qe, kK, qK, qL, qW, qa, qf, kI, reduceCtorEq, qF, qD, qP, qz, ki, zc, Nat.reduceEqDiff, kV, qZ, qs, qz3, qz9, qc, qM, qI, qi, qz1, qT, c1, qr, qd, qg, qk, ke, kr, qz7, qA, kB, hw, qp, qq, qbz, kz, qU, a5, qO, qJ, qb, qH, kv, qh, qt, qV]
  refine kR hid a3 (fun h => ?_)
  obtain ⟨x1, x2⟩ := a4 h
  have := u1 (by omega)
  omega
theorem qre {Ld : D} {n : Nat} (hL : GL Ld n) {H : List Obj} {id : Nat} (hid : id < H.length) : GC 33 [] 400000000 Ld n H id ((4 : Nat) : Int) := by
  have st : ∀ d b : Nat, d ≤ 3 → 6000 ≤ b → b ≤ 100000000 → GC 33 [] b Ld n H id (d : Nat) → GC 33 [] (5 * (3 * (b + 2)) + 200) Ld n H id ((d + 1 : Nat) : Int) := fun d b hd hb hb2 h1 =>
    qqt hL hid (by omega) (b := 3 * (b + 2)) (by omega) ((qmc hL hid d (by omega)).1.le (by omega)) ((qmc hL hid d (by omega)).2.le (by omega)) ((qkv hL hid (by omega)).le (by omega))
      ((qiI hL hid (by omega) h1 (m := 2) (by omega) (by omega)).le (by omega)) ((qiI hL hid (by omega) h1 (m := 3) (by omega) (by omega)).le (by omega))
  have h0 : GC 33 [] 6000 Ld n H id ((0 : Nat) : Int) := qqN hid ((qkv hL hid (d := 0) (by omega)).le (by omega))
  have h1 := st 0 6000 (by omega) (by omega) (by omega) h0
  have h2 := st 1 _ (by omega) (by omega) (by omega) h1
  have h3 := st 2 _ (by omega) (by omega) (by omega) h2
  exact (st 3 _ (by omega) (by omega) (by omega) h3).le (by omega)
theorem qqw {Ld : D} {n : Nat} (hL : GL Ld n) {H : List Obj} : ∃ t, Tx 10000000000 t ∧ 8 ≤ t.length ∧ zC pg 12 [.d Ld, .d (.b false)] H = some ⟨false, true, .d (.s t), H, H.length⟩ := by
  have hid : H.length < (H ++ [Obj.cells [.d Ld, .d (.i .i64 0), .d (.i .i64 4)]]).length := by simp
  have hone := hL.ok
  obtain ⟨r0, y0, _, e0⟩ := cat (txl 24 [77, 79, 68, 85, 76, 69, 32, 77, 59, 32, 73, 77, 80, 79, 82, 84, 32, 73, 110, 44, 32, 79, 117, 116] rfl) (txl 70 [59, 32, 40, 42, 32, 109, 97, 100, 101, 32, 111, 102, 32, 110, 117, 109, 98, 101, 114, 115, 32, 42, 41, 10, 67, 79, 78, 83, 84, 32, 107, 42, 32, 61, 32, 55, 59, 32, 119, 111, 114, 100, 32, 61, 32, 34, 97, 98, 99, 34, 59, 32, 97, 108, 108, 42, 32, 61, 32, 123, 48, 32, 46, 46, 32, 51, 49, 125, 59, 10] rfl) (by omega)
  obtain ⟨r1, y1, _, e1⟩ := cat y0 (txl 128 [84, 89, 80, 69, 32, 82, 42, 32, 61, 32, 82, 69, 67, 79, 82, 68, 32, 120, 44, 32, 121, 58, 32, 73, 78, 84, 69, 71, 69, 82, 59, 32, 110, 101, 120, 116, 58, 32, 80, 79, 73, 78, 84, 69, 82, 32, 84, 79, 32, 82, 32, 69, 78, 68, 59, 32, 83, 32, 61, 32, 82, 69, 67, 79, 82, 68, 32, 40, 82, 41, 32, 122, 58, 32, 67, 72, 65, 82, 32, 69, 78, 68, 59, 32, 65, 42, 32, 61, 32, 65, 82, 82, 65, 89, 32, 52, 32, 79, 70, 32, 73, 78, 84, 69, 71, 69, 82, 59, 32, 80, 82, 32, 61, 32, 80, 79, 73, 78, 84, 69, 82, 32, 84, 79, 32, 82, 59, 10] rfl) (by omega)
  obtain ⟨r2, y2, _, e2⟩ := cat y1 (txl 148 [86, 65, 82, 32, 105, 44, 32, 106, 44, 32, 110, 42, 58, 32, 73, 78, 84, 69, 71, 69, 82, 59, 32, 98, 58, 32, 66, 79, 79, 76, 69, 65, 78, 59, 32, 99, 58, 32, 67, 72, 65, 82, 59, 32, 115, 58, 32, 83, 69, 84, 59, 32, 97, 44, 32, 100, 58, 32, 65, 59, 32, 116, 58, 32, 65, 82, 82, 65, 89, 32, 54, 32, 79, 70, 32, 67, 72, 65, 82, 59, 32, 112, 44, 32, 113, 58, 32, 80, 82, 59, 32, 117, 58, 32, 80, 79, 73, 78, 84, 69, 82, 32, 84, 79, 32, 83, 59, 32, 114, 58, 32, 82, 59, 32, 101, 58, 32, 65, 82, 82, 65, 89, 32, 50, 32, 79, 70, 32, 65, 82, 82, 65, 89, 32, 51, 32, 79, 70, 32, 73, 78, 84, 69, 71, 69, 82, 59, 10] rfl) (by omega)
  obtain ⟨r3, y3, _, e3⟩ := cat y2 (txl 128 [80, 82, 79, 67, 69, 68, 85, 82, 69, 32, 102, 42, 32, 40, 120, 44, 32, 121, 58, 32, 73, 78, 84, 69, 71, 69, 82, 41, 58, 32, 73, 78, 84, 69, 71, 69, 82, 59, 32, 86, 65, 82, 32, 122, 58, 32, 73, 78, 84, 69, 71, 69, 82, 59, 32, 66, 69, 71, 73, 78, 32, 122, 32, 58, 61, 32, 120, 59, 32, 73, 70, 32, 121, 32, 62, 32, 48, 32, 84, 72, 69, 78, 32, 122, 32, 58, 61, 32, 120, 32, 43, 32, 102, 40, 120, 32, 45, 32, 49, 44, 32, 121, 32, 45, 32, 49, 41, 32, 69, 78, 68, 32, 82, 69, 84, 85, 82, 78, 32, 122, 32, 69, 78, 68, 32, 102, 59, 10] rfl) (by omega)
  obtain ⟨r4, y4, _, e4⟩ := cat y3 (txl 92 [80, 82, 79, 67, 69, 68, 85, 82, 69, 32, 103, 32, 40, 86, 65, 82, 32, 120, 58, 32, 73, 78, 84, 69, 71, 69, 82, 59, 32, 121, 58, 32, 73, 78, 84, 69, 71, 69, 82, 41, 59, 32, 66, 69, 71, 73, 78, 32, 73, 78, 67, 40, 120, 44, 32, 121, 41, 59, 32, 79, 117, 116, 46, 73, 110, 116, 40, 120, 41, 59, 32, 79, 117, 116, 46, 67, 104, 97, 114, 40, 34, 32, 34, 41, 32, 69, 78, 68, 32, 103, 59, 10] rfl) (by omega)
  obtain ⟨r5, y5, _, e5⟩ := cat y4 (txl 93 [80, 82, 79, 67, 69, 68, 85, 82, 69, 32, 104, 32, 40, 86, 65, 82, 32, 118, 58, 32, 65, 41, 59, 32, 86, 65, 82, 32, 119, 58, 32, 65, 59, 32, 66, 69, 71, 73, 78, 32, 119, 32, 58, 61, 32, 118, 59, 32, 118, 91, 49, 93, 32, 58, 61, 32, 118, 91, 48, 93, 32, 43, 32, 49, 59, 32, 97, 91, 50, 93, 32, 58, 61, 32, 118, 91, 49, 93, 32, 43, 32, 119, 91, 51, 93, 32, 69, 78, 68, 32, 104, 59, 10] rfl) (by omega)
  obtain ⟨r6, y6, _, e6⟩ := cat y5 (txl 94 [80, 82, 79, 67, 69, 68, 85, 82, 69, 32, 111, 32, 40, 120, 58, 32, 80, 82, 41, 58, 32, 66, 79, 79, 76, 69, 65, 78, 59, 32, 86, 65, 82, 32, 119, 58, 32, 66, 79, 79, 76, 69, 65, 78, 59, 32, 66, 69, 71, 73, 78, 32, 119, 32, 58, 61, 32, 120, 32, 35, 32, 78, 73, 76, 32, 82, 69, 84, 85, 82, 78, 32, 119, 32, 38, 32, 40, 120, 46, 120, 32, 62, 61, 32, 48, 41, 32, 69, 78, 68, 32, 111, 59, 10] rfl) (by omega)
  obtain ⟨r7, y7, _, e7⟩ := cat y6 (txl 14 [66, 69, 71, 73, 78, 32, 110, 32, 58, 61, 32, 57, 59, 32] rfl) (by omega)
  obtain ⟨t1, i1, q1, n1, s1, l1, m1, u1, c1⟩ := qiI hL hid (by omega) (qre hL hid) (m := 9) (by omega) (by omega) 0 (Nat.zero_le _)
  rw [show G (H ++ [Obj.cells [.d Ld, .d (.i .i64 0), .d (.i .i64 4)]]) H.length Ld 0 ((4 : Nat) : Int) = H ++ [Obj.cells [.d Ld, .d (.i .i64 0), .d (.i .i64 4)]] from qal (by simp)] at c1
  rw [show ((9 : Nat) : Int) = 9 from rfl] at c1
  obtain ⟨r8, y8, _, e8⟩ := cat y7 q1 (by omega)
  obtain ⟨r9, y9, g9, e9⟩ := cat y8 (txl 8 [32, 69, 78, 68, 32, 77, 46, 10] rfl) (by omega)
  have hm : min H.length l1 = H.length := Nat.min_eq_left m1
  refine ⟨r9, y9.le (by omega), g9, ?_⟩
  rw [qY (fn := qcV) rfl rfl]
  simp only [qcV, qj, qz6, Nat.reduceAdd, qo, qx, qy, qm, qe, kK, qK, qL, qW, qa, qf, kI, reduceCtorEq, qF, qD, qA, qz, zf, qz3, qz9, hone, ky, kS, qz4, qz8, Nat.reduceLT, jO, qAa, zq, qAc, zF, zG, zz, jm, zy, kY, zg, qp, qlj, zm, qX, kl, qz1, qrt, ki, qP, Nat.reduceEqDiff, qw, qC, qz0, ↓reduceIte, qS, qk, ke, kr, qz7, e0, e1, e2, e3, e4, e5, e6, e7, zc, zH, qZ, qs, qc, qM, qI, qi, qT, c1, qAv, qr, qd, qg, hm, qAd, e8, e9, qO, qJ, qb, qH, kv, qh, qt, qV, jM, yp, kM]
end W

set_option linter.unusedSimpArgs false
set_option linter.unusedVariables false
namespace W
open Go (IntKind BinOp UnOp)
set_option maxRecDepth 20000
theorem qqd : isD (qfF pg 3000 11 [] []) (.b true) = true := by decide +kernel
theorem qoO : ∃ lo, zC pg 11 [] [] = some ⟨false, true, .d (.b true), [], lo⟩ := qmY qrK qqd
end W

/-
  From the small semantics to a law's statement: what is read stays; the answer is true.
-/
set_option linter.unusedSimpArgs false
set_option linter.unusedVariables false
namespace W
open Go (World Value Addr IntKind Program TypeId FuncId Operand Act Oper Next Result Sem Ending Exit Code Func DataW MemPlace Calls trodAll_cons_mk)
open Go.ChangeShapes Go.RowKit Go.WideShapes Go.ChangeAt
section
variable {P : Program} {Hh : Type} {enc : TypeId × Value → Hh}
theorem qoP {W W' : World} (hb : ∀ b, b < W.heap.size → W'.heap[b]? = W.heap[b]?) {p : MemPlace} (hp : p.block < W.heap.size) : W.sameAt W' p := by
  cases p with
  | cell b o => exact qcr (hb b hp) o
  | map b => exact hb b hp
theorem qhk (hl : Go.laidOutB P = true) {W W' : World} (hb : ∀ b, b < W.heap.size → W'.heap[b]? = W.heap[b]?) {sp : Nat → Bool} : ∀ {ts : List TypeId} {vs : List Value} {ds : List (DataW Hh)} {ps : List MemPlace}, (∀ t ∈ ts, P.readableRec t = true ∧ t < P.types.size) →
    DataW.TrodAll enc P W 0 (fun _ => true) true ts vs ds ps → (∀ p ∈ ps, p.block < W.heap.size) → (∀ p ∈ ps, sp p.block = true) → DataW.TrodAll enc P W' 0 sp true ts vs ds ps
  | [], vs, ds, ps, hr, h, hlt, hs => by
    obtain ⟨rfl, rfl, rfl⟩ := trodAll_nil h
    exact trodAll_mk0
  | t :: ts, vs, ds, ps, hr, h, hlt, hs => by
    obtain ⟨v, vs', d, ds', p, q, rfl, rfl, rfl, hd, hrest⟩ := trodAll_cons h
    refine trodAll_cons_mk (Go.WideElems.Trod_stays hl (hr t (by simp)).1 (hr t (by simp)).2 hd (fun x hx => qoP hb (hlt x (by simp [hx]))) (fun x hx => hs x (by simp [hx])))
      (qhk hl hb (fun u hu => hr u (by simp [hu])) hrest (fun x hx => hlt x (by simp [hx])) (fun x hx => hs x (by simp [hx])))
theorem qsg {f : Func} {s : Go.ChangeSpec} {apart fresh handsOn again : Bool} {W W' : World} {args : Array Value} {ds gs : List (DataW Hh)} {before : List MemPlace} {tb : TypeId} (hvars : s.vars = [])
    (hW : DataW.Whole enc P f.params.toList s.vars apart W args.toList ds gs before) (hs : s.fn Hh ds = { results := [.lit (.bool true)], args := ds }) (hres : f.resultTypes = #[tb]) (htb : P.underlying tb = some .bool)
    (hl : Go.laidOutB P = true) (hread : ∀ t ∈ f.params.toList, P.readableRec t = true ∧ t < P.types.size)
    (hio : W'.os = W.os ∧ W'.output = W.output) (hb : ∀ b, b < W.heap.size → W'.heap[b]? = W.heap[b]?) :
    s.post enc P f apart fresh handsOn again W args (.bool true) W' := by
  have hlt : ∀ p ∈ before, p.block < W.heap.size := fun p hp => by simpa using hW.lt p hp
  have hW' := hW
  obtain ⟨p, q, hA, hV, rfl, hfz, hnd⟩ := hW
  rw [hvars] at hV
  obtain ⟨rfl, rfl⟩ := trodVars_none hV
  have hfn : s.fn Hh (ds ++ []) = { results := [.lit (.bool true)], args := ds } := by rw [List.append_nil]; exact hs
  have hargs : ∀ sp : Nat → Bool, (∀ x ∈ p ++ [], sp x.block = true) → DataW.TrodAll enc P W' 0 sp true f.params.toList args.toList ds p := fun sp hsp =>
    qhk hl hb hread hA (fun x hx => hlt x (by simp [hx])) (fun x hx => hsp x (by simp [hx]))
  have hk : W.keptBut W' (fun _ => False) := by
    refine ⟨hio.1, hio.2, fun i hi => ?_⟩
    rw [hb i hi]
    cases hq : W.heap[i]? with
    | none => rfl
    | some o => cases o <;> first | rfl | exact ⟨rfl, rfl, rfl, fun _ _ => rfl⟩ | exact .inr ⟨rfl, rfl⟩
  have hresT : ∀ (b : Nat) (sp : Nat → Bool) (hd : Bool), DataW.TrodAll enc P W' b sp hd f.resultTypes.toList ((Value.bool true).resultList f.resultTypes.size) [.lit (.bool true)] [] := fun b sp hd => by
    rw [hres]
    exact trodAll_cons_mk (shut_bool htb _) trodAll_mk0
  have hfz' : ∀ a : Addr, a.block < W.heap.size → W'.frozen? a = W.frozen? a := fun a ha => by simp only [World.frozen?, hb a.block ha]
  have hres2 : ∀ (b : Nat) (sp : Nat → Bool) (hd : Bool), DataW.TrodAll enc P W' b sp hd f.resultTypes.toList ((Value.bool true).resultList f.resultTypes.size) (s.fn Hh (ds ++ [])).results [] := fun b sp hd => by rw [hfn]; exact hresT b sp hd
  have hargs2 : ∀ sp : Nat → Bool, (∀ x ∈ p ++ [], sp x.block = true) → DataW.TrodAll enc P W' 0 sp true f.params.toList args.toList (s.fn Hh (ds ++ [])).args p := fun sp hsp => by rw [hfn]; exact hargs sp hsp
  have hvars2 : ∀ sp : Nat → Bool, DataW.TrodVars enc P W' sp s.vars (s.fn Hh (ds ++ [])).vars [] := fun sp => by rw [hfn, hvars]; rfl
  have hold : ∀ x ∈ p ++ [], (fun b => decide (b < W.heap.size)) x.block = true := fun x hx => by simpa using hlt x hx
  refine ⟨ds, [], p ++ [], [], p, [], hW', hres2 _ _ _, hargs2 _ hold, hvars2 _, Go.World.keptBut_mono (fun _ h => h.elim) hk, fun _ => ?_⟩
  refine ⟨ok_one hres rfl (okWide_bool_mk htb _), _, _, ([] ++ p) ++ [], ⟨[] ++ p, [], trodAll_append (hargs2 _ (fun _ _ => rfl)) (hres2 _ _ _), hvars2 _, rfl, ?_, ?_⟩, ?_⟩
  · intro b off hp
    rw [hfz' _ (hlt (.cell b off) (by simpa using hp))]
    exact hfz b off (by simpa using hp)
  · intro ha
    simpa using hnd ha
  · intro x hx _
    simpa using hx
end
end W

/-
  Arguments that were read are data.
-/
set_option linter.unusedSimpArgs false
set_option linter.unusedVariables false
namespace W
open Go (World Value Addr IntKind Program TypeId FuncId Operand Act Oper Next Result Sem Ending Exit Code Func DataW MemPlace Calls TypeDesc Lit)
mutual
def D.bulk : D → Nat
  | .s x => x.length + 1
  | .sl xs => D.bulks xs + 1
  | .agg cs => D.bulks cs + 1
  | _ => 1
def D.bulks : List D → Nat
  | [] => 0
  | x :: l => D.bulk x + D.bulks l
end
theorem qhU : ∀ (a b : List D), D.bulks (a ++ b) = D.bulks a + D.bulks b
  | [], b => by simp [D.bulks]
  | x :: a, b => by simp only [List.cons_append, D.bulks, qhU a b]; omega
def tiles (P : Program) : Nat → List Go.Field → Bool
  | _, [] => true
  | off, f :: l => f.offset == off && tiles P (off + P.cellsOf f.type) l
def qgL (P : Program) : List Go.Field → Nat
  | [] => 0
  | f :: l => P.cellsOf f.type + qgL P l
def qjH (P : Program) (ts : List TypeId) (t : TypeId) : Bool :=
  match P.underlying t with
  | some .bool | some (.int _) | some .string => true
  | some (.slice e) => ts.contains e && Nat.blt 0 (P.cellsOf e)
  | some (.struct fs) => fs.toList.all (fun f => ts.contains f.type) && tiles P 0 fs.toList && qAk (P.cellsOf t) (qgL P fs.toList)
  | some (.array n e) => ts.contains e && qAk (P.cellsOf t) (n * P.cellsOf e)
  | _ => false
def covers (P : Program) (ts : List TypeId) : Bool := ts.all (qjH P ts)
def qdj (P : Program) (t : TypeId) : Bool :=
  match P.underlying t with
  | some (.struct _) | some (.array _ _) => true
  | _ => false
def elD : Bool → List D → D
  | true, xs => .agg xs
  | false, [x] => x
  | false, _ => .np
def Ty (P : Program) : Nat → TypeId → List D → Prop
  | 0, _, _ => False
  | n + 1, t, xs => match P.underlying t with
    | some .bool => ∃ b, xs = [.b b]
    | some (.int k) => ∃ z, xs = [.i k z] ∧ (Lit.int k z).wf = true
    | some .string => ∃ s, xs = [.s s] ∧ s.length ≤ Go.maxLen ∧ ∀ c ∈ s, c < 256
    | some (.slice e) => xs = [.nil] ∨ ∃ yss : List (List D), xs = [.sl (yss.map (elD (qdj P e)))] ∧ yss.length ≤ Go.maxLen ∧ ∀ q ∈ yss, Ty P n e q
    | some (.struct fs) => ∃ yss : List (List D), xs = yss.flatten ∧ yss.length = fs.toList.length ∧ ∀ (i : Nat) (f : Go.Field) (q : List D), fs.toList[i]? = some f → yss[i]? = some q → Ty P n f.type q
    | some (.array m e) => ∃ yss : List (List D), xs = yss.flatten ∧ yss.length = m ∧ ∀ q ∈ yss, Ty P n e q
    | _ => False
def Arg (P : Program) (t : TypeId) (x : D) : Prop := ∃ n xs, Ty P n t xs ∧ x = elD (qdj P t) xs
structure Bulk {Hh : Type} (B : DataW Hh → Nat) (BA : List (DataW Hh) → Nat) : Prop where
  str : ∀ bytes, B (.lit (.string bytes)) = bytes.length + 1
  lit : ∀ l, 1 ≤ B (.lit l)
  nil : B .nil = 1
  sl : ∀ es sp, B (.slice es sp) = BA es + BA sp + 1
  agg : ∀ ps, B (.agg ps) = BA ps + 1
  n : BA [] = 0
  c : ∀ d r, BA (d :: r) = B d + BA r
def g0 (W : World) : Gh := { n := 0, φ := fun _ => 0, own := fun _ => none, pub := fun b => match W.heap[b]? with | some (.cells c _ _) => c.size | _ => 0 }
theorem qyh {M : Maps} {g : Gh} {w : World} (h : M.gl = []) (h2 : M.gi = []) : GlOk M g w := ⟨(fun n x hn => by rw [h] at hn; cases hn), (fun n hn => by rw [h2] at hn; cases hn)⟩
theorem qsL (M : Maps) (W : World) (hgl : GlOk M (g0 W) W) : RelH M (g0 W) W [] := ⟨rfl, fun id o h => by simp at h, fun b hb => ⟨rfl, by
  show (match W.heap[b]? with | some (.cells c _ _) => c.size | _ => 0) = 0
  rw [Array.getElem?_eq_none hb]⟩, hgl⟩
theorem qvf {W W' : World} {g' : Gh} (h : Evo (g0 W) W g' W') : ∀ b, b < W.heap.size → W'.heap[b]? = W.heap[b]? := fun b hb => (h.keep b hb (.inl rfl)).2.1
theorem qnS {W : World} {b o : Nat} {v : Value} (h : W.cell? ⟨b, o, none⟩ = some v) : o < (g0 W).pub b := by
  simp only [World.cell?] at h
  show o < (match W.heap[b]? with | some (.cells c _ _) => c.size | _ => 0)
  split at h
  · rename_i c e f hq
    rw [hq]
    simp at h
    exact (Array.getElem?_eq_some_iff.1 h).1
  · cases h
theorem qmq {W : World} {a : Addr} {v : Value} (h : W.cell? a = some v) : a.spot = none := by
  simp only [World.cell?] at h
  split at h
  · cases hs : a.spot with
    | none => rfl
    | some s => simp [hs] at h
  · cases h
section
variable {P : Program} {Hh : Type} {enc : TypeId × Value → Hh} {W : World}
theorem RepDL.split {pub : Nat → Nat} {w : World} : ∀ {a : List (List D)} {b : List (List Value)}, a.length = b.length → (∀ (i : Nat) (q : List D) (r : List Value), a[i]? = some q → b[i]? = some r → RepDL pub w q r) → RepDL pub w a.flatten b.flatten
  | [], [], _, _ => .nil
  | q :: a, r :: b, hl, h => by
    simp only [List.flatten_cons]
    exact (h 0 q r rfl rfl).append (RepDL.split (by simpa using hl) (fun i q' r' hq hr => h (i + 1) q' r' (by simpa using hq) (by simpa using hr)))
  | [], _ :: _, hl, _ => by simp at hl
  | _ :: _, [], hl, _ => by simp at hl
theorem qhn (cs : List Value) : ∀ (fs : List Go.Field) (off : Nat), tiles P off fs = true → (fs.map fun f => (cs.drop f.offset).take (P.cellsOf f.type)).flatten = (cs.drop off).take (qgL P fs)
  | [], off, _ => by simp [qgL]
  | f :: fs, off, h => by
    simp only [tiles, qAf, beq_iff_eq] at h
    simp only [qz3, List.flatten_cons, qgL, qhn cs fs _ h.2, h.1]
    rw [List.take_add, List.drop_drop]
theorem qhm (cs : List Value) (sz : Nat) : ∀ n, ((List.range n).map fun i => (cs.drop (i * sz)).take sz).flatten = cs.take (n * sz)
  | 0 => by simp
  | n + 1 => by
    rw [List.range_succ, List.map_append, List.flatten_append, qhm cs sz n, Nat.succ_mul, List.take_add]
    simp
theorem qj8 {n : Nat} {t : TypeId} {xs : List D} (h : Ty P n t xs) : (elD (qdj P t) xs).cells = xs := by
  cases n with
  | zero => exact h.elim
  | succ n =>
    unfold Ty at h
    unfold qdj
    split at h
    · rename_i hu; rw [hu]; obtain ⟨b, rfl⟩ := h; rfl
    · rename_i k hu; rw [hu]; obtain ⟨b, rfl, _⟩ := h; rfl
    · rename_i hu; rw [hu]; obtain ⟨b, rfl, _⟩ := h; rfl
    · rename_i e hu; rw [hu]
      rcases h with rfl | ⟨yss, rfl, _⟩ <;> rfl
    · rename_i fs hu; rw [hu]; rfl
    · rename_i m e hu; rw [hu]; rfl
    · exact h.elim
theorem qnH {a b : List D} (h1 : D.ones a = true) (h2 : D.ones b = true) : D.ones (a ++ b) = true := by
  induction a with
  | nil => exact h2
  | cons q a ih => simp only [List.cons_append, D.ones, qAf] at h1 ⊢; exact ⟨h1.1, ih h1.2⟩
theorem qeM : ∀ {l : List (List D)}, (∀ q ∈ l, D.ones q = true) → D.ones l.flatten = true
  | [], _ => rfl
  | q :: l, h => qnH (h q (by simp)) (qeM fun r hr => h r (by simp [hr]))
theorem qlN : ∀ {n : Nat} {t : TypeId} {xs : List D}, Ty P n t xs → D.ones xs = true
  | 0, _, _, h => h.elim
  | n + 1, t, xs, h => by
    unfold Ty at h
    split at h
    · obtain ⟨b, rfl⟩ := h; rfl
    · obtain ⟨b, rfl, _⟩ := h; rfl
    · obtain ⟨b, rfl, _⟩ := h; rfl
    · rcases h with rfl | ⟨yss, rfl, _⟩ <;> rfl
    · obtain ⟨yss, rfl, hl, h⟩ := h
      refine qeM fun q hq => ?_
      obtain ⟨i, hi⟩ := List.getElem?_of_mem hq
      have hlt := (List.getElem?_eq_some_iff.1 hi).1
      rename_i fs hu
      exact qlN (h i (fs.toList[i]'(by omega)) q (by simp [hl ▸ hlt]) hi)
    · obtain ⟨yss, rfl, hl, h⟩ := h
      exact qeM fun q hq => qlN (h q hq)
    · exact h.elim
end
end W

/-
  Arguments that were read are data: the reading itself.
-/
set_option linter.unusedSimpArgs false
set_option linter.unusedVariables false
namespace W
open Go (World Value Addr IntKind Program TypeId FuncId Operand Act Oper Next Result Sem Ending Exit Code Func DataW MemPlace Calls TypeDesc Lit)
theorem qfr {α : Type} {R : Nat → α → Prop} : ∀ (n : Nat), (∀ i, i < n → ∃ a, R i a) → ∃ l : List α, l.length = n ∧ ∀ (i : Nat) (a : α), l[i]? = some a → R i a
  | 0, _ => ⟨[], rfl, fun i a h => by simp at h⟩
  | n + 1, h => by
    obtain ⟨l, h1, h2⟩ := qfr n (fun i hi => h i (by omega))
    obtain ⟨a, ha⟩ := h n (by omega)
    refine ⟨l ++ [a], by simp [h1], fun i b hb => ?_⟩
    rw [List.getElem?_append] at hb
    split at hb
    · exact h2 i b hb
    · rename_i hge
      have hi : i - l.length = 0 := by
        rcases Nat.eq_zero_or_pos (i - l.length) with h0 | h0
        · exact h0
        · rw [List.getElem?_eq_none (by simp; omega)] at hb; cases hb
      rw [hi] at hb
      simp only [qz2, Option.some.injEq] at hb
      subst hb
      rwa [show i = n by omega]
theorem qi0 {α : Type} {c : Nat} : ∀ (l : List (List α)), (∀ q ∈ l, q.length = c) → ∀ (j : Nat) (v : α), l.flatten[j]? = some v → ∃ i r q, j = i * c + r ∧ l[i]? = some q ∧ q[r]? = some v
  | [], _, j, v, h => by simp at h
  | q :: l, hc, j, v, h => by
    have hq := hc q (by simp)
    rw [List.flatten_cons, List.getElem?_append] at h
    split at h
    · exact ⟨0, j, q, by simp, rfl, h⟩
    · rename_i hge
      obtain ⟨i, r, q', h1, h2, h3⟩ := qi0 l (fun x hx => hc x (by simp [hx])) _ v h
      exact ⟨i + 1, r, q', by rw [Nat.succ_mul]; omega, by simpa using h2, h3⟩
theorem qgF {α : Type} {c : Nat} : ∀ (l : List (List α)), (∀ q ∈ l, q.length = c) → l.flatten.length = l.length * c
  | [], _ => by simp
  | q :: l, hc => by
    rw [List.flatten_cons, List.length_append, hc q (by simp), qgF l (fun x hx => hc x (by simp [hx])), qz4, Nat.succ_mul]; omega
section
variable {P : Program} {Hh : Type} {enc : TypeId × Value → Hh} {W : World}
theorem qpe {n : Nat} {t : TypeId} {q : List D} (h : Ty P n t q) {b : Nat} (hb : D.bulks q + (if qdj P t then 1 else 0) ≤ b) : D.bulk (elD (qdj P t) q) ≤ b := by
  cases ha : qdj P t with
  | true => rw [ha] at hb; simpa [elD, D.bulk] using hb
  | false =>
    rw [ha] at hb
    have h1 := qj8 h
    rw [ha] at h1
    match q, h1, hb with
    | [x], _, hb => simpa [elD, D.bulks] using hb
    | [], h1, _ => simp [elD, D.cells] at h1
    | x :: y :: l, h1, _ => simp [elD, D.cells] at h1
theorem qn1 {B : DataW Hh → Nat} {BA : List (DataW Hh) → Nat} (hB : Bulk B BA) : ∀ {ys : List D} {ds : List (DataW Hh)}, ys.length = ds.length → (∀ (i : Nat) (y : D) (d : DataW Hh), ys[i]? = some y → ds[i]? = some d → D.bulk y ≤ B d) → D.bulks ys ≤ BA ds
  | [], [], _, _ => by simp [D.bulks]
  | y :: ys, d :: ds, hl, h => by
    rw [hB.c, D.bulks]
    have h1 := h 0 y d rfl rfl
    have h2 := qn1 hB (ys := ys) (ds := ds) (by simpa using hl) (fun i y d hy hd => h (i + 1) y d (by simpa using hy) (by simpa using hd))
    omega
  | [], _ :: _, hl, _ => by simp at hl
  | _ :: _, [], hl, _ => by simp at hl
theorem qfz {B : DataW Hh → Nat} {BA : List (DataW Hh) → Nat} (hB : Bulk B BA) : ∀ {ys : List (List D)} {ds : List (DataW Hh)}, ys.length = ds.length → (∀ (i : Nat) (y : List D) (d : DataW Hh), ys[i]? = some y → ds[i]? = some d → D.bulks y ≤ B d) → D.bulks ys.flatten ≤ BA ds
  | [], [], _, _ => by simp [D.bulks]
  | y :: ys, d :: ds, hl, h => by
    rw [hB.c, List.flatten_cons, qhU]
    have h1 := h 0 y d rfl rfl
    have h2 := qfz hB (ys := ys) (ds := ds) (by simpa using hl) (fun i y d hy hd => h (i + 1) y d (by simpa using hy) (by simpa using hd))
    omega
  | [], _ :: _, hl, _ => by simp at hl
  | _ :: _, [], hl, _ => by simp at hl
theorem qkw {a : Addr} {n : Nat} {cs : List Value} (h : W.cells? 0 a n = some cs) : cs.length = n ∧ ∀ (i : Nat) (v : Value), cs[i]? = some v → W.cell? (a.add i) = some v := by
  unfold World.cells? at h
  simp only [Nat.zero_le, if_true] at h
  have hl := Go.mapM_some_length h
  refine ⟨by simpa using hl, fun i v hv => ?_⟩
  have hi : i < n := by
    have := (List.getElem?_eq_some_iff.1 hv).1
    rw [hl] at this; simpa using this
  have := Go.mapM_some_get h i i (by simp [hi])
  rw [this, hv]
theorem qrl (ys : List D) : D.bulks [.sl ys] = D.bulks ys + 1 := by simp [D.bulks, D.bulk]
theorem qhV {ts : List TypeId} (hts : covers P ts = true) {B : DataW Hh → Nat} {BA : List (DataW Hh) → Nat} (hB : Bulk B BA) : ∀ (n : Nat) (t : TypeId) (cs : List Value) (x : DataW Hh × List MemPlace), t ∈ ts →
    DataW.trod enc P W 0 (fun _ => true) true n t cs = some x → ∃ xs, Ty P n t xs ∧ RepDL (g0 W).pub W xs cs ∧ D.bulks xs + (if qdj P t then 1 else 0) ≤ B x.1
  | 0, t, cs, x, _, h => by simp [DataW.trod] at h
  | n + 1, t, cs, x, ht, h => by
    have hcov : qjH P ts t = true := by
      simp only [covers, List.all_eq_true] at hts
      exact hts t ht
    unfold qjH at hcov
    unfold Ty qdj
    split at hcov
    · -- bool
      rename_i hu
      obtain ⟨b, rfl, rfl⟩ := DataW.trod_bool hu h
      rw [hu]
      exact ⟨[.b b], ⟨b, rfl⟩, .cons _ _ _ _ (.b b) .nil, by have := hB.lit (.bool b); simpa [D.bulks, D.bulk] using this⟩
    · rename_i k hu
      obtain ⟨z, rfl, rfl, hw⟩ := DataW.trod_int hu h
      rw [hu]
      exact ⟨[.i k z], ⟨z, rfl, hw⟩, .cons _ _ _ _ (.i k z) .nil, by have := hB.lit (.int k z); simpa [D.bulks, D.bulk] using this⟩
    · rename_i hu
      obtain ⟨z, rfl, rfl, hm⟩ := DataW.trod_string hu h
      rw [hu]
      have hl : (z.data.toList.map (·.toNat)).length = z.size := by simp
      refine ⟨[.s (z.data.toList.map (·.toNat))], ⟨_, rfl, by rw [hl]; exact hm, fun c hc => ?_⟩, .cons _ _ _ _ (.s _ z rfl) .nil, ?_⟩
      · obtain ⟨b, _, rfl⟩ := List.mem_map.1 hc
        exact b.toNat_lt
      · simp only [D.bulks, D.bulk, hB.str]
        simp
    · -- slice
      rename_i e hu
      simp only [qAf, List.contains_iff_mem, Nat.blt_eq] at hcov
      obtain ⟨he, hpos⟩ := hcov
      rw [hu]
      rcases DataW.trod_slice hu h with ⟨rfl, rfl⟩ | ⟨a, len, cap, elems, rest, m, hm, rfl, rfl, hb, hlc, hcap, hlen, hel, _, _⟩
      · exact ⟨[.nil], .inl rfl, .cons _ _ _ _ .nil .nil, by rw [hB.nil]; simp [D.bulks, D.bulk]⟩
      · cases hm
        -- each element
        obtain ⟨l, hl1, hl2⟩ := qfr (R := fun i (p : List D × List Value) => ∃ y, elems[i]? = some y ∧ W.cells? 0 (a.add (i * P.cellsOf e)) (P.cellsOf e) = some p.2 ∧ Ty P n e p.1 ∧ RepDL (g0 W).pub W p.1 p.2 ∧ D.bulks p.1 + (if qdj P e then 1 else 0) ≤ B y.1) len (fun i hi => by
          have h1 := hel i hi
          rw [qAt (by omega)] at h1
          obtain ⟨cs', h2, h3⟩ := Option.bind_eq_some_iff.1 h1
          obtain ⟨xs, h4, h5, h6⟩ := qhV hts hB n e cs' _ he h3
          exact ⟨(xs, cs'), _, qAt (by omega), h2, h4, h5, h6⟩)
        have htys : ∀ q ∈ l.map (·.1), Ty P n e q := fun q hq => by
          obtain ⟨p, hp, rfl⟩ := List.mem_map.1 hq
          obtain ⟨i, hi⟩ := List.getElem?_of_mem hp
          obtain ⟨y, _, _, h4, _⟩ := hl2 i p hi
          exact h4
        have hbulk : D.bulks ((l.map (·.1)).map (elD (qdj P e))) ≤ BA (elems.map (·.1)) := by
          refine qn1 hB (by simp [hl1, hlen]) (fun i y d hy hd => ?_)
          simp only [List.getElem?_map, Option.map_map, Option.map_eq_some_iff] at hy hd
          obtain ⟨p, hp, rfl⟩ := hy
          obtain ⟨z, hz, rfl⟩ := hd
          obtain ⟨y, h1, _, h4, _, h6⟩ := hl2 i p hp
          rw [hz] at h1
          cases h1
          exact qpe h4 h6
        refine ⟨[.sl ((l.map (·.1)).map (elD (qdj P e)))], .inr ⟨l.map (·.1), rfl, by simp only [List.length_map, hl1]; omega, htys⟩, .cons _ _ _ _ ?_ .nil, ?_⟩
        · cases hle : l with
          | nil =>
            rw [hle] at hl1
            simp at hl1
            subst hl1
            exact .sl0 a cap
          | cons p0 l' =>
            rw [← hle]
            have hlpos : 0 < len := by rw [← hl1, hle]; simp
            have hcl : ∀ p ∈ l, p.2.length = P.cellsOf e := fun p hp => by
              obtain ⟨i, hi⟩ := List.getElem?_of_mem hp
              obtain ⟨y, _, h2, _⟩ := hl2 i p hi
              exact (qkw h2).1
            have hcell : ∀ i p, l[i]? = some p → ∀ r v, p.2[r]? = some v → W.cell? ((a.add (i * P.cellsOf e)).add r) = some v := fun i p hi r v hv => by
              obtain ⟨y, _, h2, _⟩ := hl2 i p hi
              exact (qkw h2).2 r v hv
            have hspot : a.spot = none := by
              have h0 : l[0]? = some p0 := by rw [hle]; rfl
              have hp0 := hcl p0 (by rw [hle]; simp)
              have hlt : 0 < p0.2.length := by omega
              have := qmq (hcell 0 p0 h0 0 p0.2[0] (by simp [hlt]))
              rw [Nat.zero_mul] at this
              unfold Addr.add at this
              simpa using this
            obtain ⟨b, off, sp⟩ := a
            simp only at hspot
            subst hspot
            have hvlen : (l.map (·.2)).flatten.length = len * P.cellsOf e := by
              rw [qgF _ (fun q hq => by obtain ⟨p, hp, rfl⟩ := List.mem_map.1 hq; exact hcl p hp)]; simp [hl1]
            have hflat : ((l.map (·.1)).map (elD (qdj P e))).flatMap D.cells = (l.map (·.1)).flatten := by
              rw [List.flatMap_map, List.flatMap_def]
              congr 1
              rw [List.map_congr_left (g := id)]
              · simp
              · intro q hq; exact qj8 (htys q hq)
            have hrep : RepDL (g0 W).pub W (((l.map (·.1)).map (elD (qdj P e))).flatMap D.cells) (l.map (·.2)).flatten := by
              rw [hflat]
              refine RepDL.split (by simp) (fun i q r hq hr => ?_)
              simp only [List.getElem?_map, Option.map_eq_some_iff] at hq hr
              obtain ⟨p, hp, rfl⟩ := hq
              obtain ⟨p', hp', rfl⟩ := hr
              rw [hp] at hp'
              cases hp'
              obtain ⟨y, _, _, _, h5, _⟩ := hl2 i p hp
              exact h5
            have hcs : ∀ j v, (l.map (·.2)).flatten[j]? = some v → W.cell? ⟨b, off + j, none⟩ = some v := fun j v hj => by
              obtain ⟨i, r, q, h1, h2, h3⟩ := qi0 _ (fun q hq => by obtain ⟨p, hp, rfl⟩ := List.mem_map.1 hq; exact hcl p hp) j v hj
              simp only [List.getElem?_map, Option.map_eq_some_iff] at h2
              obtain ⟨p, hp, rfl⟩ := h2
              have := hcell i p hp r v h3
              rw [qa6, qa6] at this
              rw [h1, ← Nat.add_assoc]; exact this
            have hlenD : ((l.map (·.1)).map (elD (qdj P e))).length = len := by simp [hl1]
            have hsl := RepD.sl (pub := (g0 W).pub) (w := W) ((l.map (·.1)).map (elD (qdj P e))) b off cap (P.cellsOf e) (l.map (·.2)).flatten (by rw [hle]; simp) (fun x hx => ?_) hrep hcs ?_ (by rw [hlenD]; exact hlc) ?_
            · rw [hlenD] at hsl; exact hsl
            · obtain ⟨q, hq, rfl⟩ := List.mem_map.1 hx
              rw [qj8 (htys q hq)]
              obtain ⟨p, hp, rfl⟩ := List.mem_map.1 hq
              obtain ⟨i, hi⟩ := List.getElem?_of_mem hp
              obtain ⟨y, _, _, _, h5, _⟩ := hl2 i p hi
              rw [h5.length]; exact hcl p hp
            · have hp : 0 < len * P.cellsOf e := Nat.mul_pos hlpos hpos
              have hlt : (l.map (·.2)).flatten.length - 1 < (l.map (·.2)).flatten.length := by rw [hvlen]; omega
              have := qnS (hcs _ _ (qAt hlt))
              rw [hvlen] at this ⊢
              omega
            · refine hrep.ones ?_
              rw [hflat]
              exact qeM fun q hq => qlN (htys q hq)
        · rw [qrl, hB.sl]
          simp only [qz0, if_false]
          omega
    · -- struct
      rename_i fs hu
      simp only [qAf, List.all_eq_true, List.contains_iff_mem, Nat.beq_eq] at hcov
      obtain ⟨⟨hf, htile⟩, hsum⟩ := hcov
      obtain ⟨ys, m, hm, rfl, hlc, hlen, hel⟩ := DataW.trod_struct hu h
      cases hm
      rw [hu]
      obtain ⟨l, hl1, hl2⟩ := qfr (R := fun i (p : List D) => ∃ f y, fs[i]? = some f ∧ ys[i]? = some y ∧ Ty P n f.type p ∧ RepDL (g0 W).pub W p ((cs.drop f.offset).take (P.cellsOf f.type)) ∧ D.bulks p + (if qdj P f.type then 1 else 0) ≤ B y.1) fs.size (fun i hi => by
        have hfi : fs[i]? = some fs[i] := by simp [hi]
        have h1 := hel i fs[i] hfi
        rw [qAt (by omega)] at h1
        obtain ⟨xs, h4, h5, h6⟩ := qhV hts hB n _ _ _ (hf fs[i] (by simp)) h1
        exact ⟨xs, fs[i], _, hfi, qAt (by omega), h4, h5, h6⟩)
      refine ⟨l.flatten, ⟨l, rfl, by simp [hl1], fun i f q hfi hq => ?_⟩, ?_, ?_⟩
      · obtain ⟨f', y, h1, h2, h3, _⟩ := hl2 i q hq
        have : fs[i]? = some f := by simpa using hfi
        rw [h1] at this; cases this
        exact h3
      · have hall : cs = (fs.toList.map fun f => (cs.drop f.offset).take (P.cellsOf f.type)).flatten := by
          rw [qhn cs _ 0 htile, ← hsum, ← hlc]; simp
        rw [hall]
        refine RepDL.split (by simp [hl1]) (fun i q r hq hr => ?_)
        simp only [List.getElem?_map, Option.map_eq_some_iff] at hr
        obtain ⟨f, hfi, rfl⟩ := hr
        obtain ⟨f', y, h1, h2, h3, h4, _⟩ := hl2 i q hq
        have : fs[i]? = some f := by simpa using hfi
        rw [h1] at this; cases this
        exact h4
      · simp only [hB.agg, if_true]
        have := qfz hB (ys := l) (ds := ys.map (·.1)) (by simp [hl1, hlen]) (fun i q d hq hd => by
          simp only [List.getElem?_map, Option.map_eq_some_iff] at hd
          obtain ⟨z, hz, rfl⟩ := hd
          obtain ⟨f', y, h1, h2, h3, h4, h5⟩ := hl2 i q hq
          rw [hz] at h2; cases h2
          omega)
        omega
    · -- array
      rename_i k e hu
      simp only [qAf, List.contains_iff_mem, Nat.beq_eq] at hcov
      obtain ⟨he, hsum⟩ := hcov
      obtain ⟨ys, m, hm, rfl, hlc, hlen, hel⟩ := DataW.trod_array hu h
      cases hm
      rw [hu]
      obtain ⟨l, hl1, hl2⟩ := qfr (R := fun i (p : List D) => ∃ y, ys[i]? = some y ∧ Ty P n e p ∧ RepDL (g0 W).pub W p ((cs.drop (i * P.cellsOf e)).take (P.cellsOf e)) ∧ D.bulks p + (if qdj P e then 1 else 0) ≤ B y.1) k (fun i hi => by
        have h1 := hel i hi
        rw [qAt (by omega)] at h1
        obtain ⟨xs, h4, h5, h6⟩ := qhV hts hB n _ _ _ he h1
        exact ⟨xs, _, qAt (by omega), h4, h5, h6⟩)
      refine ⟨l.flatten, ⟨l, rfl, hl1, fun q hq => ?_⟩, ?_, ?_⟩
      · obtain ⟨i, hi⟩ := List.getElem?_of_mem hq
        obtain ⟨y, h2, h3, _⟩ := hl2 i q hi
        exact h3
      · have hall : cs = ((List.range k).map fun i => (cs.drop (i * P.cellsOf e)).take (P.cellsOf e)).flatten := by
          rw [qhm, ← hsum, ← hlc]; simp
        rw [hall]
        refine RepDL.split (by simp [hl1]) (fun i q r hq hr => ?_)
        simp only [List.getElem?_map, Option.map_eq_some_iff] at hr
        obtain ⟨i', hi', rfl⟩ := hr
        have hik : i < k := by rw [← hl1]; exact (List.getElem?_eq_some_iff.1 hq).1
        rw [List.getElem?_range hik] at hi'
        cases hi'
        obtain ⟨y, h2, h3, h4, _⟩ := hl2 i q hq
        exact h4
      · simp only [hB.agg, if_true]
        have := qfz hB (ys := l) (ds := ys.map (·.1)) (by simp [hl1, hlen]) (fun i q d hq hd => by
          simp only [List.getElem?_map, Option.map_eq_some_iff] at hd
          obtain ⟨z, hz, rfl⟩ := hd
          obtain ⟨y, h2, h3, h4, h5⟩ := hl2 i q hq
          rw [hz] at h2; cases h2
          omega)
        omega
    · cases hcov
end
end W

/-
  A law's contract from runs of the small semantics, one for every way that its arguments may read.
-/
set_option linter.unusedSimpArgs false
set_option linter.unusedVariables false
namespace W
open Go (World Value Addr IntKind Program TypeId FuncId Operand Act Oper Next Result Sem Ending Exit Code Func DataW MemPlace Calls TypeDesc Lit)
open Go.ChangeShapes Go.RowKit
section
variable {P : Program} {Hh : Type} {enc : TypeId × Value → Hh} {W : World} {M : Maps}
theorem qs1 {r : Go.Reach} {b : Nat} {t : TypeId} {v : Value} (hv : Value.okWide P W r b t v) : (qdj P t = true → ∃ cs, v = .agg cs) ∧
    (qdj P t = false → (∃ d, P.underlying t = some d ∧ (d = .bool ∨ (∃ k, d = .int k) ∨ d = .string ∨ ∃ e, d = .slice e)) → v.cells.toList = [v]) := by
  unfold Value.okWide at hv
  unfold qdj
  split at hv
  · rename_i hu
    rw [hu]
    obtain ⟨cs, rfl, _⟩ := hv
    exact ⟨fun _ => ⟨cs, rfl⟩, fun h => by cases h⟩
  · rename_i hu
    rw [hu]
    obtain ⟨cs, rfl, _⟩ := hv
    exact ⟨fun _ => ⟨cs, rfl⟩, fun h => by cases h⟩
  · rename_i h1 h2
    refine ⟨fun h => ?_, fun _ ⟨d, hu, hd⟩ => ?_⟩
    · exfalso
      split at h
      · rename_i hu; exact h1 _ hu
      · rename_i hu; exact h2 _ _ hu
      · cases h
    · cases v with
      | agg cs => rcases hd with rfl | ⟨k, rfl⟩ | rfl | ⟨e, rfl⟩ <;> simp [Go.Cell.okWide, Go.Cell.ok, hu] at hv
      | _ => rfl
theorem qsY {ts : List TypeId} (hts : covers P ts = true) {B : DataW Hh → Nat} {BA : List (DataW Hh) → Nat} (hB : Bulk B BA) {r : Go.Reach} {b : Nat} {t : TypeId} {v : Value} {d : DataW Hh} {ps : List MemPlace} (ht : t ∈ ts)
    (hv : Value.okWide P W r b t v) (h : DataW.Trod enc P W 0 (fun _ => true) true t v d ps) : ∃ x, Arg P t x ∧ RepS M (g0 W) W (.d x) v ∧ D.bulk x ≤ B d := by
  obtain ⟨n, hn⟩ := h
  obtain ⟨xs, h1, h2, h3⟩ := qhV hts hB n t _ _ ht hn
  refine ⟨elD (qdj P t) xs, ⟨n, xs, h1, rfl⟩, ?_, qpe h1 h3⟩
  obtain ⟨f1, f2⟩ := qs1 hv
  cases ha : qdj P t with
  | true =>
    obtain ⟨cs, rfl⟩ := f1 ha
    exact .d _ _ (.agg xs cs h2)
  | false =>
    have hcov : qjH P ts t = true := by
      simp only [covers, List.all_eq_true] at hts
      exact hts t ht
    have hc := f2 ha (by
      unfold qjH at hcov
      split at hcov
      · rename_i hu; exact ⟨_, hu, .inl rfl⟩
      · rename_i hu; exact ⟨_, hu, .inr (.inl ⟨_, rfl⟩)⟩
      · rename_i hu; exact ⟨_, hu, .inr (.inr (.inl rfl))⟩
      · rename_i hu; exact ⟨_, hu, .inr (.inr (.inr ⟨_, rfl⟩))⟩
      · rename_i hu; simp [qdj, hu] at ha
      · rename_i hu; simp [qdj, hu] at ha
      · cases hcov)
    rw [hc] at h2
    cases h2 with
    | cons x _ l _ hx hl =>
      cases hl
      exact .d _ _ hx
theorem qm8 {ts : List TypeId} (hts : covers P ts = true) {B : DataW Hh → Nat} {BA : List (DataW Hh) → Nat} (hB : Bulk B BA) {r : Go.Reach} {b : Nat} : ∀ {tys : List TypeId} {vs : List Value} {ds : List (DataW Hh)} {ps : List MemPlace} (j : Nat),
    (∀ t ∈ tys, t ∈ ts) → (∀ (i : Nat) t v, tys[i]? = some t → vs[i]? = some v → Value.okWide P W r b t v) → DataW.TrodAll enc P W 0 (fun _ => true) true tys vs ds ps →
    ∃ xs : List D, All2 (Arg P) tys xs ∧ ArgsRep M (g0 W) W j (xs.map .d) vs ∧ D.bulks xs ≤ BA ds
  | [], vs, ds, ps, j, _, _, h => by
    obtain ⟨rfl, rfl, rfl⟩ := trodAll_nil h
    exact ⟨[], .nil, .nil j, by simp [D.bulks]⟩
  | t :: tys, vs, ds, ps, j, ht, hv, h => by
    obtain ⟨v, vs', d, ds', p, q, rfl, rfl, rfl, hd, hrest⟩ := trodAll_cons h
    obtain ⟨x, h1, h2, h3⟩ := qsY (M := M) hts hB (ht t (by simp)) (hv 0 t v rfl rfl) hd
    obtain ⟨xs, h4, h5, h6⟩ := qm8 hts hB (j + 1) (fun u hu => ht u (by simp [hu])) (fun i u w' hu hw => hv (i + 1) u w' (by simpa using hu) (by simpa using hw)) hrest
    refine ⟨x :: xs, .cons h1 h4, .cons (.s h2) h5, ?_⟩
    rw [hB.c, D.bulks]
    omega
theorem ql1 {f : Func} {fid : FuncId} {s : Go.ChangeSpec} {apart fresh handsOn again : Bool} {args : Array Value} {ds gs : List (DataW Hh)} {before : List MemPlace} {tb : TypeId} {ts : List TypeId} {pg : Pg} {i : Nat} {r : Go.Reach} {b : Nat}
    (hgl : GlOk M (g0 W) W) (hm : P.follows .mixedOrders = true) (hT : Tab P M pg) (hx : qbD P M pg.ext) (hxlo : qaC pg.ext) (hlook : look M.fm fid = some i) (hext : pg.fn i ≠ none)
    (hts : covers P ts = true) (hpar : ∀ t ∈ f.params.toList, t ∈ ts) {B : DataW Hh → Nat} {BA : List (DataW Hh) → Nat} (hB : Bulk B BA)
    (hval : ∀ (j : Nat) t v, f.params[j]? = some t → args[j]? = some v → Value.okWide P W r b t v)
    (hvars : s.vars = []) (hW : DataW.Whole enc P f.params.toList s.vars apart W args.toList ds gs before) (hs : s.fn Hh ds = { results := [.lit (.bool true)], args := ds }) (hres : f.resultTypes = #[tb]) (htb : P.underlying tb = some .bool)
    (hl : Go.laidOutB P = true) (hread : ∀ t ∈ f.params.toList, P.readableRec t = true ∧ t < P.types.size)
    (run : ∀ xs : List D, All2 (Arg P) f.params.toList xs → D.bulks xs ≤ BA ds → ∃ n r, qcP pg n i (xs.map .d) [] = some r ∧ r.pan = false ∧ r.v = .d (.b true)) :
    Calls P fid args W fun e W' => ∃ v, e = .returned v ∧ s.post enc P f apart fresh handsOn again W args v W' := by
  have hW' := hW
  obtain ⟨p, q, hA, hV, rfl, hfz, hnd⟩ := hW
  obtain ⟨xs, h1, h2, h3⟩ := qm8 (M := M) hts hB 0 hpar (fun j t v ht hv => hval j t v (by simpa using ht) (by simpa using hv)) hA
  obtain ⟨n, q2, hrun, hp, hv⟩ := run xs h1 h3
  have hc := qnd hm hT hx hxlo hrun hlook hext h2 (qsL M W hgl)
  have ha : args.toList.toArray = args := by simp
  rw [ha] at hc
  refine hc.mono (fun e W' he => ?_)
  cases e with
  | returned v =>
    obtain ⟨_, g', hH, hE, hr⟩ := he
    rw [hv] at hr
    have hvb : v = .bool true := by
      cases hr with
      | s h => cases h with
        | d _ _ h => cases h; rfl
    subst hvb
    exact ⟨_, rfl, qsg hvars hW' hs hres htb hl hread hE.io (qvf hE)⟩
  | panicked ch =>
    obtain ⟨h, _⟩ := he
    rw [hp] at h; cases h
  | outgrown => exact he.elim
end
end W

/-
  What arguments read as, kind by kind.
-/
set_option linter.unusedSimpArgs false
set_option linter.unusedVariables false
namespace W
open Go (World Value Addr IntKind Program TypeId FuncId Func DataW MemPlace TypeDesc Lit)
theorem qjE {n a b : Nat} (h : look ((List.range n).map fun i => (i, i)) a = some b) : a = b := by
  have key : ∀ (l : List Nat), look (l.map fun i => (i, i)) a = some b → a = b := by
    intro l
    induction l with
    | nil => intro h; cases h
    | cons x l ih =>
      intro h
      simp only [qz3, look, qAh] at h
      split at h
      · rename_i hb
        cases h
        exact qAo hb
      · exact ih h
  exact key _ h
variable {P : Program} {t e : TypeId} {x : D}
theorem qpj {k : IntKind} (hu : P.underlying t = some (.int k)) (h : Arg P t x) : ∃ z, x = .i k z ∧ (Lit.int k z).wf = true := by
  obtain ⟨n, xs, ht, rfl⟩ := h
  cases n with
  | zero => exact ht.elim
  | succ n =>
    simp only [Ty, hu] at ht
    obtain ⟨z, rfl, hw⟩ := ht
    exact ⟨z, by simp [qdj, hu, elD], hw⟩
theorem qxh (hu : P.underlying t = some .bool) (h : Arg P t x) : ∃ z, x = .b z := by
  obtain ⟨n, xs, ht, rfl⟩ := h
  cases n with
  | zero => exact ht.elim
  | succ n =>
    simp only [Ty, hu] at ht
    obtain ⟨z, rfl⟩ := ht
    exact ⟨z, by simp [qdj, hu, elD]⟩
theorem qyF (hu : P.underlying t = some .string) (h : Arg P t x) : ∃ s, x = .s s ∧ s.length ≤ Go.maxLen ∧ ∀ c ∈ s, c < 256 := by
  obtain ⟨n, xs, ht, rfl⟩ := h
  cases n with
  | zero => exact ht.elim
  | succ n =>
    simp only [Ty, hu] at ht
    obtain ⟨z, rfl, hw⟩ := ht
    exact ⟨z, by simp [qdj, hu, elD], hw⟩
theorem qqC (hu : P.underlying t = some (.slice e)) (h : Arg P t x) : x = .nil ∨ ∃ l : List D, x = .sl l ∧ l.length ≤ Go.maxLen ∧ ∀ y ∈ l, Arg P e y := by
  obtain ⟨n, xs, ht, rfl⟩ := h
  cases n with
  | zero => exact ht.elim
  | succ n =>
    simp only [Ty, hu] at ht
    rcases ht with rfl | ⟨yss, rfl, hl, hy⟩
    · exact .inl (by simp [qdj, hu, elD])
    · refine .inr ⟨yss.map (elD (qdj P e)), by simp [qdj, hu, elD], by simpa using hl, fun y hm => ?_⟩
      obtain ⟨q, hq, rfl⟩ := List.mem_map.1 hm
      exact ⟨n, q, hy q hq, rfl⟩
theorem qsC {α : Type} {f : α → D} : ∀ {l : List D}, (∀ y ∈ l, ∃ a, y = f a) → ∃ L : List α, l = L.map f
  | [], _ => ⟨[], rfl⟩
  | y :: l, h => by
    obtain ⟨a, ha⟩ := h y (by simp)
    obtain ⟨L, hL⟩ := qsC (l := l) (fun z hz => h z (by simp [hz]))
    exact ⟨a :: L, by simp [ha, hL]⟩
inductive SlD {α : Type} (e : α → D) : D → List α → Prop
  | nil : SlD e .nil []
  | sl (L : List α) : SlD e (.sl (L.map e)) L
theorem SlD.len {α : Type} {e : α → D} {x : D} {L : List α} (h : SlD e x L) {H : List Obj} : qeN .lenL (.d x) H = some (.d (.i .i64 L.length)) := by
  cases h with
  | nil => rfl
  | sl => simp [qeN]
theorem SlD.ix {α : Type} {e : α → D} {x : D} {L : List α} (h : SlD e x L) {k : IntKind} {n size : Nat} {y : α} (he : (e y).cells.length = size) (hn : L[n]? = some y) : iaV (.d x) (.d (.i k (n : Nat))) size none = some (.cp (e y)) := by
  cases h with
  | nil => simp at hn
  | sl => exact qjY (by omega) (by simp [hn]) (by simp [he])
theorem qse {α : Type} {f : α → D} (hu : P.underlying t = some (.slice e)) (h : Arg P t x) (he : ∀ y, Arg P e y → ∃ a, y = f a) : ∃ L, SlD f x L := by
  rcases qqC hu h with rfl | ⟨l, rfl, _, hl⟩
  · exact ⟨[], .nil⟩
  · obtain ⟨L, rfl⟩ := qsC (f := f) (fun y hy => he y (hl y hy))
    exact ⟨L, .sl L⟩
end W

set_option linter.unusedSimpArgs false
set_option linter.unusedVariables false
namespace W
open Go (IntKind BinOp UnOp)
set_option maxRecDepth 20000
abbrev By := {c : Nat // c < 256}
def eBy (c : By) : D := .i .u8 (c.1 : Nat)
theorem qye {x : D} {L : List By} (hx : SlD eBy x L) {i : Nat} {c : By} (h : L[i]? = some c) : iaV (.d x) (.d (.i .i64 (i : Int))) 1 none = some (.cp (.i .u8 (c.1 : Nat))) := by
  cases hx with
  | nil => simp at h
  | sl => exact qjY (y := eBy c) (by omega) (by rw [Int.toNat_natCast, List.getElem?_map, h]; rfl) (by simp [eBy, D.cells])
theorem qm4 {a m : Nat} : ((a : Int).tmod (m : Int)) = ((a % m : Nat) : Int) := by
  rw [Int.tmod_eq_emod_of_nonneg (by omega)]; exact (Int.natCast_emod a m).symm
theorem qla {t u : List Nat} (h1 : ∀ c ∈ t, c < 256) (h2 : ∀ c ∈ u, c < 256) : ∀ c ∈ t ++ u, c < 256 := fun c h => by
  rcases List.mem_append.1 h with h | h
  · exact h1 c h
  · exact h2 c h
def gp (G : List By) (i : Nat) : List Nat := gapL.getD ((match G[i % G.length]? with | some c => c.1 | none => 0) % 6) []
theorem qnf {m : Nat} (h : m < 6) : ∃ g, gapL[m]? = some g ∧ g ∈ gapL ∧ g.length ≤ 19 ∧ 0 < g.length ∧ ∀ c ∈ g, c < 256 := by
  have : m = 0 ∨ m = 1 ∨ m = 2 ∨ m = 3 ∨ m = 4 ∨ m = 5 := by omega
  rcases this with rfl | rfl | rfl | rfl | rfl | rfl
  all_goals exact ⟨_, rfl, by decide, by decide, by decide, by decide⟩
theorem qo8 (G : List By) (i : Nat) : gp G i ∈ gapL ∧ (gp G i).length ≤ 19 ∧ 0 < (gp G i).length ∧ ∀ c ∈ gp G i, c < 256 := by
  unfold gp
  generalize (match G[i % G.length]? with | some c => c.1 | none => 0) = a
  obtain ⟨g, h1, h2⟩ := qnf (Nat.mod_lt a (show 0 < 6 by omega))
  rw [List.getD_eq_getElem?_getD, h1]
  exact h2
def pcs (s : List Nat) (G : List By) : Nat → List Tk → List Pc
  | _, [] => []
  | i, x :: l => ⟨gp G i, (s.drop x.p).take (x.e - x.p), x.k, x.t, x.n⟩ :: pcs s G (i + 1) l
theorem qrB {s : List Nat} {G : List By} : ∀ {l : List Tk} {i : Nat}, (∀ x ∈ l, qfk s x.p = .ok x.k x.t x.n x.e) → ∀ y ∈ pcs s G i l, y.Ok
  | [], _, _, y, hy => by cases hy
  | x :: l, i, h, y, hy => by
    rw [pcs, List.mem_cons] at hy
    rcases hy with rfl | hy
    · exact ⟨(qo8 G i).1, s, x.p, x.e, h x (by simp), rfl⟩
    · exact qrB (fun x hx => h x (by simp [hx])) y hy
theorem qjC {s : List Nat} {G : List By} : ∀ {l : List Tk} {i : Nat}, (pcs s G i l).length = l.length
  | [], _ => rfl
  | x :: l, i => by rw [pcs, qz4, qjC, qz4]
theorem qr1 {s : List Nat} {G : List By} : ∀ {l : List Tk} {i : Nat}, l.length ≤ (qgj (pcs s G i l)).length
  | [], _ => by simp
  | x :: l, i => by
    have h := qr1 (s := s) (G := G) (l := l) (i := i + 1)
    have h2 := (qo8 G i).2.2.1
    rw [pcs, qgj]
    simp only [List.length_append, qz4]
    omega
theorem qnA {s : List Nat} (hs : ∀ c ∈ s, c < 256) {G : List By} : ∀ {l : List Tk} {i : Nat}, ∀ c ∈ qgj (pcs s G i l), c < 256
  | [], _ => by simp [pcs, qgj]
  | x :: l, i => by
    rw [pcs, qgj]
    exact qla (qo8 G i).2.2.2 (qla (fun c h => hs c (List.mem_of_mem_drop (List.mem_of_mem_take h))) (qnA hs))
theorem qmh : ∀ {l : List Pc} {a : Nat}, (qhO a l).length = l.length
  | [], _ => rfl
  | x :: l, a => by rw [qhO, qz4, qmh, qz4]
def Lk (x y : Tk) : Prop := x.k = y.k ∧ x.t = y.t ∧ x.n = y.n ∧ (y.e : Int) - y.p = (x.e : Int) - x.p
theorem qso {s : List Nat} {G : List By} : ∀ {l : List Tk} {a j i : Nat}, (∀ x ∈ l, x.p ≤ x.e ∧ x.e ≤ s.length) → i < l.length → ∃ x y, l[i]? = some x ∧ (qhO a (pcs s G j l))[i]? = some y ∧ Lk x y
  | [], _, _, i, _, hi => by simp at hi
  | x :: l, a, j, 0, h, _ => by
    refine ⟨x, ⟨x.k, a + (gp G j).length, a + (gp G j).length + ((s.drop x.p).take (x.e - x.p)).length, x.t, x.n⟩, rfl, by rw [pcs, qhO]; rfl, rfl, rfl, rfl, ?_⟩
    have := h x (by simp)
    simp only [List.length_take, List.length_drop]
    omega
  | x :: l, a, j, i + 1, h, hi => by
    obtain ⟨x', y', h1, h2, h3⟩ := qso (s := s) (G := G) (l := l) (a := a + (gp G j).length + ((s.drop x.p).take (x.e - x.p)).length) (j := j + 1) (i := i) (fun x hx => h x (by simp [hx])) (by simp at hi; omega)
    exact ⟨x', y', by rw [qz5]; exact h1, by rw [pcs, qhO, qz5]; exact h2, h3⟩
theorem qg6 {L : List Tk} {H : List Obj} : qeN .lenL (.d (slD eTk L)) H = some (.d (.i .i64 (L.length : Nat))) := by cases L <;> simp [slD, qeN]
theorem qlD {s : List Nat} : ∀ (f a : Nat) (L L' : List Tk), a ≤ s.length → (∀ x ∈ L, x.p ≤ x.e ∧ x.e ≤ s.length) → qda s f a L = .inr L' → ∀ x ∈ L', x.p ≤ x.e ∧ x.e ≤ s.length
  | 0, _, _, _, _, _, h => by cases h
  | f + 1, a, L, L', ha, hL, h => by
    rw [qda] at h
    split at h
    · cases h
    · rename_i k p e t n hn
      obtain ⟨h1, h2, h3, _⟩ := qgV ha hn
      have hL' : ∀ x ∈ L ++ [⟨k, p, e, t, n⟩], x.p ≤ x.e ∧ x.e ≤ s.length := fun x hx => by
        rw [List.mem_append] at hx
        rcases hx with hx | hx
        · exact hL x hx
        · simp at hx; subst hx; exact ⟨h2, h3⟩
      split at h
      · cases h; exact hL'
      · exact qlD f e _ L' h3 hL' h
abbrev U16 := {z : Int // 0 ≤ z ∧ z < 65536}
def eU (z : U16) : D := .i .u16 z.1
theorem qut {x : D} {L : List U16} (h : SlD eU x L) (hn : L.length ≤ 1000) : GL x L.length := by
  refine ⟨fun H => h.len, fun i hi => ?_, by cases h <;> rfl, hn⟩
  exact ⟨L[i].1, L[i].2.1, L[i].2.2, h.ix (y := L[i]) (size := 1) rfl (by simp)⟩
theorem qrm {s : List Nat} (hz : s.length ≤ 20000) {x : D} {G : List By} (hG : SlD eBy x G) (hg0 : 0 < G.length) (hg1 : G.length ≤ 60) {H : List Obj} {T : Tk} :
    ∀ (B A : List Tk) (t : List Nat), (∀ y ∈ B, y.p ≤ y.e ∧ y.e ≤ s.length) → A.length + B.length ≤ 20001 → t.length ≤ A.length * 20020 →
      ∃ r, r = t ++ qgj (pcs s G A.length B) ∧ r.length ≤ 1000000000 ∧ j5 0 [6, 9] (qae pg (.d x) (.d (.s s)) (.d (slD eTk (A ++ (B ++ [T])))) (.d (.s t)) (.d (.i .i64 (A.length : Nat))) H H.length) = some (.nrm, ⟨[(6, .d (slD eTk (A ++ (B ++ [T])))), (9, .d (.s r))], H, H.length⟩) := by
  intro B
  induction B with
  | nil =>
    intro A t hB hl ht
    refine ⟨t, by simp [pcs, qgj], by omega, ?_⟩
    have hln : (A ++ ([] ++ [T])).length = A.length + 1 := by simp
    have hll : ∀ H, qeN .lenL (.d (slD eTk (A ++ ([] ++ [T])))) H = some (.d (.i .i64 ((A.length + 1 : Nat) : Int))) := fun H => by rw [qg6, hln]
    have hw : wr .i64 (((A.length + 1 : Nat) : Int) - 1) = (A.length : Int) := by rw [jl (by omega) (by omega)]; omega
    have h1 : ((A.length : Int) < (A.length : Int)) = False := by simp
    rw [qcj]
    generalize slD eTk (A ++ ([] ++ [T])) = z at hll
    simp only [qad, qU, qx, qy, qm, qe, kI, Nat.reduceEqDiff, qF, qD, qA, qz, qL, qW, jt, hll, qp, qk, ke, kr, qz7, kK, zk, hw, qAd, zj, h1, decide_false, qa, qf, qw, qC, qz0, ↓reduceIte, yB, jH, jx, ql, qn]
    all_goals rfl
  | cons y B ih =>
    intro A t hB hl ht
    simp only [qz4] at hl
    have hy := hB y (by simp)
    have hln : (A ++ (y :: B ++ [T])).length = A.length + B.length + 2 := by simp; omega
    have hll : ∀ H, qeN .lenL (.d (slD eTk (A ++ (y :: B ++ [T])))) H = some (.d (.i .i64 ((A.length + B.length + 2 : Nat) : Int))) := fun H => by rw [qg6, hln]
    have hw : wr .i64 (((A.length + B.length + 2 : Nat) : Int) - 1) = ((A.length + B.length + 1 : Nat) : Int) := by rw [jl (by omega) (by omega)]; omega
    have h1 : ((A.length : Int) < ((A.length + B.length + 1 : Nat) : Int)) = True := by rw [eq_iff_iff]; simp; omega
    have hwi : wr .i64 ((A.length : Int) + 1) = ((A.length + 1 : Nat) : Int) := by rw [jl (by omega) (by omega)]; omega
    have hgl : ∀ H, qeN .lenL (.d x) H = some (.d (.i .i64 (G.length : Nat))) := fun H => hG.len
    have hgz : ((G.length : Int) = 0) = False := eq_false (by omega)
    have hm : ((A.length : Int).tmod (G.length : Int)) = ((A.length % G.length : Nat) : Int) := qm4
    have hmlt := Nat.mod_lt A.length hg0
    have hgp := qo8 G A.length
    have hgq : ∃ c : By, G[A.length % G.length]? = some c ∧ gapL[c.1 % 6]? = some (gp G A.length) := by
      refine ⟨G[A.length % G.length], by simp [hmlt], ?_⟩
      unfold gp
      have : G[A.length % G.length]? = some G[A.length % G.length] := by simp [hmlt]
      rw [this]
      obtain ⟨g, e1, _⟩ := qnf (Nat.mod_lt (G[A.length % G.length]).1 (show 0 < 6 by omega))
      rw [List.getD_eq_getElem?_getD, e1]
      rfl
    obtain ⟨c, hc, hcg⟩ := hgq
    have hia := qye hG hc
    have hm6 : ((c.1 : Int).tmod 6) = ((c.1 % 6 : Nat) : Int) := qm4 (a := c.1) (m := 6)
    have z6 : ((6 : Int) = 0) = False := by simp
    have hib : iaV (.d (.sl [.s [32], .s [10], .s [9, 32], .s [32, 40, 42, 32, 97, 32, 40, 42, 32, 98, 32, 42, 41, 32, 99, 32, 42, 41, 32], .s [40, 42, 42, 41], .s [32, 13, 10]])) (.d (.i .u8 ((c.1 % 6 : Nat) : Int))) 1 none = some (.cp (.s (gp G A.length))) :=
      qjY (y := .s (gp G A.length)) (by omega) (by
        rw [Int.toNat_natCast]
        have : [D.s [32], .s [10], .s [9, 32], .s [32, 40, 42, 32, 97, 32, 40, 42, 32, 98, 32, 42, 41, 32, 99, 32, 42, 41, 32], .s [40, 42, 42, 41], .s [32, 13, 10]] = gapL.map D.s := rfl
        rw [this, List.getElem?_map, hcg]; rfl) (by simp [D.cells])
    have hiy : iaV (.d (slD eTk (A ++ (y :: B ++ [T])))) (.d (.i .i64 (A.length : Nat))) 5 none = some (.cp (eTk y)) := qhc (fun _ => rfl) (by omega) (by simp)
    simp only [eTk] at hiy
    have hcut : qev (.d (.s s)) (some (y.p : Int)) (some (y.e : Int)) = some (.d (.s ((s.drop y.p).take (y.e - y.p)))) := by
      rw [qhB hy.1 hy.2, List.drop_take]
    have hwl : ((s.drop y.p).take (y.e - y.p)).length ≤ 20000 := by simp only [List.length_take, List.length_drop]; omega
    obtain ⟨r, e1, e2, e3⟩ := ih (A ++ [y]) (t ++ (gp G A.length) ++ (s.drop y.p).take (y.e - y.p)) (fun z hz => hB z (by simp [hz])) (by simp; omega) (by simp only [List.length_append, qz4, qz8] at *; omega)
    have hgl2 := hgp.2.1
    rw [List.length_append, qz4, qz8, qz6] at e1 e3
    have hsame : A ++ [y] ++ (B ++ [T]) = A ++ (y :: B ++ [T]) := by simp
    rw [hsame] at e3
    refine ⟨r, by rw [e1, pcs, qgj]; simp, e2, ?_⟩
    have a1 : ∀ b, qa3 .add .num b (.d (.s t)) (.d (.s (gp G A.length))) = some (.d (.s (t ++ gp G A.length))) := fun b => qjW (by omega)
    have a2 : ∀ b, qa3 .add .num b (.d (.s (t ++ gp G A.length))) (.d (.s ((s.drop y.p).take (y.e - y.p)))) = some (.d (.s (t ++ (gp G A.length) ++ (s.drop y.p).take (y.e - y.p)))) := fun b => qjW (by simp only [List.length_append]; omega)
    rw [qcj]
    generalize t ++ (gp G A.length) ++ (s.drop y.p).take (y.e - y.p) = u2 at a2 e3
    generalize t ++ gp G A.length = u1 at a1 a2
    generalize (s.drop y.p).take (y.e - y.p) = u3 at a2 hcut
    generalize gp G A.length = u4 at a1 hib
    generalize slD eTk (A ++ (y :: B ++ [T])) = z at hll hiy e3
    simp only [qad, qU, qx, qy, qm, qe, kI, Nat.reduceEqDiff, qF, qD, qA, qz, qL, qW, jt, hll, qp, qk, ke, kr, qz7, kK, zk, hw, qAd, zj, h1, decide_true, qa, qf, qw, qC, ↓reduceIte, qS, qq, jp, zV, zT, yu, zW, kJ, jD, qz4, qz8, qz6, List.reduceReplicate, qz3, qz9, Nat.reduceAdd, Nat.reduceLT, zD, qAa, qAc, zR, jk, jg, yR, jK, qz1, jj, qdE, hgl, hgz, qme, hm, kH, hia, qej, qQ, zX, qco, z6, hm6, jb, hib, zP, qab, zN, a1, hiy, qu, qpf, qz5, qz2, qt0, jY, yn, qc4, qas, hcut, a2, zx, zw, qR, ql, qn, kB, hwi, qaJ]
    exact e3
theorem qrU {L M : List Tk} (hz : L.length ≤ 20001) (hlm : M.length = L.length) (hLM : ∀ i, i < L.length → ∃ x y, L[i]? = some x ∧ M[i]? = some y ∧ x.p ≤ x.e ∧ x.e ≤ 20000 ∧ Lk x y) {H : List Obj} :
    ∀ (k i : Nat), L.length - i = k → i ≤ L.length → ∃ e, get 4 e = .d (.b true) ∧
      yO pg (j5 2 [] (qao pg (.d (slD eTk L)) (.d (slD eTk M)) (.d (.i .i64 (i : Nat))) H H.length)) qbr = some (.ret, ⟨e, H, H.length⟩) := by
  intro k
  induction k with
  | zero =>
    intro i hk hi
    obtain rfl : i = L.length := by omega
    have h1 : ((L.length : Int) < (L.length : Int)) = False := by simp
    have hll : ∀ H, qeN .lenL (.d (slD eTk L)) H = some (.d (.i .i64 (L.length : Nat))) := fun H => qg6
    rw [qck]
    generalize slD eTk L = z at hll
    simp only [qam, qU, qx, qy, qm, qe, kI, Nat.reduceEqDiff, qF, qD, qA, qz, qL, qW, jt, hll, qp, qk, ke, qAd, zj, h1, decide_false, qa, qf, qw, qC, qz0, ↓reduceIte, yB, jH, jx, qn, qbr, kK, qK, qO]
    exact ⟨_, rfl, rfl⟩
  | succ k ih =>
    intro i hk hi
    have h1 : ((i : Int) < (L.length : Int)) = True := by rw [eq_iff_iff]; simp; omega
    have hll : ∀ H, qeN .lenL (.d (slD eTk L)) H = some (.d (.i .i64 (L.length : Nat))) := fun H => qg6
    obtain ⟨x, y, hx, hy, x1, x2, k1, k2, k3, k4⟩ := hLM i (by omega)
    have hix : iaV (.d (slD eTk L)) (.d (.i .i64 (i : Int))) 5 none = some (.cp (eTk x)) := qhc (fun _ => rfl) (by omega) (by simpa using hx)
    have hiy : iaV (.d (slD eTk M)) (.d (.i .i64 (i : Int))) 5 none = some (.cp (eTk y)) := qhc (fun _ => rfl) (by omega) (by simpa using hy)
    have hw : wr .i64 ((i : Int) + 1) = ((i + 1 : Nat) : Int) := by rw [jl (by omega) (by omega)]; omega
    have w1 : wr .i64 ((x.e : Int) - (x.p : Int)) = (x.e : Int) - x.p := jl (by omega) (by omega)
    have w2 : wr .i64 ((y.e : Int) - (y.p : Int)) = (x.e : Int) - x.p := by rw [jl (by omega) (by omega), k4]
    have ih' := ih (i + 1) (by omega) (by omega)
    simp only [eTk, ← k1, ← k2, ← k3] at hix hiy
    rw [qck]
    generalize slD eTk L = z at hll hix ih'
    generalize slD eTk M = z2 at hiy ih'
    simp only [qam, qU, qx, qy, qm, qe, kI, Nat.reduceEqDiff, qF, qD, qA, qz, qL, qW, jt, hll, qp, qk, ke, qAd, zj, h1, decide_true, qa, qf, qw, qC, ↓reduceIte, qS, qq, jp, zV, zT, yu, zW, kH, hix, qej, qu, zX, qpf, qz2, qt0, qQ, qco, hiy, qbC, qAm, zx, qd7, zO, qAr, qe4, qz5, qwS, zN, qjN, kw, kK, zt, qz0, zk, w2, w1, zw, qR, ql, qn, kr, qz7, kB, hw, qch]
    exact ih'
theorem qoY {x : D} {L : List U16} (h : SlD eU x L) {x2 : D} {G : List By} (hG : SlD eBy x2 G) : zC pg 5 [.d x, .d x2] [] = some ⟨false, true, .d (.b true), [], 0⟩ := by
  obtain ⟨lo, hkn⟩ := qoO
  have hz0 : ∀ n : Nat, min 0 n = 0 := Nat.zero_min
  have hz1 : ((0 : Nat) : Int) = 0 := rfl
  have hl1 : ∀ H, qeN .lenL (.d x) H = some (.d (.i .i64 (L.length : Nat))) := fun H => h.len
  have hl2 : ∀ H, qeN .lenL (.d x2) H = some (.d (.i .i64 (G.length : Nat))) := fun H => hG.len
  rw [qY (fn := ji) rfl rfl]
  by_cases ha : (20 : Int) < (L.length : Nat)
  · simp only [ji, qj, qz6, Nat.reduceAdd, qo, qz8, qx, qy, qm, qe, kK, qK, qL, qW, qa, qf, qs, qz9, qi, qT, hkn, qr, qg, hz0, yP, kI, qD, qA, qb2, qAm, qAb, qp, qw, qC, qz0, ↓reduceIte, qS, reduceCtorEq, qF, qz, jt, hl1, qk, ke, kr, qz7, je, eq_true ha, decide_true, kT, zO, zh, zl, Nat.reduceEqDiff, kw, kX, qbT, qO, ko, qJ, qb, qH, kv, qh, qt, qV]
    all_goals rfl
  · by_cases hb : (60 : Int) < (G.length : Nat)
    · simp only [ji, qj, qz6, Nat.reduceAdd, qo, qz8, qx, qy, qm, qe, kK, qK, qL, qW, qa, qf, qs, qz9, qi, qT, hkn, qr, qg, hz0, yP, kI, qD, qA, qb2, qAm, qAb, qp, qw, qC, qz0, ↓reduceIte, qS, reduceCtorEq, qF, qz, jt, hl1, qk, ke, kr, qz7, je, eq_false ha, decide_false, kT, zO, qAr, zh, Nat.reduceEqDiff, hl2, eq_true hb, decide_true, kw, zt, zl, kX, qbT, qO, ko, qJ, qb, qH, kv, qh, qt, qV]
      all_goals rfl
    · by_cases hc : ((G.length : Nat) : Int) = 0
      · simp only [ji, qj, qz6, Nat.reduceAdd, qo, qz8, qx, qy, qm, qe, kK, qK, qL, qW, qa, qf, qs, qz9, qi, qT, hkn, qr, qg, hz0, yP, kI, qD, qA, qb2, qAm, qAb, qp, qw, qC, qz0, ↓reduceIte, qS, reduceCtorEq, qF, qz, jt, hl1, qk, ke, kr, qz7, je, eq_false ha, decide_false, kT, zO, qAr, zh, Nat.reduceEqDiff, hl2, eq_false hb, kw, zt, kj, eq_true hc, decide_true, qO, ko, qJ, qb, qH, kv, qh, qt, qV]
        all_goals rfl
      · obtain ⟨s, q, t8, mc⟩ := qqw (qut h (by omega)) (H := [])
        have q' : Tx 10000000000 s := q
        have hq := q'.1
        obtain ⟨hx, hr⟩ := qoA (s := s) (by omega) (H := [])
        by_cases hlong : 20000 < s.length
        · rw [if_pos hlong] at hr
          simp only [ji, qj, qz6, Nat.reduceAdd, qo, qz8, qx, qy, qm, qe, kK, qK, qL, qW, qa, qf, qs, qz9, qi, qT, hkn, qr, qg, hz0, yP, kI, qD, qA, qb2, qAm, qAb, qp, qw, qC, qz0, ↓reduceIte, qS, reduceCtorEq, qF, qz, jt, hl1, qk, ke, kr, qz7, je, eq_false ha, decide_false, kT, zO, qAr, zh, Nat.reduceEqDiff, hl2, eq_false hb, kw, zt, kj, eq_false hc, zc, kV, qZ, qz3, qc, qI, qz1, mc, qd, hr, zl, kX, jc, qb3, qbZ, qb1, qlW, qbC, Int.reduceEq, qO, ko, qJ, qb, qH, kv, qh, qt, qV]
          all_goals rfl
        · rw [if_neg hlong] at hr
          have hpos := qlD (s := s) (s.length + 1) 0 []
          have hlen := qlx (s := s) (s.length + 1) 0 []
          have hdec := qlv (s := s) (s.length + 1) 0 []
          generalize qda s (s.length + 1) 0 [] = r at hr hx hpos hlen hdec
          rcases r with ⟨p, y⟩ | L0
          · have hxn : (y = 0) = False := eq_false ((hx p y (.inr rfl)).resolve_left hlong)
            simp only [ji, qj, qz6, Nat.reduceAdd, qo, qz8, qx, qy, qm, qe, kK, qK, qL, qW, qa, qf, qs, qz9, qi, qT, hkn, qr, qg, hz0, yP, kI, qD, qA, qb2, qAm, qAb, qp, qw, qC, qz0, ↓reduceIte, qS, reduceCtorEq, qF, qz, jt, hl1, qk, ke, kr, qz7, je, eq_false ha, decide_false, kT, zO, qAr, zh, Nat.reduceEqDiff, hl2, eq_false hb, kw, zt, kj, eq_false hc, zc, kV, qZ, qz3, qc, qI, qz1, mc, qd, hr, zl, kX, jc, qb3, qbZ, qb1, qlW, qbC, hxn, qO, ko, qJ, qb, qH, kv, qh, qt, qV]
            all_goals rfl
          · have hp := hpos L0 (Nat.zero_le _) (fun x hx => by cases hx) rfl
            have hn := hlen L0 rfl
            obtain ⟨Ts, rfl, hsy⟩ := hdec L0 (Nat.zero_le _) rfl
            rw [List.nil_append] at hr hp hn
            simp only [List.length_append, qz4, qz8] at hn
            have hpT : ∀ y ∈ Ts, y.p ≤ y.e ∧ y.e ≤ s.length := fun y hy => hp y (by simp [hy])
            obtain ⟨r, e1, e2, e3⟩ := qrm (s := s) (by omega) hG (by omega) (by omega) (H := []) (T := ⟨0, s.length, s.length, [], 0⟩) Ts [] [] hpT (by simp only [qz8]; omega) (by simp)
            rw [List.nil_append, qz8] at e1 e3
            rw [hz1] at e3
            simp only [qz8] at e3
            have hrb : ∀ c ∈ r, c < 256 := by rw [e1]; exact qnA q'.2
            by_cases hR : (20000 : Int) < (r.length : Nat)
            · simp only [ji, qbt, qj, qz6, Nat.reduceAdd, qo, qz8, qx, qy, qm, qe, kK, qK, qL, qW, qa, qf, qs, qz9, qi, qT, hkn, qr, qg, hz0, yP, kI, qD, qA, qb2, qAm, qAb, qp, qw, qC, qz0, ↓reduceIte, qS, reduceCtorEq, qF, qz, jt, hl1, qk, ke, kr, qz7, je, eq_false ha, decide_false, kT, zO, qAr, zh, Nat.reduceEqDiff, hl2, eq_false hb, kw, zt, kj, eq_false hc, zc, kV, qZ, qz3, qc, qI, qz1, mc, qd, hr, zl, kX, jc, qb3, qbZ, qb1, qlW, qbC, decide_true, qq, qaJ, qU, e3, q9, ze, eq_true hR, qO, ko, qJ, qb, qH, kv, qh, qt, qV]
              all_goals rfl
            · obtain ⟨lo2, hlo, hA⟩ := qqY (s := r) hrb (by omega) (H := [])
              have hlo2 : Ts.length ≤ r.length := by rw [e1]; exact qr1
              have hbld := qm1 (s' := r) (pcs s G 0 Ts) 0 (r.length + 1) [] (qrB hsy) (by rw [qAn]; exact e1) (Nat.zero_le _) (by rw [qjC]; omega)
              rw [if_neg (by omega), hbld, List.nil_append] at hA
              have hml : (qhO 0 (pcs s G 0 Ts) ++ [(⟨0, r.length, r.length, [], 0⟩ : Tk)]).length = (Ts ++ [(⟨0, s.length, s.length, [], 0⟩ : Tk)]).length := by
                simp [qmh, qjC]
              have hLM : ∀ i, i < (Ts ++ [(⟨0, s.length, s.length, [], 0⟩ : Tk)]).length → ∃ x y, (Ts ++ [(⟨0, s.length, s.length, [], 0⟩ : Tk)])[i]? = some x ∧ (qhO 0 (pcs s G 0 Ts) ++ [(⟨0, r.length, r.length, [], 0⟩ : Tk)])[i]? = some y ∧ x.p ≤ x.e ∧ x.e ≤ 20000 ∧ Lk x y := by
                intro i hi
                have htl : (qhO 0 (pcs s G 0 Ts)).length = Ts.length := by rw [qmh, qjC]
                by_cases hiT : i < Ts.length
                · obtain ⟨x, y, g1, g2, g3⟩ := qso (s := s) (G := G) (l := Ts) (a := 0) (j := 0) (i := i) hpT hiT
                  have := hpT x (List.mem_of_getElem? g1)
                  exact ⟨x, y, by rw [List.getElem?_append_left hiT]; exact g1, by rw [List.getElem?_append_left (by omega)]; exact g2, this.1, by omega, g3⟩
                · have hie : i = Ts.length := by simp at hi; omega
                  subst hie
                  exact ⟨⟨0, s.length, s.length, [], 0⟩, ⟨0, r.length, r.length, [], 0⟩, by simp, by rw [← htl]; simp, qAe _, (by omega : s.length ≤ 20000), rfl, rfl, rfl, by simp⟩
              obtain ⟨e, b1, b2⟩ := qrU (L := Ts ++ [⟨0, s.length, s.length, [], 0⟩]) (M := qhO 0 (pcs s G 0 Ts) ++ [⟨0, r.length, r.length, [], 0⟩]) (by simp; omega) hml hLM (H := []) _ 0 rfl (by omega)
              rw [hz1] at b2
              have lM : ∀ H, qeN .lenL (.d (slD eTk (qhO 0 (pcs s G 0 Ts) ++ [⟨0, r.length, r.length, [], 0⟩]))) H = some (.d (.i .i64 ((Ts ++ [(⟨0, s.length, s.length, [], 0⟩ : Tk)]).length : Nat))) := fun H => by rw [qg6, hml]
              have lL : ∀ H, qeN .lenL (.d (slD eTk (Ts ++ [⟨0, s.length, s.length, [], 0⟩]))) H = some (.d (.i .i64 ((Ts ++ [(⟨0, s.length, s.length, [], 0⟩ : Tk)]).length : Nat))) := fun H => qg6
              simp only at hr hA
              generalize slD eTk (qhO 0 (pcs s G 0 Ts) ++ [⟨0, r.length, r.length, [], 0⟩]) = zM at hA b2 lM
              generalize slD eTk (Ts ++ [⟨0, s.length, s.length, [], 0⟩]) = zL at hr b2 lL e3
              simp only [qz8] at b2
              simp only [ji, qbt, qj, qz6, Nat.reduceAdd, qo, qz8, qx, qy, qm, qe, kK, qK, qL, qW, qa, qf, qs, qz9, qi, qT, hkn, qr, qg, hz0, yP, kI, qD, qA, qb2, qAm, qAb, qp, qw, qC, qz0, ↓reduceIte, qS, reduceCtorEq, qF, qz, jt, hl1, qk, ke, kr, qz7, je, eq_false ha, decide_false, kT, zO, qAr, zh, Nat.reduceEqDiff, hl2, eq_false hb, kw, zt, kj, eq_false hc, zc, kV, qZ, qz3, qc, qI, qz1, mc, qd, hr, zl, kX, jc, qb3, qbZ, qb1, qlW, qbC, decide_true, qq, qaJ, qU, e3, q9, ze, eq_false hR, hA, qrL, lM, List.length_append, qz4, lL, qAd, qch]
              rw [b2]
              simp only [qJ, qb, qH, b1, kv, qh, qt, qV]
              all_goals rfl
end W

/- A call of no arguments whose result is data is the same beside whatever objects there are. -/
set_option linter.unusedSimpArgs false
set_option linter.unusedVariables false
namespace W
open Go (World Value Addr IntKind Program TypeId FuncId)
theorem qqG {P : Program} {M : Maps} {call : Call} (hsim : qbD P M call) {i : Nat} {x : D} {H1 : List Obj} {lo : Nat} {same : Bool} (h : call i [] [] = some ⟨false, same, .d x, H1, lo⟩)
    {f' : FuncId} (hl : look M.fm f' = some i) {g : Gh} {w : World} {H : List Obj} (hH : RelH M g w H) : qos P f' #[] w (yc M g w ⟨false, true, .d x, H, H.length⟩) := by
  have hH0 : RelH M { n := 0, φ := fun _ => 0, own := fun _ => none, pub := g.pub } w [] := ⟨rfl, fun id o h => by simp at h, fun b hb => ⟨rfl, (hH.fresh b hb).2⟩, hH.gl⟩
  have hd := hsim i [] [] _ h f' hl _ w [] (.nil _) hH0
  intro o a K Q hK hQ
  refine hd o a K Q ?_ ?_
  · rintro v w' ⟨_, g1, hR1, hE, hA⟩
    refine hK v w' ?_
    have hb : ∀ b, b < w.heap.size → w'.heap[b]? = w.heap[b]? ∧ g1.pub b = g.pub b := fun b hb => (hE.keep b hb (.inl rfl)).2
    have hg : Grow g w { n := g.n, φ := g.φ, own := fun b => if b < w.heap.size then g.own b else none, pub := g1.pub } w' := ⟨hE.size, hE.pub, hE.cell⟩
    have hlt : ∀ b ℓ, g.own b = some ℓ → b < w.heap.size := fun b ℓ ho => by
      rcases Nat.lt_or_ge b w.heap.size with h1 | h1
      · exact h1
      · rw [(hH.fresh b h1).1] at ho; cases ho
    have hk : ∀ ℓ, Kept g w { n := g.n, φ := g.φ, own := fun b => if b < w.heap.size then g.own b else none, pub := g1.pub } w' ℓ := fun ℓ => ⟨fun b ho => by
      have := hlt b ℓ ho
      exact ⟨by simp only [this, if_true]; exact ho, (hb b this).1, (hb b this).2⟩⟩
    refine ⟨rfl, { n := g.n, φ := g.φ, own := fun b => if b < w.heap.size then g.own b else none, pub := g1.pub }, ⟨hH.n, fun id o ho => (hH.h id o ho).mono hg (qAe _) (fun _ _ => rfl) (by rw [hH.n]; exact (List.getElem?_eq_some_iff.1 ho).1) (hk _) (fun i => hk _), fun b hb' => ⟨?_, (hR1.fresh b hb').2⟩, hH.gl.mono hg⟩, ⟨hg, qAe _, fun _ _ => rfl, fun b hb' ho => ⟨by simp only [hb', if_true], (hb b hb').1, (hb b hb').2⟩, hE.io⟩, ?_⟩
    · have : ¬ b < w.heap.size := by have := hE.size; omega
      simp only [this, if_false]
    · cases hA with
      | s hA => cases hA with
        | d _ _ hr => exact .s (.d _ _ hr)
  · rintro ch w' ⟨hp, _⟩
    cases hp
end W

/- What stands in for strings.IndexByte, strconv.toError and scan.Keywords does what these do. -/
set_option linter.unusedSimpArgs false
set_option linter.unusedVariables false
namespace W
open Go (World Value Addr IntKind Program TypeId FuncId Func Calls Code)
def IxC (P : Program) (K : FuncId) : Prop :=
  ∀ (s : ByteArray) (c : Int) (w : World), Calls P K #[.string s, .int .u8 c] w fun e w' => e = .returned (.int .i64 (Go.Lib.indexByte s.data.toList c.toNat.toUInt8)) ∧ w' = w
def TeC (P : Program) (K : FuncId) (gl : Nat) (code : Int) : Prop :=
  ∀ (fn s : ByteArray) (base bits : Int) (ev : Value) (w : World), s.size ≤ 281474976710656 → w.cell? ⟨gl, 0, none⟩ = some ev → (ev = .nilIface ∨ ∃ te pe, ev = .iface te pe) →
    Calls P K #[.string fn, .string s, .int .i64 base, .int .i64 bits, .iface 110 (.int .i64 code)] w fun e w' => ∃ N, e = .returned (.iface 112 (.pointer (some ⟨N, 0, none⟩))) ∧ Go.RowKit.Below w.heap.size w w'
theorem qrZ (c : Nat) : ∀ l : List UInt8, ixN (c % 256) (l.map (·.toNat)) = Go.Lib.indexByte l c.toUInt8
  | [] => rfl
  | b :: l => by
    have ih := qrZ c l
    have hge := Go.Lib.indexByte_ge l c.toUInt8
    have hb : qAk b.toNat (c % 256) = (b == c.toUInt8) := by
      have hc : c.toUInt8.toNat = c % 256 := by simp [Nat.toUInt8]
      rw [← hc]
      by_cases h : b = c.toUInt8
      · subst h; simp
      · have h2 : ¬ b.toNat = c.toUInt8.toNat := fun e => h (UInt8.toNat_inj.1 e)
        have h3 : qAk b.toNat c.toUInt8.toNat = false := by rw [Bool.eq_false_iff]; intro e; exact h2 (qAo e)
        rw [h3]; symm; simpa using h
    simp only [qz3, ixN, Go.Lib.indexByte, hb]
    cases b == c.toUInt8 with
    | true => rfl
    | false =>
      simp only [cond_false, qz0, if_false]
      rw [ih]
      generalize Go.Lib.indexByte l c.toUInt8 = v at hge ⊢
      cases v with
      | ofNat n => simp
      | negSucc m =>
        have : m = 0 := by omega
        subst this
        rfl
theorem qtn {P : Program} {M : Maps} {K : FuncId} (hI : IxC P K) {fn : Func} {c : Code} (hf : P.funcs[K]? = some fn) (hname : (fn.name == "runtime.NumGoroutine") = false) (hbody : fn.body = some c)
    {g : Gh} {w : World} {vs : List V} {H : List Obj} {r : Cr} (h : ixX vs H = some r) {argv : List Value} (ha : ArgsRep M g w 0 vs argv) (hH : RelH M g w H) : qos P K argv.toArray w (yc M g w r) := by
  refine qfB ⟨?_, ?_⟩
  · unfold ixX at h
    split at h
    · simp only [Option.some.injEq] at h
      subst h
      cases ha with
      | cons h0 ha => cases ha with
        | cons h1 ha => cases ha; cases h0 with
          | s h0 => cases h0 with
            | d _ _ h0 => cases h0 with
              | s _ x hx => cases h1 with
                | s h1 => cases h1 with
                  | d _ _ h1 => cases h1 with
                    | i k n =>
                      refine (hI x _ w).mono ?_
                      rintro e w' ⟨rfl, rfl⟩
                      refine ⟨rfl, g, hH, Evo.refl g w', .s (.d _ _ ?_)⟩
                      rw [← hx, qrZ]
                      exact .i _ _
    · cases h
  · have hn : ¬ fn.name = "runtime.NumGoroutine" := by simpa using hname
    simp [Go.callFunc, hf, hn, hbody]
theorem qsQ {P : Program} {M : Maps} {K : FuncId} {gS gR : Nat} (hS : TeC P K gS 2) (hR : TeC P K gR 1) (mS : gS ∈ M.gi) (mR : gR ∈ M.gi) (m2 : look M.tm 112 = some 112) (m0 : ∀ t', look M.tm t' = some 110 → t' = 110)
    {fn : Func} {c : Code} (hf : P.funcs[K]? = some fn) (hname : (fn.name == "runtime.NumGoroutine") = false) (hbody : fn.body = some c)
    {g : Gh} {w : World} {vs : List V} {H : List Obj} {r : Cr} (h : teX vs H = some r) {argv : List Value} (ha : ArgsRep M g w 0 vs argv) (hH : RelH M g w H) : qos P K argv.toArray w (yc M g w r) := by
  refine qfB ⟨?_, ?_⟩
  · unfold teX at h
    split at h
    · rename_i f t k1 k2 e
      rw [qAh] at h
      split at h
      · rename_i hb
        simp only [Option.some.injEq] at h
        subst h
        simp only [qAf, Bool.or_eq_true, Nat.ble_eq] at hb
        have hcode : e = 1 ∨ e = 2 := by
          rcases hb.1 with h | h
          · left; rw [qlB] at h; exact of_decide_eq_true h
          · right; rw [qlB] at h; exact of_decide_eq_true h
        obtain ⟨⟨evS, hvS, hevS⟩, _⟩ := hH.gl.2 gS mS
        obtain ⟨⟨evR, hvR, hevR⟩, _⟩ := hH.gl.2 gR mR
        cases ha with
        | cons h0 ha => cases ha with
          | cons h1 ha => cases ha with
            | cons h2 ha => cases ha with
              | cons h3 ha => cases ha with
                | cons h4 ha => cases ha; cases h0 with
                  | s h0 => cases h0 with
                    | d _ _ h0 => cases h0 with
                      | s _ x hx => cases h1 with
                        | s h1 => cases h1 with
                          | d _ _ h1 => cases h1 with
                            | s _ y hy => cases h2 with
                              | s h2 => cases h2 with
                                | d _ _ h2 => cases h2 with
                                  | i _ _ => cases h3 with
                                    | s h3 => cases h3 with
                                      | d _ _ h3 => cases h3 with
                                        | i _ _ => cases h4 with
                                          | s h4 => cases h4 with
                                            | ifc _ t' _ cv ht hcv => cases hcv with
                                              | d _ _ hcv => cases hcv with
                                                | i _ _ =>
                                                  have e1 := m0 t' ht
                                                  subst e1
                                                  have hsz : y.size ≤ 281474976710656 := by
                                                    have := congrArg List.length hy
                                                    rw [List.length_map] at this
                                                    have h2 : y.data.toList.length = y.size := Array.length_toList
                                                    omega
                                                  have post : ∀ e w', (∃ N, e = .returned (.iface 112 (.pointer (some ⟨N, 0, none⟩))) ∧ Go.RowKit.Below w.heap.size w w') → yc M g w ⟨false, true, .ifc 112 .undef, H, H.length⟩ e w' := by
                                                    rintro e w' ⟨N, rfl, hB⟩
                                                    obtain ⟨q1, q2⟩ := qqv hH hB
                                                    exact ⟨rfl, g, q1, q2, .s (.ifc _ 112 _ _ m2 (.undef _))⟩
                                                  rcases hcode with rfl | rfl
                                                  · exact (hR x y _ _ evR w hsz hvR hevR).mono post
                                                  · exact (hS x y _ _ evS w hsz hvS hevS).mono post
      · cases h
    · cases h
  · have hn : ¬ fn.name = "runtime.NumGoroutine" := by simpa using hname
    simp [Go.callFunc, hf, hn, hbody]
end W

/- The contracts of strings.IndexByte and strconv.toError at this program, laid by the shelf's program. -/
namespace Go.Proofs
open Go.Shelf
def Tryd.lays137_ren : Go.Shelf.Ren := ⟨fun | 137 => 58 | 217 => 73 | 266 => 84 | n => n, fun | 9 => 9 | 5 => 5 | 3 => 3 | n => n, fun | n => n⟩
theorem Tryd.lays137 : Go.Proofs.Lays.n137 Tryd.prog Tryd.lays137_ren := {
  mixed := by kernel_rfl
  f137 := Tryd.func58.trans (congrArg some (by kernel_rfl))
  f217 := Tryd.func73.trans (congrArg some (by kernel_rfl))
  f266 := Tryd.func84.trans (congrArg some (by kernel_rfl))
  t3 := Tryd.underlying3
  a3 := Tryd.isAgg3
  z3 := Tryd.sizeOf3
  v3 := Tryd.zeroValue3
  t5 := Tryd.underlying5
  a5 := Tryd.isAgg5
  z5 := Tryd.sizeOf5
  v5 := Tryd.zeroValue5
  t9 := Tryd.underlying9
  a9 := Tryd.isAgg9
  z9 := Tryd.sizeOf9
  v9 := Tryd.zeroValue9 }
open Go.RowKit in
theorem Tryd.strings_IndexByte (s : ByteArray) (c : Int) (w : World) :
    Calls Tryd.prog 58 #[.string s, .int .u8 c] w fun e w' => e = .returned (.int .i64 (Lib.indexByte s.data.toList c.toNat.toUInt8)) ∧ w' = w := Any.strings_IndexByte Tryd.lays137 s c w
def Tryd.laysPu17_ren : Go.Shelf.Ren := ⟨fun | 17 => 76 | 21 => 87 | 22 => 88 | 23 => 89 | 24 => 90 | 25 => 92 | 27 => 94 | 26 => 93 | 28 => 95 | 29 => 96 | 30 => 97 | 31 => 98 | 32 => 99 | 33 => 100 | 35 => 102 | 34 => 101 | 36 => 103 | 37 => 104 | 38 => 105 | 39 => 106 | 40 => 107 | n => n, fun | 9 => 9 | 3 => 3 | 24 => 89 | 34 => 110 | 4 => 4 | 39 => 112 | 44 => 121 | 37 => 33 | 0 => 0 | 47 => 123 | 50 => 126 | 48 => 124 | 2 => 2 | 52 => 128 | 22 => 29 | 5 => 5 | 55 => 131 | 59 => 134 | 60 => 84 | 20 => 20 | 61 => 135 | 36 => 30 | 65 => 139 | 66 => 140 | 67 => 76 | n => n, fun | 0 => 3 | 1 => 4 | 2 => 5 | 3 => 6 | 4 => 7 | n => n⟩
theorem Tryd.laysPu17 : Go.Proofs.LaysPu.n17 Tryd.prog Tryd.laysPu17_ren := {
  mixed := by kernel_rfl
  f17 := Tryd.func76.trans (congrArg some (by kernel_rfl))
  f21 := Tryd.func87.trans (congrArg some (by kernel_rfl))
  f22 := Tryd.func88.trans (congrArg some (by kernel_rfl))
  f23 := Tryd.func89.trans (congrArg some (by kernel_rfl))
  f24 := Tryd.func90.trans (congrArg some (by kernel_rfl))
  f25 := Tryd.func92.trans (congrArg some (by kernel_rfl))
  f26 := Tryd.func93.trans (congrArg some (by kernel_rfl))
  f27 := Tryd.func94.trans (congrArg some (by kernel_rfl))
  f28 := Tryd.func95.trans (congrArg some (by kernel_rfl))
  f29 := Tryd.func96.trans (congrArg some (by kernel_rfl))
  f30 := Tryd.func97.trans (congrArg some (by kernel_rfl))
  f31 := Tryd.func98.trans (congrArg some (by kernel_rfl))
  f32 := Tryd.func99.trans (congrArg some (by kernel_rfl))
  f33 := Tryd.func100.trans (congrArg some (by kernel_rfl))
  f34 := Tryd.func101.trans (congrArg some (by kernel_rfl))
  f35 := Tryd.func102.trans (congrArg some (by kernel_rfl))
  f36 := Tryd.func103.trans (congrArg some (by kernel_rfl))
  f37 := Tryd.func104.trans (congrArg some (by kernel_rfl))
  f38 := Tryd.func105.trans (congrArg some (by kernel_rfl))
  f39 := Tryd.func106.trans (congrArg some (by kernel_rfl))
  f40 := Tryd.func107.trans (congrArg some (by kernel_rfl))
  t0 := Tryd.underlying0
  a0 := Tryd.isAgg0
  z0 := Tryd.sizeOf0
  v0 := Tryd.zeroValue0
  i0 := by kernel_rfl
  t2 := Tryd.underlying2
  a2 := Tryd.isAgg2
  z2 := Tryd.sizeOf2
  v2 := Tryd.zeroValue2
  i2 := by kernel_rfl
  t3 := Tryd.underlying3
  a3 := Tryd.isAgg3
  z3 := Tryd.sizeOf3
  v3 := Tryd.zeroValue3
  i3 := by kernel_rfl
  t4 := Tryd.underlying4
  a4 := Tryd.isAgg4
  z4 := Tryd.sizeOf4
  v4 := Tryd.zeroValue4
  i4 := by kernel_rfl
  t5 := Tryd.underlying5
  a5 := Tryd.isAgg5
  z5 := Tryd.sizeOf5
  v5 := Tryd.zeroValue5
  i5 := by kernel_rfl
  t9 := Tryd.underlying9
  a9 := Tryd.isAgg9
  z9 := Tryd.sizeOf9
  v9 := Tryd.zeroValue9
  i9 := by kernel_rfl
  t20 := Tryd.underlying20
  a20 := Tryd.isAgg20
  z20 := Tryd.sizeOf20
  v20 := Tryd.zeroValue20
  i20 := by kernel_rfl
  t22 := Tryd.underlying29
  a22 := Tryd.isAgg29
  z22 := Tryd.sizeOf29
  v22 := Tryd.zeroValue29
  i22 := by kernel_rfl
  t24 := Tryd.underlying89
  a24 := Tryd.isAgg89
  z24 := Tryd.sizeOf89
  v24 := Tryd.zeroValue89
  i24 := by kernel_rfl
  t34 := Tryd.underlying110
  a34 := Tryd.isAgg110
  z34 := Tryd.sizeOf110
  v34 := Tryd.zeroValue110
  i34 := by kernel_rfl
  c34 := by kernel_rfl
  t36 := Tryd.underlying30
  a36 := Tryd.isAgg30
  z36 := Tryd.sizeOf30
  v36 := Tryd.zeroValue30
  i36 := by kernel_rfl
  t37 := Tryd.underlying33
  a37 := Tryd.isAgg33
  z37 := Tryd.sizeOf33
  v37 := Tryd.zeroValue33
  i37 := by kernel_rfl
  t39 := Tryd.underlying112
  a39 := Tryd.isAgg112
  z39 := Tryd.sizeOf112
  v39 := Tryd.zeroValue112
  i39 := by kernel_rfl
  t44 := Tryd.underlying121
  a44 := Tryd.isAgg121
  z44 := Tryd.sizeOf121
  v44 := Tryd.zeroValue121
  i44 := by kernel_rfl
  t47 := Tryd.underlying123
  a47 := Tryd.isAgg123
  z47 := Tryd.sizeOf123
  v47 := Tryd.zeroValue123
  i47 := by kernel_rfl
  t48 := Tryd.underlying124
  a48 := Tryd.isAgg124
  z48 := Tryd.sizeOf124
  v48 := Tryd.zeroValue124
  i48 := by kernel_rfl
  t50 := Tryd.underlying126
  a50 := Tryd.isAgg126
  z50 := Tryd.sizeOf126
  v50 := Tryd.zeroValue126
  i50 := by kernel_rfl
  t52 := Tryd.underlying128
  a52 := Tryd.isAgg128
  z52 := Tryd.sizeOf128
  v52 := Tryd.zeroValue128
  i52 := by kernel_rfl
  t55 := Tryd.underlying131
  a55 := Tryd.isAgg131
  z55 := Tryd.sizeOf131
  v55 := Tryd.zeroValue131
  i55 := by kernel_rfl
  t59 := Tryd.underlying134
  a59 := Tryd.isAgg134
  z59 := Tryd.sizeOf134
  v59 := Tryd.zeroValue134
  i59 := by kernel_rfl
  t60 := Tryd.underlying84
  a60 := Tryd.isAgg84
  z60 := Tryd.sizeOf84
  v60 := Tryd.zeroValue84
  i60 := by kernel_rfl
  t61 := Tryd.underlying135
  a61 := Tryd.isAgg135
  z61 := Tryd.sizeOf135
  t65 := Tryd.underlying139
  a65 := Tryd.isAgg139
  z65 := Tryd.sizeOf139
  v65 := Tryd.zeroValue139
  i65 := by kernel_rfl
  t66 := Tryd.underlying140
  a66 := Tryd.isAgg140
  z66 := Tryd.sizeOf140
  v66 := Tryd.zeroValue140
  i66 := by kernel_rfl
  t67 := Tryd.underlying76
  a67 := Tryd.isAgg76
  z67 := Tryd.sizeOf76
  v67 := Tryd.zeroValue76
  i67 := by kernel_rfl
  g0 := by kernel_rfl
  m0 := by kernel_rfl
  g1 := by kernel_rfl
  m1 := by kernel_rfl
  g2 := by kernel_rfl
  m2 := by kernel_rfl
  g3 := by kernel_rfl
  m3 := by kernel_rfl
  g4 := by kernel_rfl
  m4 := by kernel_rfl }
open Go.RowKit in
theorem Tryd.toError_syntax (fn s : ByteArray) (base bits : Int) (ev : Value) (w : World) (hlim : s.size ≤ 281474976710656) (hv : w.cell? ⟨(Tryd.laysPu17_ren.g 0), 0, none⟩ = some ev) (hev : ev = .nilIface ∨ ∃ te pe, ev = .iface te pe) :
    Calls Tryd.prog 76 #[.string fn, .string s, .int .i64 base, .int .i64 bits, .iface 110 (.int .i64 2)] w fun e w' => ∃ N, e = .returned (.iface 112 (.pointer (some ⟨N, 0, none⟩))) ∧ w.heap.size ≤ N ∧ w'.heap[N]? = some (.cells #[.string fn, .string s, ev] (Tryd.laysPu17_ren.t 44) (0, 0)) ∧ Below w.heap.size w w' := AnyPu.strconv_toError_syntax Tryd.laysPu17 fn s base bits ev w hlim hv hev
open Go.RowKit in
theorem Tryd.toError_range (fn s : ByteArray) (base bits : Int) (ev : Value) (w : World) (hlim : s.size ≤ 281474976710656) (hv : w.cell? ⟨(Tryd.laysPu17_ren.g 1), 0, none⟩ = some ev) (hev : ev = .nilIface ∨ ∃ te pe, ev = .iface te pe) :
    Calls Tryd.prog 76 #[.string fn, .string s, .int .i64 base, .int .i64 bits, .iface 110 (.int .i64 1)] w fun e w' => ∃ N, e = .returned (.iface 112 (.pointer (some ⟨N, 0, none⟩))) ∧ w.heap.size ≤ N ∧ w'.heap[N]? = some (.cells #[.string fn, .string s, ev] (Tryd.laysPu17_ren.t 44) (0, 0)) ∧ Below w.heap.size w w' := AnyPu.strconv_toError_range Tryd.laysPu17 fn s base bits ev w hlim hv hev
end Go.Proofs

/-
  Tables that the rows list are what the small semantics reads.
-/
set_option linter.unusedSimpArgs false
set_option linter.unusedVariables false
namespace W
open Go (World Value Addr IntKind Program TypeId FuncId Func DataW MemPlace Lit)
theorem qqa {W : World} {b i : Nat} {v : Value} (h : W.cell? ⟨b, i, none⟩ = some v) : i < (g0 W).pub b := by
  show i < (match W.heap[b]? with | some (.cells c _ _) => c.size | _ => 0)
  simp only [World.cell?] at h
  split at h
  · rename_i c t f hb
    rw [hb]
    simp only [Option.isSome_none, qz0, if_false] at h
    exact (Array.getElem?_eq_some_iff.1 h).1
  · cases h
theorem qn6 {pub : Nat → Nat} {w : World} (k : IntKind) : ∀ zs : List Int, RepDL pub w (zs.map (D.i k)) (zs.map fun z => Value.int k z)
  | [] => .nil
  | z :: zs => .cons _ _ _ _ (.i k z) (qn6 k zs)
theorem qlo {P : Program} {W : World} {name : String} {k : IntKind} {zs : List Int} {g : Nat} {t e : TypeId} {n : Nat}
    (hg : P.globalNamed name = some g) (hty : (P.globals[g]?).map (·.type) = some t) (ht : P.underlying t = some (.array n e)) (he : P.underlying e = some (.int k)) (hce : P.cellsOf e = 1) (hct : P.cellsOf t = n) :
    ∀ {laid : List (String × DataW Unit)} {ps : List MemPlace}, DataW.LaidVars P W laid ps → (name, Go.Lib.tabData k zs) ∈ laid → Go.Lib.TabIs P W name k zs
  | [], _, _, hm => by cases hm
  | (nm, d) :: rest, ps, h, hm => by
    obtain ⟨g', t', cs, fuel, p, q, hg', ht', hvar, hd, hrest, _⟩ := h
    rcases List.mem_cons.1 hm with e | hm
    · cases e
      obtain rfl := Option.some.inj (hg.symm.trans hg')
      obtain rfl := Option.some.inj (hty.symm.trans ht')
      unfold Go.Lib.TabIs
      rw [hvar, ← Go.Lib.cells_of_tab ht he hce hct hd]
    · exact qlo hg hty ht he hce hct hrest hm
theorem qp9 {M : Maps} {P : Program} {W : World} (h2 : qt8 M (g0 W) W) (h : ∀ n x, look M.gl n = some x → ∃ name k zs, P.globalNamed name = some n ∧ x = .agg (zs.map (D.i k)) ∧ zs ≠ [] ∧ Go.Lib.TabIs P W name k zs) : GlOk M (g0 W) W := by
  refine ⟨?_, h2⟩
  intro n x hn
  obtain ⟨name, k, zs, hg, rfl, hne, ht⟩ := h n x hn
  refine ⟨zs.map fun z => Value.int k z, qn6 k zs, fun j v hj => ?_, ?_⟩
  · have hlt : j < zs.length := by
      have := (List.getElem?_eq_some_iff.1 hj).1
      simpa using this
    rw [qz6, ht.cell hg j hlt]
    have : (zs.map fun z => Value.int k z)[j]? = some (.int k (zs.getD j 0)) := by simp [List.getD, hlt]
    rw [this] at hj
    exact hj
  · have hpos : 0 < zs.length := by cases zs with | nil => exact absurd rfl hne | cons => simp
    have := qqa (ht.cell hg (zs.length - 1) (by omega))
    simp only [List.length_map]
    omega
theorem qmp {P : Program} {W : World} {name : String} {g t : Nat} {tn : String} {x : DataW Unit}
    (hg : P.globalNamed name = some g) (hty : (P.globals[g]?).map (·.type) = some t) (hct : P.cellsOf t = 1) :
    ∀ {laid : List (String × DataW Unit)} {ps : List MemPlace}, DataW.LaidVars P W laid ps → (name, DataW.iface tn x) ∈ laid → (∃ ev, W.cell? ⟨g, 0, none⟩ = some ev ∧ (ev = .nilIface ∨ ∃ te pe, ev = .iface te pe)) ∧ 0 < (g0 W).pub g
  | [], _, _, hm => by cases hm
  | (nm, d) :: rest, ps, h, hm => by
    obtain ⟨g', t', cs, fuel, p, q, hg', ht', hvar, hd, hrest, _⟩ := h
    rcases List.mem_cons.1 hm with e | hm
    · cases e
      obtain rfl := Option.some.inj (hg.symm.trans hg')
      obtain rfl := Option.some.inj (hty.symm.trans ht')
      have hcs : ∃ u v, cs.toList = [.iface u v] := by
        generalize hl : cs.toList = l at hd
        cases fuel with
        | zero => simp [DataW.trod] at hd
        | succ fuel =>
          unfold DataW.trod at hd
          split at hd
          all_goals try (exact ⟨_, _, rfl⟩)
          all_goals exfalso
          all_goals try (cases hd; done)
          all_goals try (simp only [Option.map_eq_some_iff, qAg, Prod.mk.injEq, reduceCtorEq, false_and, and_false, exists_false, exists_const] at hd; done)
          all_goals try split at hd
          all_goals try (cases hd; done)
          all_goals try (simp only [Option.map_eq_some_iff, qAg, Prod.mk.injEq, reduceCtorEq, false_and, and_false, exists_false, exists_const] at hd; done)
          all_goals try split at hd
          all_goals try (cases hd; done)
          all_goals try (simp only [Option.map_eq_some_iff, qAg, Prod.mk.injEq, reduceCtorEq, false_and, and_false, exists_false, exists_const] at hd; done)
          all_goals (obtain ⟨en, _, hd⟩ := Option.bind_eq_some_iff.1 hd; simp only at hd; split at hd <;> cases hd)
      obtain ⟨u, v, hcs⟩ := hcs
      have hc1 : cs = #[.iface u v] := by rw [← Array.toList_inj]; exact hcs
      subst hc1
      have hh : ∃ T f, W.heap[g]? = some (.cells #[.iface u v] T f) := by
        simp only [World.var?, hg, Option.bind_some] at hvar
        split at hvar
        · rename_i cs' T f he
          simp only [Option.some.injEq] at hvar
          subst hvar
          exact ⟨T, f, he⟩
        · cases hvar
      obtain ⟨T, f, hh⟩ := hh
      refine ⟨⟨.iface u v, ?_, .inr ⟨u, v, rfl⟩⟩, ?_⟩
      · simp [World.cell?, hh]
      · simp [g0, hh]
    · exact qmp hg hty hct hrest hm
end W

/- The program is what the small semantics runs: the seat's table, shared by its laws. -/
set_option linter.unusedVariables false
set_option linter.unusedSimpArgs false
namespace Go.Proofs.YthaolbkjkigllaaDoor
open Go.ChangeShapes Go.WideShapes Go.ChangeAt Go.RowKit W
set_option maxRecDepth 100000
theorem own : ownKnob Tryd.prog.godebug = none := by kernel_rfl
theorem qtq {H : Type} : Bulk (Rows.uptoBulk (H := H)) Rows.uptoBulkAll :=
  ⟨fun _ => rfl, fun l => by cases l <;> simp [Rows.uptoBulk], rfl, fun _ _ => rfl, fun _ => rfl, rfl, fun _ _ => rfl⟩
def pg0 : W.Pg := ⟨W.prog, fun _ _ _ => none⟩
def maps : Maps := { fm := (List.range 141).map fun i => (i, i), tm := (List.range 155).map fun i => (i, i), gl := [(0, glD 0), (5, glD 5), (6, glD 6), (7, glD 7)], bk := [], gi := [3, 4] }
theorem qzf : qaH maps Tryd.prog { loc := [], org := [], mv := [(16, 0, 0), (16, 1, 0), (5, 2, 0), (5, 0, 0), (5, 1, 0)], bl := [(1, [1, 5, 6, 9, 10]), (0, [6, 9]), (3, [6, 11, 13]), (2, [])], ll := [(0, [1, 5, 6, 9, 10]), (2, [6, 11, 13])], cp := [56] } true Tryd.f5 = some ji := by kernel_rfl
theorem qx0 : qaH maps Tryd.prog { loc := [], org := [], mv := [(3, 1, 0)], bl := [], ll := [] } true Tryd.f11 = some qe7 := by kernel_rfl
theorem qxS : qaH maps Tryd.prog { loc := [], org := [], mv := [(15, 1, 0), (15, 2, 0)], bl := [], ll := [] } true Tryd.f12 = some qcV := by kernel_rfl
theorem qwf : qaH maps Tryd.prog { loc := [9], org := [(9, 9), (49, 9)], mv := [(13, 4, 0), (13, 0, 0), (13, 3, 0), (9, 8, 0), (9, 0, 0), (9, 7, 0), (5, 1, 0), (5, 2, 1)], bl := [(1, [0, 5, 6]), (0, [2, 3, 4])], ll := [(0, [0, 5, 6])] } false Tryd.f15 = some qa1 := by kernel_rfl
theorem qwi : qaH maps Tryd.prog { loc := [5], org := [(5, 5), (21, 5)], mv := [(6, 4, 1), (6, 0, 9), (6, 3, 0), (5, 3, 1), (2, 3, 1)], bl := [(1, [2, 3, 4]), (0, [2, 3])], ll := [(0, [2, 3, 4])] } false Tryd.f16 = some f_scan_All := by kernel_rfl
theorem qw8 : qaH maps Tryd.prog { loc := [], org := [], mv := [(1, 1, 0)], bl := [], ll := [] } true Tryd.f17 = some qgf := by kernel_rfl
theorem qwW : qaH maps Tryd.prog { loc := [], org := [], mv := [(1, 1, 0)], bl := [], ll := [] } true Tryd.f18 = some qbB := by kernel_rfl
theorem qwv : qaH maps Tryd.prog { loc := [], org := [], mv := [(1, 1, 0)], bl := [(1, [0, 3, 4]), (0, [])], ll := [(0, [0, 3, 4])] } true Tryd.f19 = some qbU := by kernel_rfl
theorem qxd : qaH maps Tryd.prog { loc := [], org := [], mv := [(2, 1, 0), (2, 2, 1)], bl := [(1, [0, 5, 6]), (0, [5])], ll := [(0, [0, 5, 6])] } true Tryd.f23 = some qbS := by kernel_rfl
theorem qxD : qaH maps Tryd.prog { loc := [], org := [], mv := [], bl := [(3, [0, 1]), (2, [0, 1]), (6, [0, 1, 6, 7]), (5, [0, 1, 6, 7]), (4, [0, 1]), (1, [0, 1]), (0, [4, 5])], ll := [(0, [0, 1]), (2, [0, 1]), (4, [0, 1, 6, 7])] } false Tryd.f25 = some qcG := by kernel_rfl
theorem qwm : qaH maps Tryd.prog { loc := [4, 8], org := [(4, 4), (8, 8), (47, 8), (50, 8)], mv := [(24, 0, 0), (24, 1, 1), (15, 1, 0), (15, 2, 1), (15, 0, 0), (15, 2, 0), (13, 1, 0), (13, 2, 1), (13, 0, 0), (13, 2, 0), (12, 2, 0), (4, 9, 0), (2, 2, 0)], bl := [(2, [0, 1, 4, 7]), (1, [0, 1, 4, 7]), (0, [0, 1, 4, 6]), (3, [0, 1, 4, 6])], ll := [(1, [0, 1, 4, 7])] } false Tryd.f26 = some f_waferref11_symbol := by kernel_rfl
theorem qxZ : qaH maps Tryd.prog { loc := [3], org := [(3, 3), (16, 3)], mv := [(5, 4, 1)], bl := [], ll := [] } false Tryd.f27 = some f_scan_All_1 := by kernel_rfl
theorem qwo : qaH maps Tryd.prog { loc := [2, 4], org := [(2, 2), (4, 4), (61, 4), (62, 4)], mv := [(4, 2, 1), (12, 2, 1), (11, 2, 0), (10, 2, 1), (9, 10, 0), (8, 2, 1), (7, 10, 0)], bl := [(0, [0, 2, 3, 4])], ll := [] } true Tryd.f28 = some f_scan_scanner_next := by kernel_rfl
theorem qxk : qaH maps Tryd.prog { loc := [], org := [], mv := [(14, 2, 0), (13, 2, 0), (13, 0, 0), (13, 1, 0), (9, 4, 0)], bl := [(1, [0, 3, 4, 5, 6]), (0, [0, 3, 5]), (3, [0, 9, 10, 12]), (2, [0, 9, 10, 12]), (7, [0, 9, 10, 12]), (6, [0, 9, 10, 12]), (5, [0, 9, 10, 11, 12]), (4, [0, 9, 10, 11])], ll := [(0, [0, 3, 4, 5, 6]), (2, [0, 9, 10, 12]), (4, [0, 9, 10, 11, 12]), (6, [0, 9, 10, 12])] } true Tryd.f29 = some qfH := by kernel_rfl
theorem qyn : qaH maps Tryd.prog { loc := [], org := [], mv := [], bl := [], ll := [] } true Tryd.f32 = some yS := by kernel_rfl
theorem qxq : qaH maps Tryd.prog { loc := [], org := [], mv := [(6, 2, 0), (2, 2, 0), (2, 0, 0), (2, 1, 0)], bl := [(0, [0, 3])], ll := [], cp := [79] } true Tryd.f33 = some ku := by kernel_rfl
theorem qxE : qaH maps Tryd.prog { loc := [], org := [], mv := [], bl := [], ll := [] } true Tryd.f34 = some qcv := by kernel_rfl
theorem qwr : qaH maps Tryd.prog { loc := [], org := [], mv := [], bl := [], ll := [] } true Tryd.f35 = some qca := by kernel_rfl
theorem qxG : qaH maps Tryd.prog { loc := [], org := [], mv := [], bl := [], ll := [] } true Tryd.f36 = some qcw := by kernel_rfl
theorem qxU : qaH maps Tryd.prog { loc := [4, 11], org := [(4, 4), (11, 11), (67, 11), (71, 11), (76, 11), (93, 11)], mv := [(23, 3, 1), (13, 4, 1), (5, 5, 0)], bl := [(1, [0, 1, 4, 6, 7, 8, 9]), (0, [0, 1, 4, 6, 7, 8, 9])], ll := [(0, [0, 1, 4, 6, 7, 8, 9])] } false Tryd.f37 = some f_waferref11_number := by kernel_rfl
theorem qx1 : qaH maps Tryd.prog { loc := [4], org := [(4, 4)], mv := [], bl := [(1, [0, 1, 4, 6]), (0, [0, 1, 4, 6])], ll := [(0, [0, 1, 4, 6])] } false Tryd.f38 = some yL := by kernel_rfl
theorem qxX : qaH maps Tryd.prog { loc := [], org := [], mv := [], bl := [(1, [0, 1, 5]), (0, [])], ll := [(0, [0, 1, 5])] } true Tryd.f39 = some qcU := by kernel_rfl
theorem qwg : qaH maps Tryd.prog { loc := [], org := [], mv := [(13, 0, 0), (13, 1, 0), (2, 2, 0)], bl := [(2, [0, 2, 3]), (1, [0, 2, 3]), (0, [2, 3])], ll := [(0, [0, 2, 3])] } false Tryd.f40 = some qbc := by kernel_rfl
theorem qw4 : qaH maps Tryd.prog { loc := [], org := [], mv := [], bl := [], ll := [] } true Tryd.f41 = some qeh := by kernel_rfl
theorem qwE : qaH maps Tryd.prog { loc := [2], org := [(2, 2)], mv := [(5, 3, 0), (4, 0, 0), (4, 1, 0), (2, 2, 0), (2, 0, 0), (2, 1, 0)], bl := [(0, [2, 4])], ll := [] } true Tryd.f42 = some qat := by kernel_rfl
theorem qx2 : qaH maps Tryd.prog { loc := [], org := [], mv := [], bl := [], ll := [] } true Tryd.f43 = some qeS := by kernel_rfl
theorem qwG : qaH maps Tryd.prog { loc := [2], org := [(2, 2)], mv := [(12, 0, 0), (12, 1, 0), (10, 2, 0), (10, 3, 2), (10, 1, 0), (10, 3, 1), (10, 0, 0), (10, 3, 0), (7, 2, 0), (4, 2, 0), (2, 2, 0)], bl := [(0, [2, 3, 4, 5, 6, 7])], ll := [] } true Tryd.f44 = some jJ := by kernel_rfl
theorem qxW : qaH maps Tryd.prog { loc := [], org := [], mv := [(1, 11, 0), (1, 9, 0), (1, 10, 1)], bl := [], ll := [] } true Tryd.f45 = some qcn := by kernel_rfl
theorem qxw : qaH maps Tryd.prog { loc := [2], org := [(2, 2)], mv := [(7, 0, 0), (7, 1, 0), (5, 0, 0), (5, 1, 0), (3, 2, 0)], bl := [(0, [0, 2, 4])], ll := [] } true Tryd.f46 = some qau := by kernel_rfl
theorem qym : qaH maps Tryd.prog { loc := [2], org := [(2, 2)], mv := [], bl := [(1, [0, 2, 5, 6, 7]), (0, [0, 2])], ll := [(0, [0, 2, 5, 6, 7])], cp := [9] } true Tryd.f47 = some jX := by kernel_rfl
theorem qw3 : qaH maps Tryd.prog { loc := [], org := [], mv := [(50, 0, 0), (50, 1, 0), (45, 0, 0), (45, 1, 0), (41, 1, 0), (41, 2, 0), (39, 0, 0), (39, 1, 0), (37, 1, 0), (37, 2, 0), (35, 8, 0), (33, 0, 0), (33, 1, 0), (31, 4, 0), (31, 5, 0), (27, 8, 0), (25, 1, 0), (25, 2, 0), (23, 1, 0), (23, 2, 0), (21, 1, 0), (21, 2, 0), (19, 1, 0), (19, 2, 0), (17, 0, 0), (17, 1, 0), (15, 0, 0), (15, 1, 0), (12, 0, 0), (12, 1, 0), (10, 0, 0), (10, 1, 0), (8, 0, 0), (8, 1, 0), (6, 3, 0), (6, 4, 0), (4, 0, 0), (4, 1, 0)], bl := [(0, [0])], ll := [], cp := [52, 61, 69, 78, 85, 116, 122, 131, 146] } true Tryd.f54 = some qG := by kernel_rfl
theorem qwk : qaH maps Tryd.prog { loc := [], org := [], mv := [(2, 1, 0), (2, 2, 0)], bl := [(0, [0, 3])], ll := [], cp := [12, 38, 89, 96, 103, 109, 119] } true Tryd.f55 = some kC := by kernel_rfl
theorem qxy : qaH maps Tryd.prog { loc := [], org := [], mv := [(11, 2, 0), (2, 2, 0), (2, 0, 0), (2, 1, 0)], bl := [(0, [0, 3])], ll := [], cp := [74, 87, 106, 127, 149] } true Tryd.f56 = some kc := by kernel_rfl
theorem qxI : qaH maps Tryd.prog { loc := [], org := [], mv := [(2, 3, 0), (1, 2, 0)], bl := [(0, [])], ll := [] } true Tryd.f57 = some qaB := by kernel_rfl
theorem qw9 : qaH maps Tryd.prog { loc := [], org := [], mv := [], bl := [], ll := [] } false Tryd.f59 = some qfs := by kernel_rfl
theorem qwL : qaH maps Tryd.prog { loc := [], org := [], mv := [], bl := [(1, [0, 1, 5]), (0, [0, 5])], ll := [(0, [0, 1, 5])] } true Tryd.f60 = some qbR := by kernel_rfl
theorem qx4 : qaH maps Tryd.prog { loc := [], org := [], mv := [(1, 2, 0)], bl := [], ll := [] } true Tryd.f61 = some qeO := by kernel_rfl
theorem qwh : qaH maps Tryd.prog { loc := [], org := [], mv := [(1, 1, 0), (1, 2, 1), (1, 0, 0), (1, 2, 0)], bl := [], ll := [] } true Tryd.f62 = some yj := by kernel_rfl
theorem qyc : qaH maps Tryd.prog { loc := [], org := [], mv := [(1, 2, 0)], bl := [], ll := [] } true Tryd.f63 = some qfW := by kernel_rfl
theorem qyj : qaH maps Tryd.prog { loc := [], org := [], mv := [(3, 7, 0), (3, 4, 0), (3, 5, 4), (3, 3, 0), (3, 5, 3), (3, 2, 0), (3, 5, 2), (3, 1, 0), (3, 5, 1)], bl := [], ll := [] } false Tryd.f64 = some qa5 := by kernel_rfl
theorem qxQ : qaH maps Tryd.prog { loc := [], org := [], mv := [(1, 3, 0), (1, 1, 0), (1, 2, 1), (1, 0, 0), (1, 2, 0)], bl := [], ll := [] } true Tryd.f65 = some qb8 := by kernel_rfl
theorem qxR : qaH maps Tryd.prog { loc := [], org := [], mv := [], bl := [], ll := [] } true Tryd.f66 = some qbE := by kernel_rfl
theorem qxB : qaH maps Tryd.prog { loc := [], org := [], mv := [(1, 1, 0), (1, 2, 0)], bl := [], ll := [], cp := [6] } true Tryd.f69 = some qaE := by kernel_rfl
theorem qxJ : qaH maps Tryd.prog { loc := [], org := [], mv := [(1, 6, 0), (1, 7, 0)], bl := [], ll := [], cp := [11] } true Tryd.f70 = some qbO := by kernel_rfl
theorem qw0 : qaH maps Tryd.prog { loc := [], org := [], mv := [(1, 0, 0), (1, 1, 0)], bl := [(0, [])], ll := [] } true Tryd.f71 = some zA := by kernel_rfl
theorem qwU : qaH maps Tryd.prog { loc := [], org := [], mv := [(1, 1, 0), (1, 2, 0)], bl := [], ll := [], cp := [6] } true Tryd.f72 = some qbY := by kernel_rfl
theorem qxY : qaH maps Tryd.prog { loc := [], org := [], mv := [], bl := [(1, [0, 1, 7, 8]), (0, [])], ll := [(0, [0, 1, 7, 8])] } true Tryd.f74 = some yw := by kernel_rfl
theorem qwt : qaH maps Tryd.prog { loc := [], org := [], mv := [(45, 0, 0), (45, 1, 0)], bl := [(1, [0, 1, 2, 8, 9]), (0, [0, 1, 2, 8, 9]), (2, [0, 1, 2, 8, 9, 10]), (5, [1, 8, 9, 10, 11, 12, 13, 16, 99, 100, 101]), (4, [1, 8, 9, 10, 11, 12, 13, 99, 100, 101]), (3, [9, 12, 13])], ll := [(3, [1, 8, 9, 10, 11, 12, 13, 99, 100, 101])] } false Tryd.f75 = some jQ := by kernel_rfl
theorem qya : qaH maps Tryd.prog { loc := [], org := [], mv := [], bl := [], ll := [] } true Tryd.f77 = some jR := by kernel_rfl
theorem qwx : qaH maps Tryd.prog { loc := [], org := [], mv := [], bl := [], ll := [] } true Tryd.f83 = some qbK := by kernel_rfl
theorem qxf : qaH maps Tryd.prog { loc := [], org := [], mv := [], bl := [], ll := [] } true Tryd.f85 = some qaG := by kernel_rfl
theorem qzO : qwJ Tryd.prog maps pg0 := by
  intro f' i hl fn' hf
  have e : f' = i := qjE hl
  subst e
  unfold pg0 prog at hf
  simp only [qAh] at hf
  by_cases h5 : f' = 5
  · subst h5; simp at hf; subst hf; exact ⟨_, _, _, Tryd.func5, by decide +kernel, qzf⟩
  rw [if_neg (by simpa using h5)] at hf
  by_cases h11 : f' = 11
  · subst h11; simp at hf; subst hf; exact ⟨_, _, _, Tryd.func11, by decide +kernel, qx0⟩
  rw [if_neg (by simpa using h11)] at hf
  by_cases h12 : f' = 12
  · subst h12; simp at hf; subst hf; exact ⟨_, _, _, Tryd.func12, by decide +kernel, qxS⟩
  rw [if_neg (by simpa using h12)] at hf
  by_cases h15 : f' = 15
  · subst h15; simp at hf; subst hf; exact ⟨_, _, _, Tryd.func15, by decide +kernel, qwf⟩
  rw [if_neg (by simpa using h15)] at hf
  by_cases h16 : f' = 16
  · subst h16; simp at hf; subst hf; exact ⟨_, _, _, Tryd.func16, by decide +kernel, qwi⟩
  rw [if_neg (by simpa using h16)] at hf
  by_cases h17 : f' = 17
  · subst h17; simp at hf; subst hf; exact ⟨_, _, _, Tryd.func17, by decide +kernel, qw8⟩
  rw [if_neg (by simpa using h17)] at hf
  by_cases h18 : f' = 18
  · subst h18; simp at hf; subst hf; exact ⟨_, _, _, Tryd.func18, by decide +kernel, qwW⟩
  rw [if_neg (by simpa using h18)] at hf
  by_cases h19 : f' = 19
  · subst h19; simp at hf; subst hf; exact ⟨_, _, _, Tryd.func19, by decide +kernel, qwv⟩
  rw [if_neg (by simpa using h19)] at hf
  by_cases h23 : f' = 23
  · subst h23; simp at hf; subst hf; exact ⟨_, _, _, Tryd.func23, by decide +kernel, qxd⟩
  rw [if_neg (by simpa using h23)] at hf
  by_cases h25 : f' = 25
  · subst h25; simp at hf; subst hf; exact ⟨_, _, _, Tryd.func25, by decide +kernel, qxD⟩
  rw [if_neg (by simpa using h25)] at hf
  by_cases h26 : f' = 26
  · subst h26; simp at hf; subst hf; exact ⟨_, _, _, Tryd.func26, by decide +kernel, qwm⟩
  rw [if_neg (by simpa using h26)] at hf
  by_cases h27 : f' = 27
  · subst h27; simp at hf; subst hf; exact ⟨_, _, _, Tryd.func27, by decide +kernel, qxZ⟩
  rw [if_neg (by simpa using h27)] at hf
  by_cases h28 : f' = 28
  · subst h28; simp at hf; subst hf; exact ⟨_, _, _, Tryd.func28, by decide +kernel, qwo⟩
  rw [if_neg (by simpa using h28)] at hf
  by_cases h29 : f' = 29
  · subst h29; simp at hf; subst hf; exact ⟨_, _, _, Tryd.func29, by decide +kernel, qxk⟩
  rw [if_neg (by simpa using h29)] at hf
  by_cases h32 : f' = 32
  · subst h32; simp at hf; subst hf; exact ⟨_, _, _, Tryd.func32, by decide +kernel, qyn⟩
  rw [if_neg (by simpa using h32)] at hf
  by_cases h33 : f' = 33
  · subst h33; simp at hf; subst hf; exact ⟨_, _, _, Tryd.func33, by decide +kernel, qxq⟩
  rw [if_neg (by simpa using h33)] at hf
  by_cases h34 : f' = 34
  · subst h34; simp at hf; subst hf; exact ⟨_, _, _, Tryd.func34, by decide +kernel, qxE⟩
  rw [if_neg (by simpa using h34)] at hf
  by_cases h35 : f' = 35
  · subst h35; simp at hf; subst hf; exact ⟨_, _, _, Tryd.func35, by decide +kernel, qwr⟩
  rw [if_neg (by simpa using h35)] at hf
  by_cases h36 : f' = 36
  · subst h36; simp at hf; subst hf; exact ⟨_, _, _, Tryd.func36, by decide +kernel, qxG⟩
  rw [if_neg (by simpa using h36)] at hf
  by_cases h37 : f' = 37
  · subst h37; simp at hf; subst hf; exact ⟨_, _, _, Tryd.func37, by decide +kernel, qxU⟩
  rw [if_neg (by simpa using h37)] at hf
  by_cases h38 : f' = 38
  · subst h38; simp at hf; subst hf; exact ⟨_, _, _, Tryd.func38, by decide +kernel, qx1⟩
  rw [if_neg (by simpa using h38)] at hf
  by_cases h39 : f' = 39
  · subst h39; simp at hf; subst hf; exact ⟨_, _, _, Tryd.func39, by decide +kernel, qxX⟩
  rw [if_neg (by simpa using h39)] at hf
  by_cases h40 : f' = 40
  · subst h40; simp at hf; subst hf; exact ⟨_, _, _, Tryd.func40, by decide +kernel, qwg⟩
  rw [if_neg (by simpa using h40)] at hf
  by_cases h41 : f' = 41
  · subst h41; simp at hf; subst hf; exact ⟨_, _, _, Tryd.func41, by decide +kernel, qw4⟩
  rw [if_neg (by simpa using h41)] at hf
  by_cases h42 : f' = 42
  · subst h42; simp at hf; subst hf; exact ⟨_, _, _, Tryd.func42, by decide +kernel, qwE⟩
  rw [if_neg (by simpa using h42)] at hf
  by_cases h43 : f' = 43
  · subst h43; simp at hf; subst hf; exact ⟨_, _, _, Tryd.func43, by decide +kernel, qx2⟩
  rw [if_neg (by simpa using h43)] at hf
  by_cases h44 : f' = 44
  · subst h44; simp at hf; subst hf; exact ⟨_, _, _, Tryd.func44, by decide +kernel, qwG⟩
  rw [if_neg (by simpa using h44)] at hf
  by_cases h45 : f' = 45
  · subst h45; simp at hf; subst hf; exact ⟨_, _, _, Tryd.func45, by decide +kernel, qxW⟩
  rw [if_neg (by simpa using h45)] at hf
  by_cases h46 : f' = 46
  · subst h46; simp at hf; subst hf; exact ⟨_, _, _, Tryd.func46, by decide +kernel, qxw⟩
  rw [if_neg (by simpa using h46)] at hf
  by_cases h47 : f' = 47
  · subst h47; simp at hf; subst hf; exact ⟨_, _, _, Tryd.func47, by decide +kernel, qym⟩
  rw [if_neg (by simpa using h47)] at hf
  by_cases h54 : f' = 54
  · subst h54; simp at hf; subst hf; exact ⟨_, _, _, Tryd.func54, by decide +kernel, qw3⟩
  rw [if_neg (by simpa using h54)] at hf
  by_cases h55 : f' = 55
  · subst h55; simp at hf; subst hf; exact ⟨_, _, _, Tryd.func55, by decide +kernel, qwk⟩
  rw [if_neg (by simpa using h55)] at hf
  by_cases h56 : f' = 56
  · subst h56; simp at hf; subst hf; exact ⟨_, _, _, Tryd.func56, by decide +kernel, qxy⟩
  rw [if_neg (by simpa using h56)] at hf
  by_cases h57 : f' = 57
  · subst h57; simp at hf; subst hf; exact ⟨_, _, _, Tryd.func57, by decide +kernel, qxI⟩
  rw [if_neg (by simpa using h57)] at hf
  by_cases h59 : f' = 59
  · subst h59; simp at hf; subst hf; exact ⟨_, _, _, Tryd.func59, by decide +kernel, qw9⟩
  rw [if_neg (by simpa using h59)] at hf
  by_cases h60 : f' = 60
  · subst h60; simp at hf; subst hf; exact ⟨_, _, _, Tryd.func60, by decide +kernel, qwL⟩
  rw [if_neg (by simpa using h60)] at hf
  by_cases h61 : f' = 61
  · subst h61; simp at hf; subst hf; exact ⟨_, _, _, Tryd.func61, by decide +kernel, qx4⟩
  rw [if_neg (by simpa using h61)] at hf
  by_cases h62 : f' = 62
  · subst h62; simp at hf; subst hf; exact ⟨_, _, _, Tryd.func62, by decide +kernel, qwh⟩
  rw [if_neg (by simpa using h62)] at hf
  by_cases h63 : f' = 63
  · subst h63; simp at hf; subst hf; exact ⟨_, _, _, Tryd.func63, by decide +kernel, qyc⟩
  rw [if_neg (by simpa using h63)] at hf
  by_cases h64 : f' = 64
  · subst h64; simp at hf; subst hf; exact ⟨_, _, _, Tryd.func64, by decide +kernel, qyj⟩
  rw [if_neg (by simpa using h64)] at hf
  by_cases h65 : f' = 65
  · subst h65; simp at hf; subst hf; exact ⟨_, _, _, Tryd.func65, by decide +kernel, qxQ⟩
  rw [if_neg (by simpa using h65)] at hf
  by_cases h66 : f' = 66
  · subst h66; simp at hf; subst hf; exact ⟨_, _, _, Tryd.func66, by decide +kernel, qxR⟩
  rw [if_neg (by simpa using h66)] at hf
  by_cases h69 : f' = 69
  · subst h69; simp at hf; subst hf; exact ⟨_, _, _, Tryd.func69, by decide +kernel, qxB⟩
  rw [if_neg (by simpa using h69)] at hf
  by_cases h70 : f' = 70
  · subst h70; simp at hf; subst hf; exact ⟨_, _, _, Tryd.func70, by decide +kernel, qxJ⟩
  rw [if_neg (by simpa using h70)] at hf
  by_cases h71 : f' = 71
  · subst h71; simp at hf; subst hf; exact ⟨_, _, _, Tryd.func71, by decide +kernel, qw0⟩
  rw [if_neg (by simpa using h71)] at hf
  by_cases h72 : f' = 72
  · subst h72; simp at hf; subst hf; exact ⟨_, _, _, Tryd.func72, by decide +kernel, qwU⟩
  rw [if_neg (by simpa using h72)] at hf
  by_cases h74 : f' = 74
  · subst h74; simp at hf; subst hf; exact ⟨_, _, _, Tryd.func74, by decide +kernel, qxY⟩
  rw [if_neg (by simpa using h74)] at hf
  by_cases h75 : f' = 75
  · subst h75; simp at hf; subst hf; exact ⟨_, _, _, Tryd.func75, by decide +kernel, qwt⟩
  rw [if_neg (by simpa using h75)] at hf
  by_cases h77 : f' = 77
  · subst h77; simp at hf; subst hf; exact ⟨_, _, _, Tryd.func77, by decide +kernel, qya⟩
  rw [if_neg (by simpa using h77)] at hf
  by_cases h83 : f' = 83
  · subst h83; simp at hf; subst hf; exact ⟨_, _, _, Tryd.func83, by decide +kernel, qwx⟩
  rw [if_neg (by simpa using h83)] at hf
  by_cases h85 : f' = 85
  · subst h85; simp at hf; subst hf; exact ⟨_, _, _, Tryd.func85, by decide +kernel, qxf⟩
  rw [if_neg (by simpa using h85)] at hf
  cases hf
theorem qva : qms Tryd.prog maps := qnN rfl
theorem tab : Tab Tryd.prog maps pg0 := ⟨qzO, qva⟩
theorem qzq : Tab Tryd.prog maps W.pgA := ⟨fun f' i hl fn' hf => tab.1 f' i hl fn' (by
  unfold W.pgA at hf
  simp only [qAh] at hf
  split at hf
  · cases hf
  · split at hf
    · cases hf
    · exact hf), tab.2⟩
theorem qzj : Tab Tryd.prog maps W.pg := ⟨fun f' i hl fn' hf => tab.1 f' i hl fn' (by
  unfold W.pg at hf
  simp only [qAh] at hf
  split at hf
  · cases hf
  · split at hf
    · cases hf
    · split at hf
      · cases hf
      · exact hf), tab.2⟩
theorem ixC : IxC Tryd.prog 58 := fun s c w => Tryd.strings_IndexByte s c w
theorem teS : TeC Tryd.prog 76 3 2 := fun fn s base bits ev w h1 h2 h3 => (Tryd.toError_syntax fn s base bits ev w h1 h2 h3).mono (by rintro e w' ⟨N, q1, _, _, q2⟩; exact ⟨N, q1, q2⟩)
theorem teR : TeC Tryd.prog 76 4 1 := fun fn s base bits ev w h1 h2 h3 => (Tryd.toError_range fn s base bits ev w h1 h2 h3).mono (by rintro e w' ⟨N, q1, _, _, q2⟩; exact ⟨N, q1, q2⟩)
theorem qul {g : Gh} {w : World} {vs : List V} {H : List W.Obj} {r : Cr} (h : ixX vs H = some r) {argv : List Value} (ha : ArgsRep maps g w 0 vs argv) (hH : RelH maps g w H) : qos Tryd.prog 58 argv.toArray w (yc maps g w r) := by
  have hs : Tryd.f58.body.isSome = true := by kernel_rfl
  obtain ⟨c, hc⟩ := Option.isSome_iff_exists.1 hs
  exact qtn ixC Tryd.func58 (by decide +kernel) hc h ha hH
theorem qtV {g : Gh} {w : World} {vs : List V} {H : List W.Obj} {r : Cr} (h : teX vs H = some r) {argv : List Value} (ha : ArgsRep maps g w 0 vs argv) (hH : RelH maps g w H) : qos Tryd.prog 76 argv.toArray w (yc maps g w r) := by
  have hs : Tryd.f76.body.isSome = true := by kernel_rfl
  obtain ⟨c, hc⟩ := Option.isSome_iff_exists.1 hs
  exact qsQ teS teR (by simp [maps]) (by simp [maps]) (by decide +kernel) (fun t' ht => qjE ht) Tryd.func76 (by decide +kernel) hc h ha hH
theorem qrr : qbD Tryd.prog maps W.pgA.ext := by
  intro i vs H r h f' hl g w argv ha hH
  have e : f' = i := qjE hl
  subst e
  unfold W.pgA at h
  simp only [qAh] at h
  split at h
  · rename_i hb
    have e2 : f' = 58 := by simpa using hb
    subst e2
    exact qul h ha hH
  · split at h
    · rename_i hb
      have e2 : f' = 76 := by simpa using hb
      subst e2
      exact qtV h ha hH
    · cases h
theorem qsF : qbD Tryd.prog maps W.pg.ext := by
  intro i vs H r h f' hl g w argv ha hH
  have e : f' = i := qjE hl
  subst e
  unfold W.pg at h
  simp only [qAh] at h
  split at h
  · rename_i hb
    have e2 : f' = 58 := by simpa using hb
    subst e2
    exact qul h ha hH
  · split at h
    · rename_i hb
      have e2 : f' = 76 := by simpa using hb
      subst e2
      exact qtV h ha hH
    · split at h
      · rename_i hb
        have e2 : f' = 17 := by simpa using hb
        subst e2
        unfold kwX at h
        split at h
        · cases h
          cases ha
          obtain ⟨lo, hk⟩ := qmY qpz qvj
          obtain ⟨n, hn⟩ := qdo.1 hk
          exact qqG (sound (by kernel_rfl) qzq qrr qpz n) hn hl hH
        · cases h
      · cases h
end Go.Proofs.YthaolbkjkigllaaDoor

