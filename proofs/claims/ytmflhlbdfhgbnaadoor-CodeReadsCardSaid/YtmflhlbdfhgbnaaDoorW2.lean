/-
  CodeReads: any bytes are the list that the document reads from them, or are refused: part 2 of what the proof rests on (a value semantics for a part of the language, sound against the model; the walks).
-/
import Derived.Calls
import Derived.Orders
import Derived.Laws.Cells
import Derived.Laws.AppendOwn
import Derived.Test.YtmflhlbdfhgbnaaDoorW1
set_option linter.unusedVariables false
open Bool renaming false_eq_true → qvA, and_eq_true → qvB, cond_eq_ite → qvD, or_true → qvK, and_self → qvL, not_true → qvN, or_self → qvR
open Nat renaming le_refl → qvC, zero_add → qvF, beq → qvG, eq_of_beq_eq_true → qvJ
open Option renaming bind_eq_some_iff → qvE, map_some → qvH, bind_eq_bind → qvI, pure_def → qvO
open List renaming map_cons → qvM, length_cons → qvP, length_nil → qvQ, getElem?_cons_zero → qvS, map_nil → qvT
namespace W
def glD (n : Nat) : D :=
  bif qvG n 0 then qeS else
  bif qvG n 2 then qb0 else
  bif qvG n 3 then qdi else
  bif qvG n 4 then qc7 else .nil
def qd6 : Fn := ⟨0, [], false, .ops [⟨some 0, .call (.f 1) [], none⟩], none, none⟩
def qeg : C := (.seq ((.seq (.ops [⟨some 19, .mov (.t 4), none⟩, ⟨some 20, .mov (.t 0), none⟩, ⟨some 21, .bi .lenL [.t 20], none⟩, ⟨some 22, .bin .lss .num (.t 19) (.t 21), none⟩]) ((.cond (.t 22) (.skip) (.exit 0))))) ((.seq ((.block 1 [0, 3, 4] ((.seq (.opsD [(⟨some 25, .mov (.t 0), none⟩, false, [5]), (⟨some 26, .mov (.t 4), none⟩, false, [5]), (⟨some 27, .indexAddr (.t 25) (.t 26) 2 none, none⟩, false, [5]), (⟨some 28, .fieldAddr (.t 27) 0 ⟨1, false⟩, none⟩, false, [5]), (⟨some 29, .load false none ⟨1, false⟩ (.t 28), none⟩, false, [5]), (⟨some 30, .call (.f 7) [.t 29, (.c (.i .i64 34))], none⟩, false, [5]), (⟨some 31, .mov (.t 0), none⟩, false, [5]), (⟨some 32, .mov (.t 4), none⟩, false, [5]), (⟨some 33, .indexAddr (.t 31) (.t 32) 2 none, none⟩, false, [5]), (⟨some 34, .fieldAddr (.t 33) 1 ⟨1, false⟩, none⟩, false, [5]), (⟨some 35, .load false none ⟨1, false⟩ (.t 34), none⟩, false, [5]), (⟨some 36, .build [(.i .i64 0), (.i .i32 0)] [(0, 1, (.t 30)), (1, 1, (.t 35))], none⟩, false, [5]), (⟨some 5, .alloc true [(.i .i64 0), (.i .i32 0)], none⟩, false, [5]), (⟨none, .store (some 5) ⟨2, true⟩ (.t 5) (.t 36), none⟩, true, [])]) ((.seq ((.seq (.ops [⟨some 37, .fieldAddr (.t 5) 0 ⟨1, false⟩, none⟩, ⟨some 38, .load false (some 5) ⟨1, false⟩ (.t 37), none⟩, ⟨some 39, .call (.f 8) [.t 38], none⟩, ⟨some 40, .un .not (.t 39), none⟩]) ((.cond (.t 40) (.ops [⟨some 41, .fieldAddr (.t 5) 1 ⟨1, false⟩, none⟩, ⟨none, .store (some 5) ⟨1, false⟩ (.t 41) (.c (.i .i32 0)), none⟩]) (.skip))))) (.ops [⟨some 42, .mov (.mv 3), none⟩, ⟨some 43, .load false (some 5) ⟨2, true⟩ (.t 5), none⟩, ⟨some 44, .buildSlice (.agg [(.i .i64 0), (.i .i32 0)]) 1 [(0, (.t 43))], none⟩, ⟨some 45, .bi (.append 2 16) [.mv 42, (.t 44)], none⟩, ⟨some 3, .mov (.mv 45), none⟩]))))))) (.ops [⟨some 23, .mov (.t 4), none⟩, ⟨some 24, .bin .add .num (.t 23) (.c (.i .i64 1)), none⟩, ⟨some 4, .mov (.t 24), none⟩]))))
def qec : C := .loop [0, 3, 4] qeg
def qd4 : C := (.seq (.ops [⟨some 51, .bin .lss .num (.t 50) (.t 49), none⟩]) ((.seq ((.cond (.t 51) (.skip) (.exit 2))) ((.seq ((.block 3 [48, 49, 50] ((.seq (.ops [⟨some 52, .indexAddr (.t 48) (.t 50) 1 none, none⟩,
 ⟨some 53, .loadC ⟨1, false⟩ (.t 52), none⟩,
 ⟨some 7, .mov (.t 53), none⟩]) ((.seq (.ops [⟨some 55, .mov (.t 7), none⟩,
 ⟨some 56, .call (.f 9) [.t 55], none⟩,
 ⟨some 54, .mov (.t 56), none⟩,
 ⟨some 57, .extract (.t 54) 0, none⟩,
 ⟨some 58, .extract (.t 54) 1, none⟩,
 ⟨some 8, .mov (.t 57), none⟩,
 ⟨some 9, .mov (.t 58), none⟩]) ((.seq (.ops [⟨some 60, .mov (.t 7), none⟩,
 ⟨some 61, .call (.f 10) [.t 60], none⟩,
 ⟨some 59, .mov (.t 61), none⟩,
 ⟨some 62, .extract (.t 59) 0, none⟩,
 ⟨some 63, .extract (.t 59) 1, none⟩,
 ⟨some 10, .mov (.t 62), none⟩,
 ⟨some 11, .mov (.t 63), none⟩]) ((.seq ((.seq (.ops [⟨some 64, .mov (.t 9), none⟩,
 ⟨some 65, .bin .eql .num (.t 64) (.c (.i .i64 0)), none⟩,
 ⟨some 66, .mov (.t 11), none⟩,
 ⟨some 67, .bin .neq .bool (.t 65) (.t 66), none⟩,
 ⟨some 68, .mov (.t 67), none⟩,
 ⟨some 69, .mov (.t 11), some (68, false)⟩,
 ⟨some 70, .un .not (.t 69), some (68, false)⟩,
 ⟨some 71, .mov (.t 70), some (68, false)⟩,
 ⟨some 72, .mov (.t 9), some (71, true)⟩,
 ⟨some 73, .bin .neq .num (.t 72) (.c (.i .i64 23)), some (71, true)⟩,
 ⟨some 74, .mov (.t 73), some (71, true)⟩,
 ⟨some 75, .mov (.t 8), some (74, false)⟩,
 ⟨some 76, .bi .lenL [.t 75], some (74, false)⟩,
 ⟨some 77, .bin .neq .num (.t 76) (.c (.i .i64 0)), some (74, false)⟩,
 ⟨some 78, .pick (.t 74) (.c (.b true)) (.t 77), some (71, true)⟩,
 ⟨some 79, .pick (.t 71) (.t 78) (.c (.b false)), some (68, false)⟩,
 ⟨some 80, .pick (.t 68) (.c (.b true)) (.t 79), none⟩,
 ⟨some 81, .mov (.t 80), none⟩,
 ⟨some 82, .mov (.t 11), some (81, false)⟩,
 ⟨some 83, .mov (.t 82), some (81, false)⟩,
 ⟨some 84, .mov (.t 8), some (83, true)⟩,
 ⟨some 85, .text (.t 84), some (83, true)⟩,
 ⟨some 86, .mov (.t 10), some (83, true)⟩,
 ⟨some 87, .text (.t 86), some (83, true)⟩,
 ⟨some 88, .bin .neq .num (.t 85) (.t 87), some (83, true)⟩,
 ⟨some 89, .pick (.t 83) (.t 88) (.c (.b false)), some (81, false)⟩,
 ⟨some 90, .pick (.t 81) (.c (.b true)) (.t 89), none⟩]) ((.cond (.t 90) ((.seq (.ops [⟨some 2, .mov (.c (.b false)), none⟩]) (.ret))) (.skip))))) ((.seq (.ops [⟨some 91, .mov (.t 11), none⟩]) ((.cond (.t 91) ((.seq (.ops [⟨some 93, .mov (.mv 8), none⟩,
 ⟨some 94, .call (.f 11) [.mv 93], none⟩,
 ⟨some 92, .mov (.t 94), none⟩,
 ⟨some 95, .extract (.t 92) 0, none⟩,
 ⟨some 96, .extract (.t 92) 1, none⟩,
 ⟨some 12, .mov (.t 95), none⟩,
 ⟨some 13, .mov (.t 96), none⟩]) ((.seq (.ops [⟨some 97, .mov (.t 13), none⟩,
 ⟨some 98, .bin .neq .num (.t 97) (.c (.i .i64 0)), none⟩,
 ⟨some 99, .mov (.t 98), none⟩,
 ⟨some 100, .mov (.t 7), some (99, false)⟩,
 ⟨some 101, .mov (.t 12), some (99, false)⟩,
 ⟨some 102, .call (.f 12) [.t 100, (.t 101)], some (99, false)⟩,
 ⟨some 103, .un .not (.t 102), some (99, false)⟩,
 ⟨some 104, .pick (.t 99) (.c (.b true)) (.t 103), none⟩]) ((.cond (.t 104) ((.seq (.ops [⟨some 2, .mov (.c (.b false)), none⟩]) (.ret))) (.skip))))))) (.skip))))))))))))))) (.ops [⟨some 105, .bin .add .num (.t 50) (.c (.i .i64 1)), none⟩,
 ⟨some 50, .mov (.t 105), none⟩]))))))
def qdZ : C := .loop [48, 49, 50] qd4
def qel : C := (.seq (.ops [⟨some 2, .mov (.c (.b true)), none⟩]) (.ret))
def qdR : C := (.seq ((.seq (.ops [⟨some 46, .mov (.t 0), none⟩, ⟨some 47, .mov (.t 3), none⟩, ⟨some 48, .buildSlice .nil 2 [(0, (.t 46)), (1, (.t 47))], none⟩, ⟨some 49, .bi .lenL [.t 48], none⟩, ⟨some 50, .mov (.c (.i .i64 0)), none⟩]) ((.block 2 [] (qdZ))))) (qel))
def qcx : Fn := ⟨1, [.t 2], true, (.seq (.ops [⟨some 2, .mov (.c (.b false)), none⟩]) ((.seq ((.seq (.ops [⟨some 14, .call (.f 6) [], none⟩, ⟨some 15, .un .not (.t 14), none⟩]) ((.cond (.t 15) ((.seq (.ops [⟨some 2, .mov (.c (.b false)), none⟩]) (.ret))) (.skip))))) ((.seq ((.seq (.ops [⟨some 16, .mov (.t 0), none⟩, ⟨some 17, .bi .lenL [.t 16], none⟩, ⟨some 18, .bin .gtr .num (.t 17) (.c (.i .i64 60)), none⟩]) ((.cond (.t 18) ((.seq (.ops [⟨some 2, .mov (.c (.b true)), none⟩]) (.ret))) (.skip))))) ((.seq (.ops [⟨some 3, .mov (.c .nil), none⟩]) ((.seq ((.seq (.ops [⟨some 4, .mov (.c (.i .i64 0)), none⟩]) ((.block 0 [0, 3] (qec))))) (qdR)))))))))), none, none⟩
def zD : C := (.seq (.ops [⟨some 51, .bin .lss .num (.t 50) (.t 49), none⟩]) ((.seq ((.cond (.t 51) (.skip) (.exit 0))) ((.seq ((.block 1 [48, 49, 50] ((.seq (.ops [⟨some 52, .indexAddr (.t 48) (.t 50) 1 none, none⟩,
 ⟨some 53, .loadC ⟨1, false⟩ (.t 52), none⟩,
 ⟨some 12, .mov (.t 53), none⟩]) ((.seq (.ops [⟨some 55, .mov (.t 12), none⟩,
 ⟨some 56, .call (.f 11) [.t 55], none⟩,
 ⟨some 54, .mov (.t 56), none⟩,
 ⟨some 57, .extract (.t 54) 0, none⟩,
 ⟨some 58, .extract (.t 54) 1, none⟩,
 ⟨some 13, .mov (.t 57), none⟩,
 ⟨some 14, .mov (.t 58), none⟩]) ((.seq (.ops [⟨some 60, .mov (.mv 12), none⟩,
 ⟨some 61, .call (.f 13) [.mv 60], none⟩,
 ⟨some 59, .mov (.t 61), none⟩,
 ⟨some 62, .extract (.t 59) 0, none⟩,
 ⟨some 63, .extract (.t 59) 1, none⟩,
 ⟨some 15, .mov (.t 62), none⟩,
 ⟨some 16, .mov (.t 63), none⟩]) ((.seq ((.seq (.ops [⟨some 64, .mov (.t 16), none⟩,
 ⟨some 65, .un .not (.t 64), none⟩]) ((.cond (.t 65) (.ops [⟨some 15, .mov (.c .nil), none⟩]) (.skip))))) ((.seq (.ops [⟨some 66, .mov (.t 14), none⟩,
 ⟨some 67, .bin .eql .num (.t 66) (.c (.i .i64 0)), none⟩,
 ⟨some 68, .mov (.t 16), none⟩,
 ⟨some 69, .bin .neq .bool (.t 67) (.t 68), none⟩,
 ⟨some 70, .mov (.t 69), none⟩,
 ⟨some 71, .mov (.t 16), some (70, false)⟩,
 ⟨some 72, .un .not (.t 71), some (70, false)⟩,
 ⟨some 73, .mov (.t 72), some (70, false)⟩,
 ⟨some 74, .mov (.t 14), some (73, true)⟩,
 ⟨some 75, .bin .neq .num (.t 74) (.c (.i .i64 20)), some (73, true)⟩,
 ⟨some 76, .pick (.t 73) (.t 75) (.c (.b false)), some (70, false)⟩,
 ⟨some 77, .pick (.t 70) (.c (.b true)) (.t 76), none⟩,
 ⟨some 78, .mov (.t 77), none⟩,
 ⟨some 79, .mov (.t 13), some (78, false)⟩,
 ⟨some 80, .mov (.t 15), some (78, false)⟩,
 ⟨some 81, .call (.f 12) [.t 79, (.t 80)], some (78, false)⟩,
 ⟨some 82, .un .not (.t 81), some (78, false)⟩,
 ⟨some 83, .pick (.t 78) (.c (.b true)) (.t 82), none⟩]) ((.cond (.t 83) ((.seq (.ops [⟨some 8, .mov (.c (.b false)), none⟩]) (.ret))) (.skip))))))))))))))) (.ops [⟨some 84, .bin .add .num (.t 50) (.c (.i .i64 1)), none⟩,
 ⟨some 50, .mov (.t 84), none⟩]))))))
def zB : C := .loop [48, 49, 50] zD
noncomputable def kP (pg : Pg) (v48 v49 v50 : V) (H : List Obj) (lo : Nat) : Option (Ex × St) := exL pg zB ⟨[(48, v48), (49, v49), (50, v50)], H, lo⟩
theorem zX {pg : Pg} {e : Env} {H : List Obj} {lo : Nat} : exL pg zB ⟨e, H, lo⟩ = kP pg (kG (get 48 e)) (kG (get 49 e)) (kG (get 50 e)) H lo := qdx
theorem qaq {pg : Pg} {v48 v49 v50 : V} {H : List Obj} {lo : Nat} : kP pg v48 v49 v50 H lo = qc6 pg (exL pg zD ⟨[(48, kG v48), (49, kG v49), (50, kG v50)], H, lo⟩) zB := by
  unfold kP zB; rw [qa6]; simp only [qP, qO, qr, qs, Nat.reduceEqDiff]
def yr : C := (.seq (.ops [⟨some 8, .mov (.c (.b true)), none⟩]) (.ret))
def zi : Fn := ⟨4, [.t 8], true, (.seq (.ops [⟨some 8, .mov (.c (.b false)), none⟩]) ((.seq ((.seq (.ops [⟨some 17, .call (.f 6) [], none⟩,
 ⟨some 18, .un .not (.t 17), none⟩]) ((.cond (.t 18) ((.seq (.ops [⟨some 8, .mov (.c (.b false)), none⟩]) (.ret))) (.skip))))) ((.seq ((.seq (.ops [⟨some 19, .mov (.t 0), none⟩,
 ⟨some 20, .bi .lenL [.t 19], none⟩,
 ⟨some 21, .bin .gtr .num (.t 20) (.c (.i .i64 200)), none⟩,
 ⟨some 22, .mov (.t 21), none⟩,
 ⟨some 23, .mov (.t 1), some (22, false)⟩,
 ⟨some 24, .bi .lenL [.t 23], some (22, false)⟩,
 ⟨some 25, .bin .gtr .num (.t 24) (.c (.i .i64 40)), some (22, false)⟩,
 ⟨some 26, .pick (.t 22) (.c (.b true)) (.t 25), none⟩]) ((.cond (.t 26) ((.seq (.ops [⟨some 8, .mov (.c (.b true)), none⟩]) (.ret))) (.skip))))) ((.seq (.ops [⟨some 28, .mov (.mv 1), none⟩,
 ⟨some 29, .call (.f 10) [.mv 28], none⟩,
 ⟨some 27, .mov (.t 29), none⟩,
 ⟨some 30, .extract (.t 27) 0, none⟩,
 ⟨some 31, .extract (.t 27) 1, none⟩,
 ⟨some 9, .mov (.t 30), none⟩,
 ⟨some 10, .mov (.t 31), none⟩]) ((.seq ((.seq (.ops [⟨some 32, .mov (.t 9), none⟩,
 ⟨some 33, .bi .lenL [.t 32], none⟩,
 ⟨some 34, .bin .gtr .num (.t 33) (.c (.i .i64 0)), none⟩]) ((.cond (.t 34) (.ops [⟨some 35, .mov (.t 9), none⟩,
 ⟨some 36, .mov (.t 2), none⟩,
 ⟨some 37, .conv .i64 (.t 36), none⟩,
 ⟨some 38, .mov (.t 9), none⟩,
 ⟨some 39, .bi .lenL [.t 38], none⟩,
 ⟨some 40, .bin .rem .num (.t 37) (.t 39), none⟩,
 ⟨some 41, .indexAddr (.t 35) (.t 40) 1 none, none⟩,
 ⟨some 42, .load false none ⟨1, false⟩ (.t 41), none⟩,
 ⟨some 43, .mov (.t 3), none⟩,
 ⟨some 44, .bin .xor .num (.t 42) (.t 43), none⟩,
 ⟨some 45, .indexAddr (.t 35) (.t 40) 1 none, none⟩,
 ⟨none, .store none ⟨1, false⟩ (.t 45) (.t 44), none⟩]) (.skip))))) ((.seq ((.seq (.ops [⟨none, .fz 9, none⟩,
 ⟨some 46, .mov (.t 0), none⟩,
 ⟨some 47, .mov (.t 9), none⟩,
 ⟨some 48, .buildSlice .nil 2 [(0, (.t 46)), (1, (.t 47))], none⟩,
 ⟨some 49, .bi .lenL [.t 48], none⟩,
 ⟨some 50, .mov (.c (.i .i64 0)), none⟩]) ((.block 0 [] (zB))))) (yr)))))))))))), none, none⟩
def qdH : C := (.seq (.ops [⟨some 23, .bin .lss .num (.t 22) (.t 21), none⟩]) ((.seq ((.cond (.t 23) (.skip) (.exit 0))) ((.seq ((.block 1 [2, 5, 20, 21, 22] ((.seq (.ops [⟨some 24, .indexAddr (.t 20) (.t 22) 2 none, none⟩, ⟨some 25, .loadC ⟨2, true⟩ (.t 24), none⟩, ⟨some 7, .alloc true [(.i .i64 0), (.i .i32 0)], none⟩, ⟨none, .store (some 7) ⟨2, true⟩ (.t 7) (.t 25), none⟩]) ((.seq (.opsD [(⟨some 26, .load false (some 7) ⟨2, true⟩ (.t 7), none⟩, false, []), (⟨some 27, .call (.f 14) [.t 26], none⟩, true, []), (⟨some 28, .load false (some 7) ⟨2, true⟩ (.t 7), none⟩, false, []), (⟨some 29, .call (.f 15) [.t 28], none⟩, true, []), (⟨some 30, .bin .neq .num (.t 27) (.t 29), none⟩, true, [])]) ((.cond (.t 30) ((.seq (.ops [⟨some 4, .mov (.c (.b false)), none⟩]) (.ret))) (.skip))))))))) (.ops [⟨some 31, .bin .add .num (.t 22) (.c (.i .i64 1)), none⟩, ⟨some 22, .mov (.t 31), none⟩]))))))
def qdK : C := .loop [2, 5, 20, 21, 22] qdH
def qdF : C := (.seq (.opsD [(⟨some 32, .fieldAddr (.t 2) 0 ⟨1, false⟩, none⟩, false, []), (⟨some 33, .load false (some 2) ⟨1, false⟩ (.t 32), none⟩, false, []), (⟨some 34, .call (.f 16) [.t 33], none⟩, true, []), (⟨some 35, .fieldAddr (.t 2) 0 ⟨1, false⟩, none⟩, false, []), (⟨some 36, .load false (some 2) ⟨1, false⟩ (.t 35), none⟩, false, []), (⟨some 37, .call (.f 8) [.t 36], none⟩, true, []), (⟨some 38, .bin .eql .bool (.t 34) (.t 37), none⟩, true, []), (⟨some 39, .mov (.t 38), none⟩, true, []), (⟨some 40, .mov (.t 5), some (39, true)⟩, false, []), (⟨some 41, .call (.f 16) [.t 40], some (39, true)⟩, true, []), (⟨some 42, .mov (.t 5), some (39, true)⟩, false, []), (⟨some 43, .call (.f 8) [.t 42], some (39, true)⟩, true, []), (⟨some 44, .bin .eql .bool (.t 41) (.t 43), some (39, true)⟩, true, []), (⟨some 45, .pick (.t 39) (.t 44) (.c (.b false)), none⟩, true, []), (⟨some 4, .mov (.t 45), none⟩, true, [])]) (.ret))
def qb4 : Fn := ⟨2, [.t 4], true, (.seq (.ops [⟨some 2, .box true (.t 0), none⟩, ⟨some 4, .mov (.c (.b false)), none⟩]) ((.seq ((.seq (.ops [⟨some 8, .call (.f 6) [], none⟩, ⟨some 9, .un .not (.t 8), none⟩]) ((.cond (.t 9) ((.seq (.ops [⟨some 4, .mov (.c (.b false)), none⟩]) (.ret))) (.skip))))) ((.seq (.ops [⟨some 10, .mov (.t 1), none⟩, ⟨some 11, .conv .i64 (.t 10), none⟩, ⟨some 12, .bin .rem .num (.t 11) (.c (.i .i64 37)), none⟩, ⟨some 5, .mov (.t 12), none⟩]) ((.seq ((.seq (.ops [⟨some 13, .load false (some 2) ⟨2, true⟩ (.t 2), none⟩, ⟨some 14, .mov (.t 5), none⟩, ⟨some 15, .build [(.i .i64 0), (.i .i32 0)] [(0, 1, (.t 14))], none⟩, ⟨some 16, .mov (.t 5), none⟩, ⟨some 17, .fieldAddr (.t 2) 1 ⟨1, false⟩, none⟩, ⟨some 18, .load false (some 2) ⟨1, false⟩ (.t 17), none⟩, ⟨some 19, .build [(.i .i64 0), (.i .i32 0)] [(0, 1, (.t 16)), (1, 1, (.t 18))], none⟩, ⟨some 20, .buildSlice (.agg [(.i .i64 0), (.i .i32 0)]) 3 [(0, (.t 13)), (1, (.t 15)), (2, (.t 19))], none⟩, ⟨some 21, .bi .lenL [.t 20], none⟩, ⟨some 22, .mov (.c (.i .i64 0)), none⟩]) ((.block 0 [2, 5] (qdK))))) (qdF)))))))), none, none⟩
def qdB : Fn := ⟨0, [.t 0], true, (.seq (.ops [⟨some 0, .mov (.c (.b false)), none⟩]) ((.seq (.ops [⟨some 8, .build [(.i .i64 0), (.i .i32 0)] [(0, 1, (.c (.i .i64 1))), (1, 1, (.c (.i .i32 1)))], none⟩,
 ⟨some 9, .build [(.i .i64 0), (.i .i32 0)] [(0, 1, (.c (.i .i64 0)))], none⟩,
 ⟨some 10, .buildSlice (.agg [(.i .i64 0), (.i .i32 0)]) 2 [(0, (.t 8)), (1, (.t 9))], none⟩,
 ⟨some 11, .call (.f 9) [.t 10], none⟩,
 ⟨some 7, .mov (.t 11), none⟩,
 ⟨some 12, .extract (.t 7) 0, none⟩,
 ⟨some 13, .extract (.t 7) 1, none⟩,
 ⟨some 1, .mov (.t 12), none⟩,
 ⟨some 2, .mov (.t 13), none⟩]) ((.seq (.ops [⟨some 15, .mov (.t 1), none⟩,
 ⟨some 16, .call (.f 11) [.t 15], none⟩,
 ⟨some 14, .mov (.t 16), none⟩,
 ⟨some 17, .extract (.t 14) 0, none⟩,
 ⟨some 18, .extract (.t 14) 1, none⟩,
 ⟨some 3, .mov (.t 17), none⟩,
 ⟨some 4, .mov (.t 18), none⟩]) ((.seq (.ops [⟨some 20, .build [(.i .i64 0), (.i .i32 0)] [(0, 1, (.c (.i .i64 34)))], none⟩,
 ⟨some 21, .buildSlice (.agg [(.i .i64 0), (.i .i32 0)]) 1 [(0, (.t 20))], none⟩,
 ⟨some 22, .call (.f 9) [.t 21], none⟩,
 ⟨some 19, .mov (.t 22), none⟩,
 ⟨some 23, .extract (.t 19) 0, none⟩,
 ⟨some 24, .extract (.t 19) 1, none⟩,
 ⟨some 5, .mov (.t 23), none⟩,
 ⟨some 6, .mov (.t 24), none⟩]) ((.seq (.ops [⟨some 25, .mov (.t 1), none⟩,
 ⟨some 26, .text (.t 25), none⟩,
 ⟨some 27, .bin .eql .num (.t 26) (.c (.s [2, 1, 2, 0])), none⟩,
 ⟨some 28, .mov (.t 27), none⟩,
 ⟨some 29, .mov (.t 2), some (28, true)⟩,
 ⟨some 30, .bin .eql .num (.t 29) (.c (.i .i64 0)), some (28, true)⟩,
 ⟨some 31, .pick (.t 28) (.t 30) (.c (.b false)), none⟩,
 ⟨some 32, .mov (.t 31), none⟩,
 ⟨some 33, .mov (.t 3), some (32, true)⟩,
 ⟨some 34, .bi .lenL [.t 33], some (32, true)⟩,
 ⟨some 35, .bin .eql .num (.t 34) (.c (.i .i64 2)), some (32, true)⟩,
 ⟨some 36, .pick (.t 32) (.t 35) (.c (.b false)), none⟩,
 ⟨some 37, .mov (.t 36), none⟩,
 ⟨some 38, .mov (.t 4), some (37, true)⟩,
 ⟨some 39, .bin .eql .num (.t 38) (.c (.i .i64 0)), some (37, true)⟩,
 ⟨some 40, .pick (.t 37) (.t 39) (.c (.b false)), none⟩,
 ⟨some 41, .mov (.t 40), none⟩,
 ⟨some 42, .mov (.t 6), some (41, true)⟩,
 ⟨some 43, .bin .eql .num (.t 42) (.c (.i .i64 23)), some (41, true)⟩,
 ⟨some 44, .pick (.t 41) (.t 43) (.c (.b false)), none⟩,
 ⟨some 45, .mov (.t 44), none⟩,
 ⟨some 46, .call (.f 16) [(.c (.i .i64 1))], some (45, true)⟩,
 ⟨some 47, .pick (.t 45) (.t 46) (.c (.b false)), none⟩,
 ⟨some 48, .mov (.t 47), none⟩,
 ⟨some 49, .call (.f 16) [(.c (.i .i64 0))], some (48, true)⟩,
 ⟨some 50, .un .not (.t 49), some (48, true)⟩,
 ⟨some 51, .pick (.t 48) (.t 50) (.c (.b false)), none⟩,
 ⟨some 52, .mov (.t 51), none⟩,
 ⟨some 53, .build [(.i .i64 0), (.i .i32 0)] [(0, 1, (.c (.i .i64 1))), (1, 1, (.c (.i .i32 1)))], some (52, true)⟩,
 ⟨some 54, .call (.f 14) [.t 53], some (52, true)⟩,
 ⟨some 55, .bin .eql .num (.t 54) (.c (.s [80, 117, 115, 104, 32, 49])), some (52, true)⟩,
 ⟨some 56, .pick (.t 52) (.t 55) (.c (.b false)), none⟩,
 ⟨some 0, .mov (.t 56), none⟩]) (.ret)))))))))), none, none⟩
def qdv : Fn := ⟨2, [.t 4], true, (.seq (.ops [⟨some 4, .mov (.c (.i .i64 0)), none⟩]) ((.seq (.ops [⟨some 5, .mov (.t 0), none⟩, ⟨some 6, .mov (.t 1), none⟩, ⟨some 7, .bin .rem .num (.t 5) (.t 6), none⟩, ⟨some 0, .mov (.t 7), none⟩]) ((.seq ((.seq (.ops [⟨some 8, .mov (.t 0), none⟩, ⟨some 9, .bin .lss .num (.t 8) (.c (.i .i64 0)), none⟩]) ((.cond (.t 9) (.ops [⟨some 10, .mov (.t 0), none⟩, ⟨some 11, .mov (.t 1), none⟩, ⟨some 12, .bin .add .num (.t 10) (.t 11), none⟩, ⟨some 0, .mov (.t 12), none⟩]) (.skip))))) ((.seq (.ops [⟨some 13, .mov (.t 0), none⟩, ⟨some 4, .mov (.t 13), none⟩]) (.ret)))))))), none, none⟩
def kM : Fn := ⟨1, [.t 2], true, (.seq (.ops [⟨some 2, .mov (.c (.b false)), none⟩]) ((.seq ((.seq (.ops [⟨some 3, .mov (.t 0), none⟩]) ((.block 0 [] ((.seq ((.seq (.ops [⟨some 5, .bin .eql .num (.t 3) (.c (.i .i64 1)), none⟩, ⟨some 4, .mov (.t 5), none⟩]) ((.cond (.t 4) (.skip) ((.seq (.ops [⟨some 6, .bin .eql .num (.t 3) (.c (.i .i64 5)), none⟩, ⟨some 4, .mov (.t 6), none⟩]) ((.cond (.t 4) (.skip) ((.seq (.ops [⟨some 7, .bin .eql .num (.t 3) (.c (.i .i64 8)), none⟩, ⟨some 4, .mov (.t 7), none⟩]) ((.cond (.t 4) (.skip) ((.seq (.ops [⟨some 8, .bin .eql .num (.t 3) (.c (.i .i64 25)), none⟩, ⟨some 4, .mov (.t 8), none⟩]) ((.cond (.t 4) (.skip) ((.seq (.ops [⟨some 9, .bin .eql .num (.t 3) (.c (.i .i64 26)), none⟩, ⟨some 4, .mov (.t 9), none⟩]) ((.cond (.t 4) (.skip) ((.seq (.ops [⟨some 10, .bin .eql .num (.t 3) (.c (.i .i64 27)), none⟩, ⟨some 4, .mov (.t 10), none⟩]) ((.cond (.t 4) (.skip) ((.seq (.ops [⟨some 11, .bin .eql .num (.t 3) (.c (.i .i64 28)), none⟩, ⟨some 4, .mov (.t 11), none⟩]) ((.cond (.t 4) (.skip) (.ops [⟨some 12, .bin .eql .num (.t 3) (.c (.i .i64 30)), none⟩, ⟨some 4, .mov (.t 12), none⟩]))))))))))))))))))))))))))))) ((.cond (.t 4) ((.seq (.ops [⟨some 2, .mov (.c (.b true)), none⟩]) (.ret))) (.skip))))))))) ((.seq (.ops [⟨some 2, .mov (.c (.b false)), none⟩]) (.ret)))))), none, none⟩
def qhR : C := (.seq (.ops [⟨some 14, .bin .lss .num (.t 13) (.t 12), none⟩]) ((.seq ((.cond (.t 14) (.skip) (.exit 0))) ((.seq ((.block 1 [4, 11, 12, 13] ((.seq (.ops [⟨some 15, .indexAddr (.t 11) (.t 13) 2 none, none⟩, ⟨some 16, .load false none ⟨2, true⟩ (.t 15), none⟩, ⟨some 6, .alloc true [(.i .i64 0), (.i .i32 0)], none⟩, ⟨none, .store (some 6) ⟨2, true⟩ (.t 6) (.t 16), none⟩]) ((.seq ((.seq (.ops [⟨some 17, .load false (some 6) ⟨2, true⟩ (.t 6), none⟩, ⟨some 18, .call (.f 18) [.t 17], none⟩, ⟨some 19, .un .not (.t 18), none⟩]) ((.cond (.t 19) ((.seq (.ops [⟨some 2, .mov (.c .nil), none⟩, ⟨some 3, .mov (.c (.i .i64 23)), none⟩]) (.ret))) (.skip))))) ((.seq (.ops [⟨some 20, .mov (.mv 4), none⟩, ⟨some 21, .fieldAddr (.t 6) 0 ⟨1, false⟩, none⟩, ⟨some 22, .load false (some 6) ⟨1, false⟩ (.t 21), none⟩, ⟨some 23, .conv .u8 (.t 22), none⟩, ⟨some 24, .buildSlice (.i .u8 0) 1 [(0, (.t 23))], none⟩, ⟨some 25, .bi (.append 1 1) [.mv 20, (.t 24)], none⟩, ⟨some 4, .mov (.mv 25), none⟩]) ((.seq (.ops [⟨some 26, .fieldAddr (.t 6) 0 ⟨1, false⟩, none⟩, ⟨some 27, .load false (some 6) ⟨1, false⟩ (.t 26), none⟩, ⟨some 28, .call (.f 16) [.t 27], none⟩]) ((.cond (.t 28) (.ops [⟨some 29, .mov (.mv 4), none⟩, ⟨some 30, .fieldAddr (.t 6) 1 ⟨1, false⟩, none⟩, ⟨some 31, .load false (some 6) ⟨1, false⟩ (.t 30), none⟩, ⟨some 32, .conv .i64 (.t 31), none⟩, ⟨some 33, .call (.f 19) [.mv 29, (.t 32)], none⟩, ⟨some 4, .mov (.mv 33), none⟩]) (.skip))))))))))))) (.ops [⟨some 34, .bin .add .num (.t 13) (.c (.i .i64 1)), none⟩, ⟨some 13, .mov (.t 34), none⟩]))))))
def qhY : C := .loop [4, 11, 12, 13] qhR
def qhu : C := (.seq (.ops [⟨some 35, .mov (.t 4), none⟩, ⟨some 2, .mov (.t 35), none⟩, ⟨some 3, .mov (.c (.i .i64 0)), none⟩]) (.ret))
def qfV : Fn := ⟨1, [.t 2, (.t 3)], false, (.seq (.ops [⟨some 2, .mov (.c .nil), none⟩, ⟨some 3, .mov (.c (.i .i64 0)), none⟩]) ((.seq (.ops [⟨some 7, .mov (.t 0), none⟩, ⟨some 8, .bi .lenL [.t 7], none⟩, ⟨some 9, .conv .u64 (.t 8), none⟩, ⟨some 10, .call (.f 17) [(.c .nil), (.t 9)], none⟩, ⟨some 4, .mov (.mv 10), none⟩]) ((.seq ((.seq (.ops [⟨some 11, .mov (.t 0), none⟩, ⟨some 12, .bi .lenL [.t 11], none⟩, ⟨some 13, .mov (.c (.i .i64 0)), none⟩]) ((.block 0 [4] (qhY))))) (qhu)))))), none, none⟩
def kX : C := (.seq ((.seq (.ops [⟨some 10, .mov (.t 5), none⟩, ⟨some 11, .mov (.t 0), none⟩, ⟨some 12, .bi .lenL [.t 11], none⟩, ⟨some 13, .bin .lss .num (.t 10) (.t 12), none⟩]) ((.cond (.t 13) (.skip) (.exit 0))))) ((.seq ((.block 1 [0, 4, 5] ((.seq ((.seq (.ops [⟨some 16, .mov (.t 0), none⟩, ⟨some 17, .mov (.t 5), none⟩, ⟨some 18, .indexAddr (.t 16) (.t 17) 2 none, none⟩, ⟨some 19, .load false none ⟨2, true⟩ (.t 18), none⟩, ⟨some 20, .call (.f 21) [.t 19], none⟩, ⟨some 21, .un .not (.t 20), none⟩]) ((.cond (.t 21) ((.seq (.ops [⟨some 2, .mov (.c .nil), none⟩, ⟨some 3, .mov (.c (.b false)), none⟩]) (.ret))) (.skip))))) ((.seq (.ops [⟨some 22, .mov (.mv 4), none⟩, ⟨some 23, .mov (.t 0), none⟩, ⟨some 24, .mov (.t 5), none⟩, ⟨some 25, .indexAddr (.t 23) (.t 24) 2 none, none⟩, ⟨some 26, .fieldAddr (.t 25) 0 ⟨1, false⟩, none⟩, ⟨some 27, .load false none ⟨1, false⟩ (.t 26), none⟩, ⟨some 28, .conv .u8 (.t 27), none⟩, ⟨some 29, .buildSlice (.i .u8 0) 1 [(0, (.t 28))], none⟩, ⟨some 30, .appendR ⟨1, false⟩ 1 (.t 22) (.t 29), none⟩, ⟨some 4, .mov (.mv 30), none⟩]) ((.seq (.ops [⟨some 31, .mov (.t 0), none⟩, ⟨some 32, .mov (.t 5), none⟩, ⟨some 33, .indexAddr (.t 31) (.t 32) 2 none, none⟩, ⟨some 34, .fieldAddr (.t 33) 0 ⟨1, false⟩, none⟩, ⟨some 35, .load false none ⟨1, false⟩ (.t 34), none⟩, ⟨some 36, .call (.f 8) [.t 35], none⟩]) ((.cond (.t 36) (.ops [⟨some 37, .mov (.mv 4), none⟩, ⟨some 38, .mov (.t 0), none⟩, ⟨some 39, .mov (.t 5), none⟩, ⟨some 40, .indexAddr (.t 38) (.t 39) 2 none, none⟩, ⟨some 41, .fieldAddr (.t 40) 1 ⟨1, false⟩, none⟩, ⟨some 42, .load false none ⟨1, false⟩ (.t 41), none⟩, ⟨some 43, .conv .i64 (.t 42), none⟩, ⟨some 44, .call (.f 22) [.t 43], none⟩, ⟨some 45, .call (.f 20) [.mv 37, (.t 44)], none⟩, ⟨some 4, .mov (.mv 45), none⟩]) (.skip))))))))))) (.ops [⟨some 14, .mov (.t 5), none⟩, ⟨some 15, .bin .add .num (.t 14) (.c (.i .i64 1)), none⟩, ⟨some 5, .mov (.t 15), none⟩]))))
def zq : C := .loop [0, 4, 5] kX
noncomputable def zt (pg : Pg) (v0 v4 v5 : V) (H : List Obj) (lo : Nat) : Option (Ex × St) := exL pg zq ⟨[(0, v0), (4, v4), (5, v5)], H, lo⟩
theorem zH {pg : Pg} {e : Env} {H : List Obj} {lo : Nat} : exL pg zq ⟨e, H, lo⟩ = zt pg (kG (get 0 e)) (kG (get 4 e)) (kG (get 5 e)) H lo := qdx
theorem zF {pg : Pg} {v0 v4 v5 : V} {H : List Obj} {lo : Nat} : zt pg v0 v4 v5 H lo = qc6 pg (exL pg kX ⟨[(0, kG v0), (4, kG v4), (5, kG v5)], H, lo⟩) zq := by
  unfold zt zq; rw [qa6]; simp only [qP, qO, qr, qs, Nat.reduceEqDiff]
def qaX : C := (.seq (.ops [⟨some 46, .mov (.t 4), none⟩, ⟨some 2, .mov (.t 46), none⟩, ⟨some 3, .mov (.c (.b true)), none⟩]) (.ret))
def zZ : Fn := ⟨1, [.t 2, (.t 3)], false, (.seq (.ops [⟨some 2, .mov (.c .nil), none⟩, ⟨some 3, .mov (.c (.b false)), none⟩]) ((.seq (.ops [⟨some 6, .mov (.t 0), none⟩, ⟨some 7, .bi .lenL [.t 6], none⟩, ⟨some 8, .conv .u64 (.t 7), none⟩, ⟨some 9, .call (.f 20) [(.c .nil), (.t 8)], none⟩, ⟨some 4, .mov (.mv 9), none⟩]) ((.seq ((.seq (.ops [⟨some 5, .mov (.c (.i .i64 0)), none⟩]) ((.block 0 [4] (zq))))) (qaX)))))), none, none⟩
def yH : C := (.seq (.ops [⟨some 27, .bin .lss .num (.t 26) (.t 25), none⟩]) ((.seq ((.cond (.t 27) (.skip) (.exit 0))) ((.seq ((.block 1 [0, 5, 7, 25, 26] ((.seq (.ops [⟨some 29, .mov (.t 0), none⟩, ⟨some 30, .mov (.t 5), none⟩, ⟨some 31, .sliceL 1 (.t 29) (some (.t 30)) none, none⟩, ⟨some 32, .call (.f 24) [.t 31], none⟩, ⟨some 28, .mov (.t 32), none⟩, ⟨some 33, .extract (.t 28) 0, none⟩, ⟨some 34, .extract (.t 28) 1, none⟩, ⟨some 8, .alloc true [(.i .i64 0), (.i .i32 0)], none⟩, ⟨none, .store (some 8) ⟨2, true⟩ (.t 8) (.t 33), none⟩, ⟨some 9, .mov (.t 34), none⟩]) ((.seq ((.seq (.ops [⟨some 35, .mov (.t 9), none⟩, ⟨some 36, .bin .eql .num (.t 35) (.c (.i .i64 0)), none⟩]) ((.cond (.t 36) ((.seq (.ops [⟨some 2, .mov (.c .nil), none⟩, ⟨some 3, .mov (.c (.i .i64 20)), none⟩]) (.ret))) (.skip))))) ((.seq (.ops [⟨some 37, .mov (.mv 7), none⟩, ⟨some 38, .load false (some 8) ⟨2, true⟩ (.t 8), none⟩, ⟨some 39, .buildSlice (.agg [(.i .i64 0), (.i .i32 0)]) 1 [(0, (.t 38))], none⟩, ⟨some 40, .bi (.append 2 16) [.mv 37, (.t 39)], none⟩, ⟨some 7, .mov (.mv 40), none⟩]) (.ops [⟨some 41, .mov (.t 5), none⟩, ⟨some 42, .mov (.t 9), none⟩, ⟨some 43, .bin .add .num (.t 41) (.t 42), none⟩, ⟨some 5, .mov (.t 43), none⟩]))))))))) (.ops [⟨some 44, .bin .add .num (.t 26) (.c (.i .u64 1)), none⟩, ⟨some 26, .mov (.t 44), none⟩]))))))
def yF : C := .loop [0, 5, 7, 25, 26] yH
noncomputable def je (pg : Pg) (v0 v5 v7 v25 v26 : V) (H : List Obj) (lo : Nat) : Option (Ex × St) := exL pg yF ⟨[(0, v0), (5, v5), (7, v7), (25, v25), (26, v26)], H, lo⟩
theorem yA {pg : Pg} {e : Env} {H : List Obj} {lo : Nat} : exL pg yF ⟨e, H, lo⟩ = je pg (kG (get 0 e)) (kG (get 5 e)) (kG (get 7 e)) (kG (get 25 e)) (kG (get 26 e)) H lo := qdx
theorem qa1 {pg : Pg} {v0 v5 v7 v25 v26 : V} {H : List Obj} {lo : Nat} : je pg v0 v5 v7 v25 v26 H lo = qc6 pg (exL pg yH ⟨[(0, kG v0), (5, kG v5), (7, kG v7), (25, kG v25), (26, kG v26)], H, lo⟩) yF := by
  unfold je yF; rw [qa6]; simp only [qP, qO, qr, qs, Nat.reduceEqDiff]
def qce : C := (.seq ((.seq (.ops [⟨some 45, .mov (.t 5), none⟩, ⟨some 46, .mov (.t 0), none⟩, ⟨some 47, .bi .lenL [.t 46], none⟩, ⟨some 48, .bin .neq .num (.t 45) (.t 47), none⟩]) ((.cond (.t 48) ((.seq (.ops [⟨some 2, .mov (.c .nil), none⟩, ⟨some 3, .mov (.c (.i .i64 20)), none⟩]) (.ret))) (.skip))))) ((.seq (.ops [⟨some 49, .mov (.t 7), none⟩, ⟨some 2, .mov (.t 49), none⟩, ⟨some 3, .mov (.c (.i .i64 0)), none⟩]) (.ret))))
def jP : Fn := ⟨1, [.t 2, (.t 3)], false, (.seq (.ops [⟨some 2, .mov (.c .nil), none⟩, ⟨some 3, .mov (.c (.i .i64 0)), none⟩]) ((.seq (.ops [⟨some 11, .mov (.t 0), none⟩, ⟨some 12, .call (.f 23) [.t 11], none⟩, ⟨some 10, .mov (.t 12), none⟩, ⟨some 13, .extract (.t 10) 0, none⟩, ⟨some 14, .extract (.t 10) 1, none⟩, ⟨some 15, .extract (.t 10) 2, none⟩, ⟨some 4, .mov (.t 13), none⟩, ⟨some 5, .mov (.t 14), none⟩, ⟨some 6, .mov (.t 15), none⟩]) ((.seq ((.seq (.ops [⟨some 16, .mov (.t 6), none⟩, ⟨some 17, .un .not (.t 16), none⟩, ⟨some 18, .mov (.t 17), none⟩, ⟨some 19, .mov (.t 4), some (18, false)⟩, ⟨some 20, .mov (.t 0), some (18, false)⟩, ⟨some 21, .bi .lenL [.t 20], some (18, false)⟩, ⟨some 22, .conv .u64 (.t 21), some (18, false)⟩, ⟨some 23, .bin .gtr .num (.t 19) (.t 22), some (18, false)⟩, ⟨some 24, .pick (.t 18) (.c (.b true)) (.t 23), none⟩]) ((.cond (.t 24) ((.seq (.ops [⟨some 2, .mov (.c .nil), none⟩, ⟨some 3, .mov (.c (.i .i64 20)), none⟩]) (.ret))) (.skip))))) ((.seq (.ops [⟨some 7, .mov (.c .nil), none⟩]) ((.seq ((.seq (.ops [⟨some 25, .mov (.t 4), none⟩, ⟨some 26, .mov (.c (.i .u64 0)), none⟩]) ((.block 0 [0, 5, 7] (yF))))) (qce)))))))))), none, none⟩
def yj : C := (.seq ((.seq (.ops [⟨some 11, .mov (.t 5), none⟩, ⟨some 12, .mov (.t 0), none⟩, ⟨some 13, .bi .lenL [.t 12], none⟩, ⟨some 14, .bin .lss .num (.t 11) (.t 13), none⟩]) ((.cond (.t 14) (.skip) (.exit 0))))) ((.seq ((.block 1 [0, 1, 5] ((.seq (.opsD [(⟨some 17, .mov (.t 0), none⟩, false, []), (⟨some 18, .mov (.t 5), none⟩, false, []), (⟨some 19, .indexAddr (.t 17) (.t 18) 2 none, none⟩, false, []), (⟨some 20, .load false none ⟨2, true⟩ (.t 19), none⟩, false, []), (⟨some 21, .mov (.t 1), none⟩, false, []), (⟨some 22, .mov (.t 5), none⟩, false, []), (⟨some 23, .indexAddr (.t 21) (.t 22) 2 none, none⟩, false, []), (⟨some 24, .load false none ⟨2, true⟩ (.t 23), none⟩, false, []), (⟨some 25, .bin .neq (.agg [1, 1]) (.t 20) (.t 24), none⟩, true, [])]) ((.cond (.t 25) ((.seq (.ops [⟨some 4, .mov (.c (.b false)), none⟩]) (.ret))) (.skip))))))) (.ops [⟨some 15, .mov (.t 5), none⟩, ⟨some 16, .bin .add .num (.t 15) (.c (.i .i64 1)), none⟩, ⟨some 5, .mov (.t 16), none⟩]))))
def jj : C := .loop [0, 1, 5] yj
noncomputable def yi (pg : Pg) (v0 v1 v5 : V) (H : List Obj) (lo : Nat) : Option (Ex × St) := exL pg jj ⟨[(0, v0), (1, v1), (5, v5)], H, lo⟩
theorem qbx {pg : Pg} {e : Env} {H : List Obj} {lo : Nat} : exL pg jj ⟨e, H, lo⟩ = yi pg (kG (get 0 e)) (kG (get 1 e)) (kG (get 5 e)) H lo := qdx
theorem qbw {pg : Pg} {v0 v1 v5 : V} {H : List Obj} {lo : Nat} : yi pg v0 v1 v5 H lo = qc6 pg (exL pg yj ⟨[(0, kG v0), (1, kG v1), (5, kG v5)], H, lo⟩) jj := by
  unfold yi jj; rw [qa6]; simp only [qP, qO, qr, qs, Nat.reduceEqDiff]
def qcq : C := (.seq (.ops [⟨some 4, .mov (.c (.b true)), none⟩]) (.ret))
def qar : Fn := ⟨2, [.t 4], true, (.seq (.ops [⟨some 4, .mov (.c (.b false)), none⟩]) ((.seq ((.seq (.ops [⟨some 6, .mov (.t 0), none⟩, ⟨some 7, .bi .lenL [.t 6], none⟩, ⟨some 8, .mov (.t 1), none⟩, ⟨some 9, .bi .lenL [.t 8], none⟩, ⟨some 10, .bin .neq .num (.t 7) (.t 9), none⟩]) ((.cond (.t 10) ((.seq (.ops [⟨some 4, .mov (.c (.b false)), none⟩]) (.ret))) (.skip))))) ((.seq ((.seq (.ops [⟨some 5, .mov (.c (.i .i64 0)), none⟩]) ((.block 0 [] (jj))))) (qcq)))))), none, none⟩
def kn : C := (.seq ((.seq (.ops [⟨some 32, .mov (.t 8), none⟩,
 ⟨some 33, .mov (.t 4), none⟩,
 ⟨some 34, .conv .i64 (.t 33), none⟩,
 ⟨some 35, .bin .lss .num (.t 32) (.t 34), none⟩]) ((.cond (.t 35) (.skip) (.exit 0))))) ((.seq ((.block 1 [0, 4, 7, 8] ((.seq ((.seq (.ops [⟨some 38, .mov (.t 0), none⟩,
 ⟨some 39, .bi .lenL [.t 38], none⟩,
 ⟨some 40, .bin .eql .num (.t 39) (.c (.i .i64 0)), none⟩,
 ⟨some 41, .mov (.t 40), none⟩,
 ⟨some 42, .mov (.t 0), some (41, false)⟩,
 ⟨some 43, .indexAddr (.t 42) (.c (.i .i64 0)) 1 none, some (41, false)⟩,
 ⟨some 44, .load false none ⟨1, false⟩ (.t 43), some (41, false)⟩,
 ⟨some 45, .conv .i64 (.t 44), some (41, false)⟩,
 ⟨some 46, .bin .geq .num (.t 45) (.c (.i .i64 34)), some (41, false)⟩,
 ⟨some 47, .pick (.t 41) (.c (.b true)) (.t 46), none⟩]) ((.cond (.t 47) ((.seq (.ops [⟨some 2, .mov (.c .nil), none⟩,
 ⟨some 3, .mov (.c (.b false)), none⟩]) (.ret))) (.skip))))) ((.seq (.ops [⟨some 48, .mov (.t 0), none⟩,
 ⟨some 49, .indexAddr (.t 48) (.c (.i .i64 0)) 1 none, none⟩,
 ⟨some 50, .load false none ⟨1, false⟩ (.t 49), none⟩,
 ⟨some 51, .conv .i64 (.t 50), none⟩,
 ⟨some 52, .build [(.i .i64 0), (.i .i32 0)] [(0, 1, (.t 51))], none⟩,
 ⟨some 9, .alloc true [(.i .i64 0), (.i .i32 0)], none⟩,
 ⟨none, .store (some 9) ⟨2, true⟩ (.t 9) (.t 52), none⟩]) ((.seq (.ops [⟨some 53, .mov (.t 0), none⟩,
 ⟨some 54, .sliceL 1 (.t 53) (some (.c (.i .i64 1))) none, none⟩,
 ⟨some 0, .mov (.t 54), none⟩]) ((.seq ((.seq (.ops [⟨some 55, .fieldAddr (.t 9) 0 ⟨1, false⟩, none⟩,
 ⟨some 56, .load false (some 9) ⟨1, false⟩ (.t 55), none⟩,
 ⟨some 57, .call (.f 8) [.t 56], none⟩]) ((.cond (.t 57) ((.seq (.ops [⟨some 59, .mov (.t 0), none⟩,
 ⟨some 60, .call (.f 25) [.t 59], none⟩,
 ⟨some 58, .mov (.t 60), none⟩,
 ⟨some 61, .extract (.t 58) 0, none⟩,
 ⟨some 62, .extract (.t 58) 1, none⟩,
 ⟨some 63, .extract (.t 58) 2, none⟩,
 ⟨some 10, .mov (.t 61), none⟩,
 ⟨some 11, .mov (.t 62), none⟩,
 ⟨some 12, .mov (.t 63), none⟩]) ((.seq (.ops [⟨some 64, .mov (.mv 10), none⟩,
 ⟨some 65, .call (.f 26) [.mv 64], none⟩,
 ⟨some 13, .mov (.mv 65), none⟩]) ((.seq ((.seq (.ops [⟨some 66, .mov (.t 12), none⟩,
 ⟨some 67, .un .not (.t 66), none⟩,
 ⟨some 68, .mov (.t 67), none⟩,
 ⟨some 69, .mov (.t 13), some (68, false)⟩,
 ⟨some 70, .mov (.t 13), some (68, false)⟩,
 ⟨some 71, .conv .i32 (.t 70), some (68, false)⟩,
 ⟨some 72, .conv .i64 (.t 71), some (68, false)⟩,
 ⟨some 73, .bin .neq .num (.t 69) (.t 72), some (68, false)⟩,
 ⟨some 74, .pick (.t 68) (.c (.b true)) (.t 73), none⟩]) ((.cond (.t 74) ((.seq (.ops [⟨some 2, .mov (.c .nil), none⟩,
 ⟨some 3, .mov (.c (.b false)), none⟩]) (.ret))) (.skip))))) ((.seq (.ops [⟨some 75, .mov (.t 13), none⟩,
 ⟨some 76, .conv .i32 (.t 75), none⟩,
 ⟨some 77, .fieldAddr (.t 9) 1 ⟨1, false⟩, none⟩,
 ⟨none, .store (some 9) ⟨1, false⟩ (.t 77) (.mv 76), none⟩]) (.ops [⟨some 78, .mov (.t 0), none⟩,
 ⟨some 79, .mov (.t 11), none⟩,
 ⟨some 80, .sliceL 1 (.t 78) (some (.t 79)) none, none⟩,
 ⟨some 0, .mov (.t 80), none⟩]))))))))) (.skip))))) (.ops [⟨some 81, .mov (.mv 7), none⟩,
 ⟨some 82, .load false (some 9) ⟨2, true⟩ (.t 9), none⟩,
 ⟨some 83, .buildSlice (.agg [(.i .i64 0), (.i .i32 0)]) 1 [(0, (.t 82))], none⟩,
 ⟨some 84, .bi (.append 2 16) [.mv 81, (.t 83)], none⟩,
 ⟨some 7, .mov (.mv 84), none⟩]))))))))))) (.ops [⟨some 36, .mov (.t 8), none⟩,
 ⟨some 37, .bin .add .num (.t 36) (.c (.i .i64 1)), none⟩,
 ⟨some 8, .mov (.t 37), none⟩]))))
def zu : C := .loop [0, 4, 7, 8] kn
noncomputable def qV (pg : Pg) (v0 v4 v7 v8 : V) (H : List Obj) (lo : Nat) : Option (Ex × St) := exL pg zu ⟨[(0, v0), (4, v4), (7, v7), (8, v8)], H, lo⟩
theorem ze {pg : Pg} {e : Env} {H : List Obj} {lo : Nat} : exL pg zu ⟨e, H, lo⟩ = qV pg (kG (get 0 e)) (kG (get 4 e)) (kG (get 7 e)) (kG (get 8 e)) H lo := qdx
theorem kA {pg : Pg} {v0 v4 v7 v8 : V} {H : List Obj} {lo : Nat} : qV pg v0 v4 v7 v8 H lo = qc6 pg (exL pg kn ⟨[(0, kG v0), (4, kG v4), (7, kG v7), (8, kG v8)], H, lo⟩) zu := by
  unfold qV zu; rw [qa6]; simp only [qP, qO, qr, qs, Nat.reduceEqDiff]
def j7 : C := (.seq (.ops [⟨some 85, .mov (.t 7), none⟩, ⟨some 86, .mov (.t 0), none⟩, ⟨some 87, .bi .lenL [.t 86], none⟩, ⟨some 88, .bin .eql .num (.t 87) (.c (.i .i64 0)), none⟩, ⟨some 2, .mov (.t 85), none⟩, ⟨some 3, .mov (.t 88), none⟩]) (.ret))
def kO : Fn := ⟨1, [.t 2, (.t 3)], false, (.seq (.ops [⟨some 2, .mov (.c .nil), none⟩, ⟨some 3, .mov (.c (.b false)), none⟩]) ((.seq (.ops [⟨some 15, .mov (.t 0), none⟩, ⟨some 16, .call (.f 25) [.t 15], none⟩, ⟨some 14, .mov (.t 16), none⟩, ⟨some 17, .extract (.t 14) 0, none⟩, ⟨some 18, .extract (.t 14) 1, none⟩, ⟨some 19, .extract (.t 14) 2, none⟩, ⟨some 4, .mov (.t 17), none⟩, ⟨some 5, .mov (.t 18), none⟩, ⟨some 6, .mov (.t 19), none⟩]) ((.seq ((.seq (.ops [⟨some 20, .mov (.t 6), none⟩, ⟨some 21, .un .not (.t 20), none⟩, ⟨some 22, .mov (.t 21), none⟩, ⟨some 23, .mov (.t 4), some (22, false)⟩, ⟨some 24, .mov (.t 0), some (22, false)⟩, ⟨some 25, .bi .lenL [.t 24], some (22, false)⟩, ⟨some 26, .conv .u64 (.t 25), some (22, false)⟩, ⟨some 27, .bin .gtr .num (.t 23) (.t 26), some (22, false)⟩, ⟨some 28, .pick (.t 22) (.c (.b true)) (.t 27), none⟩]) ((.cond (.t 28) ((.seq (.ops [⟨some 2, .mov (.c .nil), none⟩, ⟨some 3, .mov (.c (.b false)), none⟩]) (.ret))) (.skip))))) ((.seq (.ops [⟨some 29, .mov (.t 0), none⟩, ⟨some 30, .mov (.t 5), none⟩, ⟨some 31, .sliceL 1 (.t 29) (some (.t 30)) none, none⟩, ⟨some 0, .mov (.t 31), none⟩]) ((.seq (.ops [⟨some 7, .mov (.c .nil), none⟩]) ((.seq ((.seq (.ops [⟨some 8, .mov (.c (.i .i64 0)), none⟩]) ((.block 0 [0, 7] (zu))))) (j7)))))))))))), none, none⟩
def qh2 : Fn := ⟨1, [.t 2], true, (.seq (.ops [⟨some 1, .box true (.t 0), none⟩, ⟨some 2, .mov (.c (.s [])), none⟩]) ((.seq ((.block 0 [1] ((.seq (.ops [⟨some 4, .load false (some 1) ⟨2, true⟩ (.t 1), none⟩, ⟨some 5, .call (.f 18) [.t 4], none⟩, ⟨some 6, .un .not (.t 5), none⟩, ⟨some 3, .mov (.t 6), none⟩]) ((.cond (.t 3) ((.seq (.ops [⟨some 2, .mov (.c (.s [63])), none⟩]) (.ret))) ((.seq (.ops [⟨some 8, .fieldAddr (.t 1) 0 ⟨1, false⟩, none⟩, ⟨some 9, .load false (some 1) ⟨1, false⟩ (.t 8), none⟩, ⟨some 10, .call (.f 16) [.t 9], none⟩, ⟨some 7, .mov (.mv 10), none⟩]) ((.cond (.t 7) ((.seq (.opsD [(⟨some 11, .call (.f 27) [], none⟩, true, []), (⟨some 12, .fieldAddr (.t 1) 0 ⟨1, false⟩, none⟩, false, []), (⟨some 13, .load false (some 1) ⟨1, false⟩ (.t 12), none⟩, false, []), (⟨some 14, .indexAddr (.t 11) (.t 13) 1 none, none⟩, false, []), (⟨some 15, .load false none ⟨1, false⟩ (.t 14), none⟩, false, []), (⟨some 16, .bin .add .num (.t 15) (.c (.s [32])), none⟩, false, []), (⟨some 17, .fieldAddr (.t 1) 1 ⟨1, false⟩, none⟩, false, []), (⟨some 18, .load false (some 1) ⟨1, false⟩ (.t 17), none⟩, false, []), (⟨some 19, .conv .i64 (.t 18), none⟩, false, []), (⟨some 20, .call (.f 28) [.t 19], none⟩, false, []), (⟨some 21, .bin .add .num (.t 16) (.t 20), none⟩, true, []), (⟨some 2, .mov (.t 21), none⟩, true, [])]) (.ret))) (.skip))))))))))) ((.seq (.opsD [(⟨some 22, .call (.f 27) [], none⟩, true, []), (⟨some 23, .fieldAddr (.t 1) 0 ⟨1, false⟩, none⟩, false, []), (⟨some 24, .load false (some 1) ⟨1, false⟩ (.t 23), none⟩, false, []), (⟨some 25, .indexAddr (.t 22) (.t 24) 1 none, none⟩, true, []), (⟨some 26, .load false none ⟨1, false⟩ (.t 25), none⟩, true, []), (⟨some 2, .mov (.t 26), none⟩, true, [])]) (.ret)))))), none, none⟩
def qcA : Fn := ⟨1, [.t 2], true, (.seq (.ops [⟨some 1, .box true (.t 0), none⟩, ⟨some 2, .mov (.c (.s [])), none⟩]) ((.seq ((.seq (.ops [⟨some 3, .load false (some 1) ⟨2, true⟩ (.t 1), none⟩, ⟨some 4, .call (.f 21) [.t 3], none⟩, ⟨some 5, .un .not (.t 4), none⟩]) ((.cond (.t 5) ((.seq (.ops [⟨some 2, .mov (.c (.s [63])), none⟩]) (.ret))) (.skip))))) ((.seq ((.seq (.ops [⟨some 6, .fieldAddr (.t 1) 0 ⟨1, false⟩, none⟩, ⟨some 7, .load false (some 1) ⟨1, false⟩ (.t 6), none⟩, ⟨some 8, .call (.f 8) [.t 7], none⟩]) ((.cond (.t 8) ((.seq (.opsD [(⟨some 9, .call (.f 29) [], none⟩, true, []), (⟨some 10, .fieldAddr (.t 1) 0 ⟨1, false⟩, none⟩, false, []), (⟨some 11, .load false (some 1) ⟨1, false⟩ (.t 10), none⟩, false, []), (⟨some 12, .indexAddr (.t 9) (.t 11) 1 none, none⟩, false, []), (⟨some 13, .load false none ⟨1, false⟩ (.t 12), none⟩, false, []), (⟨some 14, .bin .add .num (.t 13) (.c (.s [32])), none⟩, false, []), (⟨some 15, .fieldAddr (.t 1) 1 ⟨1, false⟩, none⟩, false, []), (⟨some 16, .load false (some 1) ⟨1, false⟩ (.t 15), none⟩, false, []), (⟨some 17, .conv .i64 (.t 16), none⟩, false, []), (⟨some 18, .call (.f 30) [.t 17], none⟩, false, []), (⟨some 19, .bin .add .num (.t 14) (.t 18), none⟩, true, []), (⟨some 2, .mov (.t 19), none⟩, true, [])]) (.ret))) (.skip))))) ((.seq (.opsD [(⟨some 20, .call (.f 29) [], none⟩, true, []), (⟨some 21, .fieldAddr (.t 1) 0 ⟨1, false⟩, none⟩, false, []), (⟨some 22, .load false (some 1) ⟨1, false⟩ (.t 21), none⟩, false, []), (⟨some 23, .indexAddr (.t 20) (.t 22) 1 none, none⟩, true, []), (⟨some 24, .load false none ⟨1, false⟩ (.t 23), none⟩, true, []), (⟨some 2, .mov (.t 24), none⟩, true, [])]) (.ret)))))))), none, none⟩
def jC : Fn := ⟨1, [.t 2], true, (.seq (.ops [⟨some 2, .mov (.c (.b false)), none⟩]) ((.seq ((.seq (.ops [⟨some 3, .mov (.t 0), none⟩]) ((.block 0 [] ((.seq ((.seq (.ops [⟨some 5, .bin .eql .num (.t 3) (.c (.i .i64 1)), none⟩, ⟨some 4, .mov (.t 5), none⟩]) ((.cond (.t 4) (.skip) ((.seq (.ops [⟨some 6, .bin .eql .num (.t 3) (.c (.i .i64 5)), none⟩, ⟨some 4, .mov (.t 6), none⟩]) ((.cond (.t 4) (.skip) ((.seq (.ops [⟨some 7, .bin .eql .num (.t 3) (.c (.i .i64 8)), none⟩, ⟨some 4, .mov (.t 7), none⟩]) ((.cond (.t 4) (.skip) ((.seq (.ops [⟨some 8, .bin .eql .num (.t 3) (.c (.i .i64 25)), none⟩, ⟨some 4, .mov (.t 8), none⟩]) ((.cond (.t 4) (.skip) ((.seq (.ops [⟨some 9, .bin .eql .num (.t 3) (.c (.i .i64 26)), none⟩, ⟨some 4, .mov (.t 9), none⟩]) ((.cond (.t 4) (.skip) ((.seq (.ops [⟨some 10, .bin .eql .num (.t 3) (.c (.i .i64 27)), none⟩, ⟨some 4, .mov (.t 10), none⟩]) ((.cond (.t 4) (.skip) ((.seq (.ops [⟨some 11, .bin .eql .num (.t 3) (.c (.i .i64 28)), none⟩, ⟨some 4, .mov (.t 11), none⟩]) ((.cond (.t 4) (.skip) (.ops [⟨some 12, .bin .eql .num (.t 3) (.c (.i .i64 30)), none⟩, ⟨some 4, .mov (.t 12), none⟩]))))))))))))))))))))))))))))) ((.cond (.t 4) ((.seq (.ops [⟨some 2, .mov (.c (.b true)), none⟩]) (.ret))) (.skip))))))))) ((.seq (.ops [⟨some 2, .mov (.c (.b false)), none⟩]) (.ret)))))), none, none⟩
def qir : C := (.seq ((.seq (.ops [⟨some 8, .mov (.t 1), none⟩, ⟨some 9, .bin .gtr .num (.t 8) (.c (.i .u64 127)), none⟩]) ((.cond (.t 9) (.skip) (.exit 0))))) ((.block 1 [1, 5] ((.seq (.ops [⟨some 10, .mov (.mv 5), none⟩, ⟨some 11, .mov (.t 1), none⟩, ⟨some 12, .conv .u8 (.t 11), none⟩, ⟨some 13, .bin .or .num (.t 12) (.c (.i .u8 128)), none⟩, ⟨some 14, .buildSlice (.i .u8 0) 1 [(0, (.t 13))], none⟩, ⟨some 15, .bi (.append 1 1) [.mv 10, (.t 14)], none⟩, ⟨some 5, .mov (.mv 15), none⟩]) (.ops [⟨some 16, .mov (.t 1), none⟩, ⟨some 17, .bin .shr .num (.t 16) (.c (.i .u64 7)), none⟩, ⟨some 1, .mov (.t 17), none⟩]))))))
def qil : C := .loop [1, 5] qir
def qik : C := (.seq (.ops [⟨some 18, .mov (.mv 5), none⟩, ⟨some 19, .mov (.t 1), none⟩, ⟨some 20, .conv .u8 (.t 19), none⟩, ⟨some 21, .buildSlice (.i .u8 0) 1 [(0, (.t 20))], none⟩, ⟨some 22, .bi (.append 1 1) [.mv 18, (.t 21)], none⟩, ⟨some 4, .mov (.mv 22), none⟩]) (.ret))
def qgU : Fn := ⟨2, [.t 4], true, (.seq (.ops [⟨some 4, .mov (.c .nil), none⟩]) ((.seq (.ops [⟨some 6, .mov (.mv 0), none⟩, ⟨some 7, .call (.f 31) [.mv 6], none⟩, ⟨some 5, .mov (.mv 7), none⟩]) ((.seq ((.block 0 [1, 5] (qil))) (qik)))))), none, none⟩
def qgT : Fn := ⟨1, [.t 2], true, (.seq (.ops [⟨some 1, .box true (.t 0), none⟩, ⟨some 2, .mov (.c (.b false)), none⟩]) ((.seq (.ops [⟨some 3, .fieldAddr (.t 1) 0 ⟨1, false⟩, none⟩, ⟨some 4, .load false (some 1) ⟨1, false⟩ (.t 3), none⟩, ⟨some 5, .bin .geq .num (.t 4) (.c (.i .i64 0)), none⟩, ⟨some 6, .mov (.t 5), none⟩, ⟨some 7, .fieldAddr (.t 1) 0 ⟨1, false⟩, some (6, true)⟩, ⟨some 8, .load false (some 1) ⟨1, false⟩ (.t 7), some (6, true)⟩, ⟨some 9, .bin .lss .num (.t 8) (.c (.i .i64 34)), some (6, true)⟩, ⟨some 10, .pick (.t 6) (.t 9) (.c (.b false)), none⟩, ⟨some 11, .mov (.t 10), none⟩, ⟨some 12, .fieldAddr (.t 1) 0 ⟨1, false⟩, some (11, true)⟩, ⟨some 13, .load false (some 1) ⟨1, false⟩ (.t 12), some (11, true)⟩, ⟨some 14, .call (.f 16) [.t 13], some (11, true)⟩, ⟨some 15, .mov (.mv 14), some (11, true)⟩, ⟨some 16, .fieldAddr (.t 1) 1 ⟨1, false⟩, some (15, false)⟩, ⟨some 17, .load false (some 1) ⟨1, false⟩ (.t 16), some (15, false)⟩, ⟨some 18, .bin .eql .num (.t 17) (.c (.i .i32 0)), some (15, false)⟩, ⟨some 19, .pick (.t 15) (.c (.b true)) (.t 18), some (11, true)⟩, ⟨some 20, .pick (.t 11) (.t 19) (.c (.b false)), none⟩, ⟨some 2, .mov (.t 20), none⟩]) (.ret)))), none, none⟩
def qeO : Fn := ⟨2, [.t 4], true, (.seq (.ops [⟨some 4, .mov (.c .nil), none⟩]) ((.seq (.ops [⟨some 5, .mov (.mv 0), none⟩, ⟨some 6, .mov (.t 1), none⟩, ⟨some 7, .conv .u64 (.t 6), none⟩, ⟨some 8, .bin .shl .num (.t 7) (.c (.i .u64 1)), none⟩, ⟨some 9, .mov (.t 1), none⟩, ⟨some 10, .bin .shr .num (.t 9) (.c (.i .u64 63)), none⟩, ⟨some 11, .conv .u64 (.t 10), none⟩, ⟨some 12, .bin .xor .num (.t 8) (.t 11), none⟩, ⟨some 13, .call (.f 17) [.mv 5, (.t 12)], none⟩, ⟨some 4, .mov (.mv 13), none⟩]) (.ret)))), none, none⟩
def zA : C := (.seq ((.seq (.ops [⟨some 5, .mov (.t 1), none⟩, ⟨some 6, .bin .geq .num (.t 5) (.c (.i .u64 128)), none⟩]) ((.cond (.t 6) (.skip) (.exit 0))))) ((.block 1 [0, 1] ((.seq (.ops [⟨some 7, .mov (.mv 0), none⟩, ⟨some 8, .mov (.t 1), none⟩, ⟨some 9, .conv .u8 (.t 8), none⟩, ⟨some 10, .bin .or .num (.t 9) (.c (.i .u8 128)), none⟩, ⟨some 11, .buildSlice (.i .u8 0) 1 [(0, (.t 10))], none⟩, ⟨some 12, .appendR ⟨1, false⟩ 1 (.t 7) (.t 11), none⟩, ⟨some 0, .mov (.mv 12), none⟩]) (.ops [⟨some 13, .mov (.t 1), none⟩, ⟨some 14, .bin .shr .num (.t 13) (.c (.i .u64 7)), none⟩, ⟨some 1, .mov (.t 14), none⟩]))))))
def ja : C := .loop [0, 1] zA
noncomputable def j0 (pg : Pg) (v0 v1 : V) (H : List Obj) (lo : Nat) : Option (Ex × St) := exL pg ja ⟨[(0, v0), (1, v1)], H, lo⟩
theorem zh {pg : Pg} {e : Env} {H : List Obj} {lo : Nat} : exL pg ja ⟨e, H, lo⟩ = j0 pg (kG (get 0 e)) (kG (get 1 e)) H lo := qdx
theorem qa3 {pg : Pg} {v0 v1 : V} {H : List Obj} {lo : Nat} : j0 pg v0 v1 H lo = qc6 pg (exL pg zA ⟨[(0, kG v0), (1, kG v1)], H, lo⟩) ja := by
  unfold j0 ja; rw [qa6]; simp only [qP, qO, qr, qs, Nat.reduceEqDiff]
def z9 : C := (.seq (.ops [⟨some 15, .mov (.mv 0), none⟩, ⟨some 16, .mov (.t 1), none⟩, ⟨some 17, .conv .u8 (.t 16), none⟩, ⟨some 18, .buildSlice (.i .u8 0) 1 [(0, (.t 17))], none⟩, ⟨some 19, .appendR ⟨1, false⟩ 1 (.t 15) (.t 18), none⟩, ⟨some 4, .mov (.mv 19), none⟩]) (.ret))
def zJ : Fn := ⟨2, [.t 4], true, (.seq (.ops [⟨some 4, .mov (.c .nil), none⟩]) ((.seq ((.block 0 [0, 1] (ja))) (z9)))), none, none⟩
def zP : Fn := ⟨1, [.t 2], true, (.seq (.ops [⟨some 1, .box true (.t 0), none⟩, ⟨some 2, .mov (.c (.b false)), none⟩]) ((.seq (.ops [⟨some 3, .fieldAddr (.t 1) 0 ⟨1, false⟩, none⟩, ⟨some 4, .load false (some 1) ⟨1, false⟩ (.t 3), none⟩, ⟨some 5, .call (.f 32) [.t 4, (.c (.i .i64 0)), (.c (.i .i64 33))], none⟩, ⟨some 6, .mov (.mv 5), none⟩, ⟨some 7, .fieldAddr (.t 1) 0 ⟨1, false⟩, some (6, true)⟩, ⟨some 8, .load false (some 1) ⟨1, false⟩ (.t 7), some (6, true)⟩, ⟨some 9, .call (.f 8) [.t 8], some (6, true)⟩, ⟨some 10, .mov (.mv 9), some (6, true)⟩, ⟨some 11, .fieldAddr (.t 1) 1 ⟨1, false⟩, some (10, false)⟩, ⟨some 12, .load false (some 1) ⟨1, false⟩ (.t 11), some (10, false)⟩, ⟨some 13, .bin .eql .num (.t 12) (.c (.i .i32 0)), some (10, false)⟩, ⟨some 14, .pick (.t 10) (.c (.b true)) (.t 13), some (6, true)⟩, ⟨some 15, .pick (.t 6) (.t 14) (.c (.b false)), none⟩, ⟨some 2, .mov (.t 15), none⟩]) (.ret)))), none, none⟩
def y9 : Fn := ⟨1, [.t 2], true, (.seq (.ops [⟨some 2, .mov (.c (.i .u64 0)), none⟩]) ((.seq ((.seq (.ops [⟨some 3, .mov (.t 0), none⟩, ⟨some 4, .bin .geq .num (.t 3) (.c (.i .i64 0)), none⟩]) ((.cond (.t 4) ((.seq (.ops [⟨some 5, .mov (.t 0), none⟩, ⟨some 6, .conv .u64 (.t 5), none⟩, ⟨some 7, .bin .shl .num (.t 6) (.c (.i .u64 1)), none⟩, ⟨some 2, .mov (.t 7), none⟩]) (.ret))) (.skip))))) ((.seq (.ops [⟨some 8, .mov (.t 0), none⟩, ⟨some 9, .bin .add .num (.t 8) (.c (.i .i64 1)), none⟩, ⟨some 10, .un .neg (.t 9), none⟩, ⟨some 11, .conv .u64 (.t 10), none⟩, ⟨some 12, .bin .shl .num (.t 11) (.c (.i .u64 1)), none⟩, ⟨some 13, .bin .or .num (.t 12) (.c (.i .u64 1)), none⟩, ⟨some 2, .mov (.t 13), none⟩]) (.ret)))))), none, none⟩
def kU : C := (.seq (.ops [⟨some 15, .bin .lss .num (.t 14) (.t 13), none⟩]) ((.seq ((.cond (.t 15) (.skip) (.exit 0))) ((.seq ((.block 1 [5, 12, 13, 14] ((.seq (.ops [⟨some 16, .mov (.t 14), none⟩,
 ⟨some 17, .indexAddr (.t 12) (.t 14) 1 none, none⟩,
 ⟨some 18, .load false none ⟨1, false⟩ (.t 17), none⟩,
 ⟨some 6, .mov (.t 16), none⟩,
 ⟨some 7, .mov (.t 18), none⟩]) ((.seq ((.seq (.ops [⟨some 19, .mov (.t 6), none⟩,
 ⟨some 20, .bin .eql .num (.t 19) (.c (.i .i64 9)), none⟩,
 ⟨some 21, .mov (.t 20), none⟩,
 ⟨some 22, .mov (.t 7), some (21, true)⟩,
 ⟨some 23, .bin .gtr .num (.t 22) (.c (.i .u8 1)), some (21, true)⟩,
 ⟨some 24, .pick (.t 21) (.t 23) (.c (.b false)), none⟩,
 ⟨some 25, .mov (.t 24), none⟩,
 ⟨some 26, .mov (.t 6), some (25, false)⟩,
 ⟨some 27, .bin .gtr .num (.t 26) (.c (.i .i64 0)), some (25, false)⟩,
 ⟨some 28, .mov (.t 27), some (25, false)⟩,
 ⟨some 29, .mov (.t 7), some (28, true)⟩,
 ⟨some 30, .bin .eql .num (.t 29) (.c (.i .u8 0)), some (28, true)⟩,
 ⟨some 31, .pick (.t 28) (.t 30) (.c (.b false)), some (25, false)⟩,
 ⟨some 32, .pick (.t 25) (.c (.b true)) (.t 31), none⟩]) ((.cond (.t 32) ((.seq (.ops [⟨some 2, .mov (.c (.i .u64 0)), none⟩,
 ⟨some 3, .mov (.c (.i .i64 0)), none⟩,
 ⟨some 4, .mov (.c (.b false)), none⟩]) (.ret))) (.skip))))) ((.seq (.ops [⟨some 33, .mov (.t 5), none⟩,
 ⟨some 34, .mov (.t 7), none⟩,
 ⟨some 35, .bin .and .num (.t 34) (.c (.i .u8 127)), none⟩,
 ⟨some 36, .conv .u64 (.t 35), none⟩,
 ⟨some 37, .mov (.t 6), none⟩,
 ⟨some 38, .bin .mul .num (.c (.i .i64 7)) (.t 37), none⟩,
 ⟨some 39, .conv .u64 (.t 38), none⟩,
 ⟨some 40, .bin .shl .num (.t 36) (.t 39), none⟩,
 ⟨some 41, .bin .or .num (.t 33) (.t 40), none⟩,
 ⟨some 5, .mov (.t 41), none⟩]) ((.seq (.ops [⟨some 42, .mov (.t 7), none⟩,
 ⟨some 43, .bin .lss .num (.t 42) (.c (.i .u8 128)), none⟩]) ((.cond (.t 43) ((.seq (.ops [⟨some 44, .mov (.t 5), none⟩,
 ⟨some 45, .mov (.t 6), none⟩,
 ⟨some 46, .bin .add .num (.t 45) (.c (.i .i64 1)), none⟩,
 ⟨some 2, .mov (.t 44), none⟩,
 ⟨some 3, .mov (.t 46), none⟩,
 ⟨some 4, .mov (.c (.b true)), none⟩]) (.ret))) (.skip))))))))))))) (.ops [⟨some 47, .bin .add .num (.t 14) (.c (.i .i64 1)), none⟩,
 ⟨some 14, .mov (.t 47), none⟩]))))))
def yM : C := .loop [5, 12, 13, 14] kU
noncomputable def qaP (pg : Pg) (v5 v12 v13 v14 : V) (H : List Obj) (lo : Nat) : Option (Ex × St) := exL pg yM ⟨[(5, v5), (12, v12), (13, v13), (14, v14)], H, lo⟩
theorem qa0 {pg : Pg} {e : Env} {H : List Obj} {lo : Nat} : exL pg yM ⟨e, H, lo⟩ = qaP pg (kG (get 5 e)) (kG (get 12 e)) (kG (get 13 e)) (kG (get 14 e)) H lo := qdx
theorem kR {pg : Pg} {v5 v12 v13 v14 : V} {H : List Obj} {lo : Nat} : qaP pg v5 v12 v13 v14 H lo = qc6 pg (exL pg kU ⟨[(5, kG v5), (12, kG v12), (13, kG v13), (14, kG v14)], H, lo⟩) yM := by
  unfold qaP yM; rw [qa6]; simp only [qP, qO, qr, qs, Nat.reduceEqDiff]
def qch : C := (.seq (.ops [⟨some 2, .mov (.c (.i .u64 0)), none⟩, ⟨some 3, .mov (.c (.i .i64 0)), none⟩, ⟨some 4, .mov (.c (.b false)), none⟩]) (.ret))
def qcp : Fn := ⟨1, [.t 2, (.t 3), (.t 4)], false, (.seq (.ops [⟨some 2, .mov (.c (.i .u64 0)), none⟩, ⟨some 3, .mov (.c (.i .i64 0)), none⟩, ⟨some 4, .mov (.c (.b false)), none⟩]) ((.seq (.ops [⟨some 5, .mov (.c (.i .u64 0)), none⟩]) ((.seq ((.seq (.ops [⟨some 8, .mov (.t 0), none⟩, ⟨some 9, .mov (.t 0), none⟩, ⟨some 10, .bi .lenL [.t 9], none⟩, ⟨some 11, .bi .min [.t 10, (.c (.i .i64 10))], none⟩, ⟨some 12, .sliceL 1 (.t 8) none (some (.t 11)), none⟩, ⟨some 13, .bi .lenL [.t 12], none⟩, ⟨some 14, .mov (.c (.i .i64 0)), none⟩]) ((.block 0 [] (yM))))) (qch)))))), none, none⟩
def yV : Fn := ⟨1, [(.cell 2 ⟨2, true⟩), (.t 3)], false, (.seq (.ops [⟨some 2, .alloc true [(.i .i64 0), (.i .i32 0)], none⟩,
 ⟨some 3, .mov (.c (.i .i64 0)), none⟩]) ((.seq ((.seq (.ops [⟨some 8, .mov (.t 0), none⟩,
 ⟨some 9, .bi .lenL [.t 8], none⟩,
 ⟨some 10, .bin .eql .num (.t 9) (.c (.i .i64 0)), none⟩,
 ⟨some 11, .mov (.t 10), none⟩,
 ⟨some 12, .mov (.t 0), some (11, false)⟩,
 ⟨some 13, .indexAddr (.t 12) (.c (.i .i64 0)) 1 none, some (11, false)⟩,
 ⟨some 14, .load false none ⟨1, false⟩ (.t 13), some (11, false)⟩,
 ⟨some 15, .conv .i64 (.t 14), some (11, false)⟩,
 ⟨some 16, .bin .geq .num (.t 15) (.c (.i .i64 34)), some (11, false)⟩,
 ⟨some 17, .pick (.t 11) (.c (.b true)) (.t 16), none⟩]) ((.cond (.t 17) ((.seq (.ops [⟨some 18, .build [(.i .i64 0), (.i .i32 0)] [], none⟩,
 ⟨none, .store (some 2) ⟨2, true⟩ (.t 2) (.t 18), none⟩,
 ⟨some 3, .mov (.c (.i .i64 0)), none⟩]) (.ret))) (.skip))))) ((.seq (.ops [⟨some 19, .mov (.t 0), none⟩,
 ⟨some 20, .indexAddr (.t 19) (.c (.i .i64 0)) 1 none, none⟩,
 ⟨some 21, .load false none ⟨1, false⟩ (.t 20), none⟩,
 ⟨some 22, .conv .i64 (.t 21), none⟩,
 ⟨some 23, .build [(.i .i64 0), (.i .i32 0)] [(0, 1, (.t 22))], none⟩,
 ⟨some 4, .alloc true [(.i .i64 0), (.i .i32 0)], none⟩,
 ⟨none, .store (some 4) ⟨2, true⟩ (.t 4) (.t 23), none⟩]) ((.seq ((.seq (.ops [⟨some 24, .fieldAddr (.t 4) 0 ⟨1, false⟩, none⟩,
 ⟨some 25, .load false (some 4) ⟨1, false⟩ (.t 24), none⟩,
 ⟨some 26, .call (.f 16) [.t 25], none⟩,
 ⟨some 27, .un .not (.t 26), none⟩]) ((.cond (.t 27) ((.seq (.ops [⟨some 28, .load false (some 4) ⟨2, true⟩ (.t 4), none⟩,
 ⟨none, .store (some 2) ⟨2, true⟩ (.t 2) (.t 28), none⟩,
 ⟨some 3, .mov (.c (.i .i64 1)), none⟩]) (.ret))) (.skip))))) ((.seq (.ops [⟨some 30, .mov (.t 0), none⟩,
 ⟨some 31, .sliceL 1 (.t 30) (some (.c (.i .i64 1))) none, none⟩,
 ⟨some 32, .call (.f 33) [.t 31], none⟩,
 ⟨some 29, .mov (.t 32), none⟩,
 ⟨some 33, .extract (.t 29) 0, none⟩,
 ⟨some 34, .extract (.t 29) 1, none⟩,
 ⟨some 35, .extract (.t 29) 2, none⟩,
 ⟨some 5, .mov (.t 33), none⟩,
 ⟨some 6, .mov (.t 34), none⟩,
 ⟨some 7, .mov (.t 35), none⟩]) ((.seq ((.seq (.ops [⟨some 36, .mov (.t 7), none⟩,
 ⟨some 37, .un .not (.t 36), none⟩,
 ⟨some 38, .mov (.t 37), none⟩,
 ⟨some 39, .mov (.t 5), some (38, false)⟩,
 ⟨some 40, .mov (.t 5), some (38, false)⟩,
 ⟨some 41, .conv .i32 (.t 40), some (38, false)⟩,
 ⟨some 42, .conv .i64 (.t 41), some (38, false)⟩,
 ⟨some 43, .bin .neq .num (.t 39) (.t 42), some (38, false)⟩,
 ⟨some 44, .pick (.t 38) (.c (.b true)) (.t 43), none⟩]) ((.cond (.t 44) ((.seq (.ops [⟨some 45, .build [(.i .i64 0), (.i .i32 0)] [], none⟩,
 ⟨none, .store (some 2) ⟨2, true⟩ (.t 2) (.t 45), none⟩,
 ⟨some 3, .mov (.c (.i .i64 0)), none⟩]) (.ret))) (.skip))))) ((.seq (.ops [⟨some 46, .mov (.t 5), none⟩,
 ⟨some 47, .conv .i32 (.t 46), none⟩,
 ⟨some 48, .fieldAddr (.t 4) 1 ⟨1, false⟩, none⟩,
 ⟨none, .store (some 4) ⟨1, false⟩ (.t 48) (.mv 47), none⟩]) ((.seq (.ops [⟨some 49, .load false (some 4) ⟨2, true⟩ (.t 4), none⟩,
 ⟨some 50, .mov (.t 6), none⟩,
 ⟨some 51, .bin .add .num (.c (.i .i64 1)) (.t 50), none⟩,
 ⟨none, .store (some 2) ⟨2, true⟩ (.t 2) (.t 49), none⟩,
 ⟨some 3, .mov (.t 51), none⟩]) (.ret)))))))))))))))), none, none⟩
def ki : C := (.seq ((.seq (.ops [⟨some 8, .mov (.t 6), none⟩,
 ⟨some 9, .mov (.t 0), none⟩,
 ⟨some 10, .bi .lenL [.t 9], none⟩,
 ⟨some 11, .bin .lss .num (.t 8) (.t 10), none⟩,
 ⟨some 12, .mov (.t 11), none⟩,
 ⟨some 13, .mov (.t 6), some (12, true)⟩,
 ⟨some 14, .bin .lss .num (.t 13) (.c (.i .i64 10)), some (12, true)⟩,
 ⟨some 15, .pick (.t 12) (.t 14) (.c (.b false)), none⟩]) ((.cond (.t 15) (.skip) (.exit 0))))) ((.seq ((.block 1 [0, 5, 6] ((.seq (.ops [⟨some 18, .mov (.t 0), none⟩,
 ⟨some 19, .mov (.t 6), none⟩,
 ⟨some 20, .indexAddr (.t 18) (.t 19) 1 none, none⟩,
 ⟨some 21, .load false none ⟨1, false⟩ (.t 20), none⟩,
 ⟨some 22, .bin .and .num (.t 21) (.c (.i .u8 127)), none⟩,
 ⟨some 23, .conv .u64 (.t 22), none⟩,
 ⟨some 7, .mov (.mv 23), none⟩]) ((.seq ((.seq (.ops [⟨some 24, .mov (.t 6), none⟩,
 ⟨some 25, .bin .eql .num (.t 24) (.c (.i .i64 9)), none⟩,
 ⟨some 26, .mov (.t 25), none⟩,
 ⟨some 27, .mov (.t 0), some (26, true)⟩,
 ⟨some 28, .mov (.t 6), some (26, true)⟩,
 ⟨some 29, .indexAddr (.t 27) (.t 28) 1 none, some (26, true)⟩,
 ⟨some 30, .load false none ⟨1, false⟩ (.t 29), some (26, true)⟩,
 ⟨some 31, .bin .gtr .num (.t 30) (.c (.i .u8 1)), some (26, true)⟩,
 ⟨some 32, .pick (.t 26) (.t 31) (.c (.b false)), none⟩]) ((.cond (.t 32) ((.seq (.ops [⟨some 2, .mov (.c (.i .u64 0)), none⟩,
 ⟨some 3, .mov (.c (.i .i64 0)), none⟩,
 ⟨some 4, .mov (.c (.b false)), none⟩]) (.ret))) (.skip))))) ((.seq (.ops [⟨some 33, .mov (.t 5), none⟩,
 ⟨some 34, .mov (.t 7), none⟩,
 ⟨some 35, .mov (.t 6), none⟩,
 ⟨some 36, .bin .mul .num (.c (.i .i64 7)) (.t 35), none⟩,
 ⟨some 37, .bin .shl .num (.t 34) (.t 36), none⟩,
 ⟨some 38, .bin .or .num (.t 33) (.t 37), none⟩,
 ⟨some 5, .mov (.t 38), none⟩]) ((.seq (.ops [⟨some 39, .mov (.t 0), none⟩,
 ⟨some 40, .mov (.t 6), none⟩,
 ⟨some 41, .indexAddr (.t 39) (.t 40) 1 none, none⟩,
 ⟨some 42, .load false none ⟨1, false⟩ (.t 41), none⟩,
 ⟨some 43, .bin .lss .num (.t 42) (.c (.i .u8 128)), none⟩]) ((.cond (.t 43) ((.seq ((.seq (.ops [⟨some 44, .mov (.t 6), none⟩,
 ⟨some 45, .bin .gtr .num (.t 44) (.c (.i .i64 0)), none⟩,
 ⟨some 46, .mov (.t 45), none⟩,
 ⟨some 47, .mov (.t 0), some (46, true)⟩,
 ⟨some 48, .mov (.t 6), some (46, true)⟩,
 ⟨some 49, .indexAddr (.t 47) (.t 48) 1 none, some (46, true)⟩,
 ⟨some 50, .load false none ⟨1, false⟩ (.t 49), some (46, true)⟩,
 ⟨some 51, .bin .eql .num (.t 50) (.c (.i .u8 0)), some (46, true)⟩,
 ⟨some 52, .pick (.t 46) (.t 51) (.c (.b false)), none⟩]) ((.cond (.t 52) ((.seq (.ops [⟨some 2, .mov (.c (.i .u64 0)), none⟩,
 ⟨some 3, .mov (.c (.i .i64 0)), none⟩,
 ⟨some 4, .mov (.c (.b false)), none⟩]) (.ret))) (.skip))))) ((.seq (.ops [⟨some 53, .mov (.t 5), none⟩,
 ⟨some 54, .mov (.t 6), none⟩,
 ⟨some 55, .bin .add .num (.t 54) (.c (.i .i64 1)), none⟩,
 ⟨some 2, .mov (.t 53), none⟩,
 ⟨some 3, .mov (.t 55), none⟩,
 ⟨some 4, .mov (.c (.b true)), none⟩]) (.ret))))) (.skip))))))))))))) (.ops [⟨some 16, .mov (.t 6), none⟩,
 ⟨some 17, .bin .add .num (.t 16) (.c (.i .i64 1)), none⟩,
 ⟨some 6, .mov (.t 17), none⟩]))))
def z4 : C := .loop [0, 5, 6] ki
noncomputable def jK (pg : Pg) (v0 v5 v6 : V) (H : List Obj) (lo : Nat) : Option (Ex × St) := exL pg z4 ⟨[(0, v0), (5, v5), (6, v6)], H, lo⟩
theorem qaY {pg : Pg} {e : Env} {H : List Obj} {lo : Nat} : exL pg z4 ⟨e, H, lo⟩ = jK pg (kG (get 0 e)) (kG (get 5 e)) (kG (get 6 e)) H lo := qdx
theorem kl {pg : Pg} {v0 v5 v6 : V} {H : List Obj} {lo : Nat} : jK pg v0 v5 v6 H lo = qc6 pg (exL pg ki ⟨[(0, kG v0), (5, kG v5), (6, kG v6)], H, lo⟩) z4 := by
  unfold jK z4; rw [qa6]; simp only [qP, qO, qr, qs, Nat.reduceEqDiff]
def jG : C := (.seq (.ops [⟨some 2, .mov (.c (.i .u64 0)), none⟩, ⟨some 3, .mov (.c (.i .i64 0)), none⟩, ⟨some 4, .mov (.c (.b false)), none⟩]) (.ret))
def yD : Fn := ⟨1, [.t 2, (.t 3), (.t 4)], false, (.seq (.ops [⟨some 2, .mov (.c (.i .u64 0)), none⟩, ⟨some 3, .mov (.c (.i .i64 0)), none⟩, ⟨some 4, .mov (.c (.b false)), none⟩]) ((.seq (.ops [⟨some 5, .mov (.c (.i .u64 0)), none⟩]) ((.seq ((.seq (.ops [⟨some 6, .mov (.c (.i .i64 0)), none⟩]) ((.block 0 [] (z4))))) (jG)))))), none, none⟩
def qaa : Fn := ⟨1, [.t 2], true, (.seq (.ops [⟨some 2, .mov (.c (.i .i64 0)), none⟩]) ((.seq ((.seq (.ops [⟨some 3, .mov (.t 0), none⟩, ⟨some 4, .bin .and .num (.t 3) (.c (.i .u64 1)), none⟩, ⟨some 5, .bin .eql .num (.t 4) (.c (.i .u64 0)), none⟩]) ((.cond (.t 5) ((.seq (.ops [⟨some 6, .mov (.t 0), none⟩, ⟨some 7, .bin .shr .num (.t 6) (.c (.i .u64 1)), none⟩, ⟨some 8, .conv .i64 (.t 7), none⟩, ⟨some 2, .mov (.mv 8), none⟩]) (.ret))) (.skip))))) ((.seq (.ops [⟨some 9, .mov (.t 0), none⟩, ⟨some 10, .bin .shr .num (.t 9) (.c (.i .u64 1)), none⟩, ⟨some 11, .conv .i64 (.t 10), none⟩, ⟨some 12, .un .neg (.t 11), none⟩, ⟨some 13, .bin .sub .num (.t 12) (.c (.i .i64 1)), none⟩, ⟨some 2, .mov (.t 13), none⟩]) (.ret)))))), none, none⟩
def qhb : Fn := ⟨0, [.t 0], true, (.seq (.ops [⟨some 0, .mov (.c .nil), none⟩]) ((.seq (.ops [⟨some 1, .call (.f 34) [(.c (.s [72, 97, 108, 116, 32, 80, 117, 115, 104, 32, 68, 117, 112, 32, 68, 114, 111, 112, 32, 83, 119, 97, 112, 32, 76, 111, 99, 97, 108, 32, 76, 111, 97, 100, 32, 83, 116, 111, 114, 101, 32, 77, 111, 118, 101, 32, 65, 100, 100, 32, 83, 117, 98, 32, 77, 117, 108, 32, 68, 105, 118, 32, 77, 111, 100, 32, 78, 101, 103, 32, 65, 110, 100, 32, 79, 114, 32, 88, 111, 114, 32, 73, 110, 118, 32, 76, 115, 108, 32, 65, 115, 114, 32, 82, 111, 114, 32, 69, 113, 32, 76, 116, 32, 76, 101, 32, 74, 117, 109, 112, 32, 90, 101, 114, 111, 32, 67, 97, 108, 108, 84, 111, 32, 69, 110, 116, 101, 114, 32, 76, 101, 97, 118, 101, 32, 82, 97, 105, 115, 101, 32, 71, 101, 116, 99, 32, 69, 110, 100, 99, 32, 80, 117, 116, 99]))], none⟩, ⟨some 0, .mov (.mv 1), none⟩]) (.ret)))), none, none⟩
def qe0 : Fn := ⟨1, [.t 2], true, (.seq (.ops [⟨some 2, .mov (.c (.s [])), none⟩]) ((.seq (.ops [⟨some 3, .mov (.mv 0), none⟩, ⟨some 4, .call (.f 35) [.mv 3], none⟩, ⟨some 2, .mov (.mv 4), none⟩]) (.ret)))), none, none⟩
def qdt : Fn := ⟨0, [.t 0], true, (.seq (.ops [⟨some 0, .mov (.c .nil), none⟩]) ((.seq (.ops [⟨some 1, .buildSlice (.s []) 34 [(0, (.c (.s [72, 97, 108, 116]))), (1, (.c (.s [80, 117, 115, 104]))), (2, (.c (.s [68, 117, 112]))), (3, (.c (.s [68, 114, 111, 112]))), (4, (.c (.s [83, 119, 97, 112]))), (5, (.c (.s [76, 111, 99, 97, 108]))), (6, (.c (.s [76, 111, 97, 100]))), (7, (.c (.s [83, 116, 111, 114, 101]))), (8, (.c (.s [77, 111, 118, 101]))), (9, (.c (.s [65, 100, 100]))), (10, (.c (.s [83, 117, 98]))), (11, (.c (.s [77, 117, 108]))), (12, (.c (.s [68, 105, 118]))), (13, (.c (.s [77, 111, 100]))), (14, (.c (.s [78, 101, 103]))), (15, (.c (.s [65, 110, 100]))), (16, (.c (.s [79, 114]))), (17, (.c (.s [88, 111, 114]))), (18, (.c (.s [73, 110, 118]))), (19, (.c (.s [76, 115, 108]))), (20, (.c (.s [65, 115, 114]))), (21, (.c (.s [82, 111, 114]))), (22, (.c (.s [69, 113]))), (23, (.c (.s [76, 116]))), (24, (.c (.s [76, 101]))), (25, (.c (.s [74, 117, 109, 112]))), (26, (.c (.s [90, 101, 114, 111]))), (27, (.c (.s [67, 97, 108, 108, 84, 111]))), (28, (.c (.s [69, 110, 116, 101, 114]))), (29, (.c (.s [76, 101, 97, 118, 101]))), (30, (.c (.s [82, 97, 105, 115, 101]))), (31, (.c (.s [71, 101, 116, 99]))), (32, (.c (.s [69, 110, 100, 99]))), (33, (.c (.s [80, 117, 116, 99])))], none⟩, ⟨some 0, .mov (.mv 1), none⟩]) (.ret)))), none, none⟩
def qeR : Fn := ⟨1, [.t 2], true, (.seq (.ops [⟨some 2, .mov (.c (.s [])), none⟩]) ((.seq ((.seq (.ops [⟨some 3, .mov (.t 0), none⟩, ⟨some 4, .bin .lss .num (.t 3) (.c (.i .i64 0)), none⟩]) ((.cond (.t 4) ((.seq (.ops [⟨some 5, .mov (.t 0), none⟩, ⟨some 6, .un .neg (.t 5), none⟩, ⟨some 7, .call (.f 30) [.t 6], none⟩, ⟨some 8, .bin .add .num (.c (.s [45])) (.t 7), none⟩, ⟨some 2, .mov (.t 8), none⟩]) (.ret))) (.skip))))) ((.seq ((.seq (.ops [⟨some 9, .mov (.t 0), none⟩, ⟨some 10, .bin .lss .num (.t 9) (.c (.i .i64 10)), none⟩]) ((.cond (.t 10) ((.seq (.ops [⟨some 11, .mov (.t 0), none⟩, ⟨some 12, .mov (.t 0), none⟩, ⟨some 13, .bin .add .num (.t 12) (.c (.i .i64 1)), none⟩, ⟨some 14, .sliceS (.c (.s [48, 49, 50, 51, 52, 53, 54, 55, 56, 57])) (some (.t 11)) (some (.t 13)), none⟩, ⟨some 2, .mov (.t 14), none⟩]) (.ret))) (.skip))))) ((.seq (.ops [⟨some 15, .mov (.t 0), none⟩, ⟨some 16, .bin .quo .num (.t 15) (.c (.i .i64 10)), none⟩, ⟨some 17, .call (.f 30) [.t 16], none⟩, ⟨some 18, .mov (.t 0), none⟩, ⟨some 19, .bin .rem .num (.t 18) (.c (.i .i64 10)), none⟩, ⟨some 20, .call (.f 30) [.t 19], none⟩, ⟨some 21, .bin .add .num (.t 17) (.t 20), none⟩, ⟨some 2, .mov (.t 21), none⟩]) (.ret)))))))), none, none⟩
def qat : Fn := ⟨1, [.t 2], true, (.seq (.ops [⟨some 2, .mov (.c .nil), none⟩]) ((.seq ((.seq (.ops [⟨some 3, .mov (.t 0), none⟩, ⟨some 4, .bin .eql .slice (.t 3) (.c .nil), none⟩]) ((.cond (.t 4) ((.seq (.ops [⟨some 2, .mov (.c .nil), none⟩]) (.ret))) (.skip))))) ((.seq (.ops [⟨some 5, .buildSlice (.i .u8 0) 0 [], none⟩, ⟨some 6, .mov (.t 0), none⟩, ⟨some 7, .bi (.append 1 1) [.mv 5, (.t 6)], none⟩, ⟨some 2, .mov (.mv 7), none⟩]) (.ret)))))), none, none⟩
def qbF : Fn := ⟨3, [.t 6], true, (.seq (.ops [⟨some 6, .mov (.c (.b false)), none⟩]) ((.seq (.ops [⟨some 7, .mov (.t 0), none⟩, ⟨some 8, .mov (.t 1), none⟩, ⟨some 9, .bin .geq .num (.t 7) (.t 8), none⟩, ⟨some 10, .mov (.t 9), none⟩, ⟨some 11, .mov (.t 0), some (10, true)⟩, ⟨some 12, .mov (.t 2), some (10, true)⟩, ⟨some 13, .bin .leq .num (.t 11) (.t 12), some (10, true)⟩, ⟨some 14, .pick (.t 10) (.t 13) (.c (.b false)), none⟩, ⟨some 6, .mov (.t 14), none⟩]) (.ret)))), none, none⟩
def yP : Fn := ⟨1, [.t 2, (.t 3), (.t 4)], false, (.seq (.ops [⟨some 2, .mov (.c (.i .i64 0)), none⟩, ⟨some 3, .mov (.c (.i .i64 0)), none⟩, ⟨some 4, .mov (.c (.b false)), none⟩]) ((.seq (.ops [⟨some 9, .mov (.mv 0), none⟩, ⟨some 10, .call (.f 23) [.mv 9], none⟩, ⟨some 8, .mov (.t 10), none⟩, ⟨some 11, .extract (.t 8) 0, none⟩, ⟨some 12, .extract (.t 8) 1, none⟩, ⟨some 13, .extract (.t 8) 2, none⟩, ⟨some 5, .mov (.t 11), none⟩, ⟨some 6, .mov (.t 12), none⟩, ⟨some 7, .mov (.t 13), none⟩]) ((.seq (.ops [⟨some 14, .mov (.t 5), none⟩, ⟨some 15, .bin .shr .num (.t 14) (.c (.i .u64 1)), none⟩, ⟨some 16, .conv .i64 (.t 15), none⟩, ⟨some 17, .mov (.t 5), none⟩, ⟨some 18, .bin .and .num (.t 17) (.c (.i .u64 1)), none⟩, ⟨some 19, .conv .i64 (.t 18), none⟩, ⟨some 20, .un .neg (.t 19), none⟩, ⟨some 21, .bin .xor .num (.t 16) (.t 20), none⟩, ⟨some 22, .mov (.t 6), none⟩, ⟨some 23, .mov (.t 7), none⟩, ⟨some 2, .mov (.t 21), none⟩, ⟨some 3, .mov (.t 22), none⟩, ⟨some 4, .mov (.t 23), none⟩]) (.ret)))))), none, none⟩
def qfO : C := (.seq ((.seq (.ops [⟨some 13, .mov (.t 6), none⟩, ⟨some 14, .mov (.t 0), none⟩, ⟨some 15, .bi .lenS [.t 14], none⟩, ⟨some 16, .bin .lss .num (.t 13) (.t 15), none⟩]) ((.cond (.t 16) (.skip) (.exit 0))))) ((.seq ((.block 1 [0, 3, 4, 5, 6] ((.seq (.ops [⟨some 19, .mov (.t 0), none⟩, ⟨some 20, .mov (.t 6), none⟩, ⟨some 21, .index (.t 19) (.t 20), none⟩, ⟨some 7, .mov (.t 21), none⟩]) ((.seq (.ops [⟨some 22, .mov (.t 5), none⟩, ⟨some 23, .mov (.t 7), none⟩, ⟨some 24, .bin .or .num (.t 22) (.t 23), none⟩, ⟨some 5, .mov (.t 24), none⟩]) ((.seq (.ops [⟨some 25, .mov (.t 7), none⟩, ⟨some 26, .indexAddr (.g 0 (glD 0)) (.t 25) 1 (some 256), none⟩, ⟨some 27, .load false none ⟨1, false⟩ (.t 26), none⟩, ⟨some 28, .conv .i64 (.t 27), none⟩, ⟨some 8, .mov (.mv 28), none⟩]) ((.seq (.ops [⟨some 29, .mov (.t 3), none⟩, ⟨some 30, .mov (.t 4), none⟩, ⟨some 31, .mov (.t 8), none⟩, ⟨some 32, .un .xor (.t 31), none⟩, ⟨some 33, .bin .and .num (.t 30) (.t 32), none⟩, ⟨some 34, .bin .add .num (.t 29) (.t 33), none⟩, ⟨some 3, .mov (.t 34), none⟩]) (.ops [⟨some 35, .mov (.t 8), none⟩, ⟨some 4, .mov (.t 35), none⟩]))))))))))) (.ops [⟨some 17, .mov (.t 6), none⟩, ⟨some 18, .bin .add .num (.t 17) (.c (.i .i64 1)), none⟩, ⟨some 6, .mov (.t 18), none⟩]))))
def qfI : C := .loop [0, 3, 4, 5, 6] qfO
def qfJ : C := (.seq ((.seq (.ops [⟨some 42, .mov (.t 12), none⟩, ⟨some 43, .mov (.t 0), none⟩, ⟨some 44, .bi .lenS [.t 43], none⟩, ⟨some 45, .bin .lss .num (.t 42) (.t 44), none⟩, ⟨some 46, .mov (.t 45), none⟩, ⟨some 47, .mov (.t 0), some (46, true)⟩, ⟨some 48, .mov (.t 12), some (46, true)⟩, ⟨some 49, .index (.t 47) (.t 48), some (46, true)⟩, ⟨some 50, .indexAddr (.g 0 (glD 0)) (.t 49) 1 (some 256), some (46, true)⟩, ⟨some 51, .load false none ⟨1, false⟩ (.t 50), some (46, true)⟩, ⟨some 52, .bin .neq .num (.t 51) (.c (.i .u8 0)), some (46, true)⟩, ⟨some 53, .pick (.t 46) (.t 52) (.c (.b false)), none⟩]) ((.cond (.t 53) (.skip) (.exit 2))))) ((.block 3 [0, 9, 10, 12] (.ops [⟨some 54, .mov (.t 12), none⟩, ⟨some 55, .bin .add .num (.t 54) (.c (.i .i64 1)), none⟩, ⟨some 12, .mov (.t 55), none⟩]))))
def qfG : C := .loop [0, 9, 10, 12] qfJ
def qfQ : C := (.seq ((.seq (.ops [⟨some 80, .mov (.t 12), none⟩, ⟨some 81, .mov (.t 0), none⟩, ⟨some 82, .bi .lenS [.t 81], none⟩, ⟨some 83, .bin .lss .num (.t 80) (.t 82), none⟩, ⟨some 84, .mov (.t 83), none⟩, ⟨some 85, .mov (.t 0), some (84, true)⟩, ⟨some 86, .mov (.t 12), some (84, true)⟩, ⟨some 87, .index (.t 85) (.t 86), some (84, true)⟩, ⟨some 88, .indexAddr (.g 0 (glD 0)) (.t 87) 1 (some 256), some (84, true)⟩, ⟨some 89, .load false none ⟨1, false⟩ (.t 88), some (84, true)⟩, ⟨some 90, .bin .neq .num (.t 89) (.c (.i .u8 0)), some (84, true)⟩, ⟨some 91, .pick (.t 84) (.t 90) (.c (.b false)), none⟩]) ((.cond (.t 91) (.skip) (.exit 6))))) ((.block 7 [0, 9, 10, 12] (.ops [⟨some 92, .mov (.t 12), none⟩, ⟨some 93, .bin .add .num (.t 92) (.c (.i .i64 1)), none⟩, ⟨some 12, .mov (.t 93), none⟩]))))
def qfK : C := .loop [0, 9, 10, 12] qfQ
def qfN : C := .ops [⟨some 94, .mov (.t 12), none⟩, ⟨some 11, .mov (.t 94), none⟩]
def qfL : C := (.seq ((.seq (.ops [⟨some 57, .mov (.t 12), none⟩, ⟨some 58, .mov (.t 0), none⟩, ⟨some 59, .bi .lenS [.t 58], none⟩, ⟨some 60, .bin .lss .num (.t 57) (.t 59), none⟩]) ((.cond (.t 60) (.skip) (.exit 4))))) ((.block 5 [0, 9, 10, 11, 12] ((.seq ((.seq (.ops [⟨some 61, .mov (.t 0), none⟩, ⟨some 62, .mov (.t 12), none⟩, ⟨some 63, .index (.t 61) (.t 62), none⟩, ⟨some 64, .indexAddr (.g 0 (glD 0)) (.t 63) 1 (some 256), none⟩, ⟨some 65, .load false none ⟨1, false⟩ (.t 64), none⟩, ⟨some 66, .bin .eql .num (.t 65) (.c (.i .u8 0)), none⟩]) ((.cond (.t 66) ((.seq (.ops [⟨some 67, .mov (.t 12), none⟩, ⟨some 68, .bin .add .num (.t 67) (.c (.i .i64 1)), none⟩, ⟨some 12, .mov (.t 68), none⟩]) (.exit 5))) (.skip))))) ((.seq (.ops [⟨some 69, .mov (.t 9), none⟩, ⟨some 70, .mov (.t 10), none⟩, ⟨some 71, .mov (.t 0), none⟩, ⟨some 72, .mov (.t 11), none⟩, ⟨some 73, .mov (.t 12), none⟩, ⟨some 74, .sliceS (.t 71) (some (.t 72)) (some (.t 73)), none⟩, ⟨some 75, .indexAddr (.t 69) (.t 70) 1 none, none⟩, ⟨none, .store none ⟨1, false⟩ (.t 75) (.t 74), none⟩]) ((.seq (.ops [⟨some 76, .mov (.t 10), none⟩, ⟨some 77, .bin .add .num (.t 76) (.c (.i .i64 1)), none⟩, ⟨some 10, .mov (.t 77), none⟩]) ((.seq (.ops [⟨some 78, .mov (.t 12), none⟩, ⟨some 79, .bin .add .num (.t 78) (.c (.i .i64 1)), none⟩, ⟨some 12, .mov (.t 79), none⟩]) ((.seq ((.block 6 [0, 9, 10, 12] (qfK))) (qfN))))))))))))))
def qfH : C := .loop [0, 9, 10, 11, 12] qfL
def qfR : C := (.seq ((.seq (.ops [⟨some 95, .mov (.t 11), none⟩, ⟨some 96, .mov (.t 0), none⟩, ⟨some 97, .bi .lenS [.t 96], none⟩, ⟨some 98, .bin .lss .num (.t 95) (.t 97), none⟩]) ((.cond (.t 98) (.ops [⟨some 99, .mov (.t 9), none⟩, ⟨some 100, .mov (.t 10), none⟩, ⟨some 101, .mov (.t 0), none⟩, ⟨some 102, .mov (.t 11), none⟩, ⟨some 103, .sliceS (.t 101) (some (.t 102)) none, none⟩, ⟨some 104, .indexAddr (.t 99) (.t 100) 1 none, none⟩, ⟨none, .store none ⟨1, false⟩ (.t 104) (.t 103), none⟩]) (.skip))))) ((.seq (.ops [⟨some 105, .mov (.t 9), none⟩, ⟨some 2, .mov (.t 105), none⟩]) (.ret))))
def qfS : C := (.seq (.ops [⟨some 56, .mov (.t 12), none⟩, ⟨some 11, .mov (.t 56), none⟩]) ((.seq ((.block 4 [0, 9, 10, 11] (qfH))) (qfR))))
def qfP : C := (.seq ((.seq (.ops [⟨some 36, .mov (.t 5), none⟩, ⟨some 37, .bin .geq .num (.t 36) (.c (.i .u8 128)), none⟩]) ((.cond (.t 37) ((.seq (.ops [⟨some 38, .mov (.mv 0), none⟩, ⟨some 39, .call (.f 36) [.mv 38, (.f 37)], none⟩, ⟨some 2, .mov (.mv 39), none⟩]) (.ret))) (.skip))))) ((.seq (.ops [⟨some 40, .mov (.t 3), none⟩, ⟨some 41, .mkSlice (.s []) (.t 40) (.t 40), none⟩, ⟨some 9, .mov (.mv 41), none⟩]) ((.seq (.ops [⟨some 10, .mov (.c (.i .i64 0)), none⟩]) ((.seq (.ops [⟨some 11, .mov (.c (.i .i64 0)), none⟩]) ((.seq (.ops [⟨some 12, .mov (.c (.i .i64 0)), none⟩]) ((.seq ((.block 2 [0, 9, 10, 12] (qfG))) (qfS))))))))))))
def qdT : Fn := ⟨1, [.t 2], true, (.seq (.ops [⟨some 2, .mov (.c .nil), none⟩]) ((.seq (.ops [⟨some 3, .mov (.c (.i .i64 0)), none⟩]) ((.seq (.ops [⟨some 4, .mov (.c (.i .i64 1)), none⟩]) ((.seq (.ops [⟨some 5, .mov (.c (.i .u8 0)), none⟩]) ((.seq ((.seq (.ops [⟨some 6, .mov (.c (.i .i64 0)), none⟩]) ((.block 0 [0, 3, 5] (qfI))))) (qfP)))))))))), none, none⟩
def qbr : Fn := ⟨1, [.t 2], true, (.seq (.ops [⟨some 2, .mov (.c (.s [])), none⟩]) ((.seq (.ops [⟨some 3, .mov (.mv 0), none⟩, ⟨some 4, .call (.f 38) [.mv 3, (.c (.i .i64 10))], none⟩, ⟨some 2, .mov (.mv 4), none⟩]) (.ret)))), none, none⟩
def qdX : C := (.seq (.ops [⟨some 15, .stuck, none⟩, ⟨some 16, .extract (.t 15) 0, none⟩]) ((.seq ((.cond (.t 16) (.skip) (.exit 0))) ((.block 1 [0, 1, 5, 6, 14] ((.seq (.ops [⟨some 17, .extract (.t 15) 1, none⟩, ⟨some 18, .extract (.t 15) 2, none⟩, ⟨some 7, .mov (.t 17), none⟩, ⟨some 8, .mov (.t 18), none⟩]) ((.seq (.ops [⟨some 19, .mov (.t 1), none⟩, ⟨some 20, .mov (.mv 8), none⟩, ⟨some 21, .call (.t 19) [.mv 20], none⟩]) ((.cond (.t 21) ((.seq (.ops [⟨some 22, .mov (.t 6), none⟩, ⟨some 23, .bin .geq .num (.t 22) (.c (.i .i64 0)), none⟩]) ((.cond (.t 23) ((.seq (.ops [⟨some 24, .mov (.mv 5), none⟩, ⟨some 25, .mov (.t 6), none⟩, ⟨some 26, .mov (.t 7), none⟩, ⟨some 27, .build [(.i .i64 0), (.i .i64 0)] [(0, 1, (.t 25)), (1, 1, (.t 26))], none⟩, ⟨some 28, .buildSlice (.agg [(.i .i64 0), (.i .i64 0)]) 1 [(0, (.t 27))], none⟩, ⟨some 29, .bi (.append 2 16) [.mv 24, (.t 28)], none⟩, ⟨some 5, .mov (.mv 29), none⟩]) (.ops [⟨some 30, .mov (.t 6), none⟩, ⟨some 31, .un .xor (.t 30), none⟩, ⟨some 6, .mov (.t 31), none⟩]))) (.skip))))) ((.seq (.ops [⟨some 32, .mov (.t 6), none⟩, ⟨some 33, .bin .lss .num (.t 32) (.c (.i .i64 0)), none⟩]) ((.cond (.t 33) (.ops [⟨some 34, .mov (.t 7), none⟩, ⟨some 6, .mov (.t 34), none⟩]) (.skip))))))))))))))))
def qdL : C := .loop [0, 1, 5, 6, 14] qdX
def qdN : C := (.seq (.ops [⟨some 50, .bin .lss .num (.t 49) (.t 48), none⟩]) ((.seq ((.cond (.t 50) (.skip) (.exit 2))) ((.seq ((.block 3 [0, 9, 47, 48, 49] ((.seq (.ops [⟨some 51, .mov (.t 49), none⟩, ⟨some 52, .indexAddr (.t 47) (.t 49) 2 none, none⟩, ⟨some 53, .load false none ⟨2, true⟩ (.t 52), none⟩, ⟨some 11, .alloc true [(.i .i64 0), (.i .i64 0)], none⟩, ⟨some 10, .mov (.t 51), none⟩, ⟨none, .store (some 11) ⟨2, true⟩ (.t 11) (.t 53), none⟩]) (.ops [⟨some 54, .mov (.t 9), none⟩, ⟨some 55, .mov (.t 10), none⟩, ⟨some 56, .mov (.t 0), none⟩, ⟨some 57, .fieldAddr (.t 11) 0 ⟨1, false⟩, none⟩, ⟨some 58, .load false (some 11) ⟨1, false⟩ (.t 57), none⟩, ⟨some 59, .fieldAddr (.t 11) 1 ⟨1, false⟩, none⟩, ⟨some 60, .load false (some 11) ⟨1, false⟩ (.t 59), none⟩, ⟨some 61, .sliceS (.t 56) (some (.t 58)) (some (.t 60)), none⟩, ⟨some 62, .indexAddr (.t 54) (.t 55) 1 none, none⟩, ⟨none, .store none ⟨1, false⟩ (.t 62) (.t 61), none⟩]))))) (.ops [⟨some 63, .bin .add .num (.t 49) (.c (.i .i64 1)), none⟩, ⟨some 49, .mov (.t 63), none⟩]))))))
def qed : C := .loop [0, 9, 47, 48, 49] qdN
def qd0 : C := (.seq (.ops [⟨some 64, .mov (.t 9), none⟩, ⟨some 4, .mov (.t 64), none⟩]) (.ret))
def qef : C := (.seq ((.seq (.ops [⟨some 35, .mov (.t 6), none⟩, ⟨some 36, .bin .geq .num (.t 35) (.c (.i .i64 0)), none⟩]) ((.cond (.t 36) (.ops [⟨some 37, .mov (.mv 5), none⟩, ⟨some 38, .mov (.t 6), none⟩, ⟨some 39, .mov (.t 0), none⟩, ⟨some 40, .bi .lenS [.t 39], none⟩, ⟨some 41, .build [(.i .i64 0), (.i .i64 0)] [(0, 1, (.t 38)), (1, 1, (.t 40))], none⟩, ⟨some 42, .buildSlice (.agg [(.i .i64 0), (.i .i64 0)]) 1 [(0, (.t 41))], none⟩, ⟨some 43, .bi (.append 2 16) [.mv 37, (.t 42)], none⟩, ⟨some 5, .mov (.mv 43), none⟩]) (.skip))))) ((.seq (.ops [⟨some 44, .mov (.t 5), none⟩, ⟨some 45, .bi .lenL [.t 44], none⟩, ⟨some 46, .mkSlice (.s []) (.t 45) (.t 45), none⟩, ⟨some 9, .mov (.mv 46), none⟩]) ((.seq ((.seq (.ops [⟨some 47, .mov (.t 5), none⟩, ⟨some 48, .bi .lenL [.t 47], none⟩, ⟨some 49, .mov (.c (.i .i64 0)), none⟩]) ((.block 2 [9] (qed))))) (qd0))))))
def qcv : Fn := ⟨2, [.t 4], true, (.seq (.ops [⟨some 4, .mov (.c .nil), none⟩]) ((.seq (.ops [⟨some 12, .stuck, none⟩, ⟨some 5, .mov (.mv 12), none⟩]) ((.seq (.ops [⟨some 6, .mov (.c (.i .i64 (-1))), none⟩]) ((.seq ((.seq (.ops [⟨some 13, .mov (.t 0), none⟩, ⟨some 14, .stuck, none⟩]) ((.block 0 [0, 5, 6] (qdL))))) (qef)))))))), none, none⟩
def qds : Fn := ⟨1, [.t 2], true, (.seq (.ops [⟨some 2, .mov (.c (.b false)), none⟩]) ((.seq ((.seq (.ops [⟨some 3, .mov (.t 0), none⟩, ⟨some 4, .conv .u32 (.t 3), none⟩, ⟨some 5, .bin .leq .num (.t 4) (.c (.i .u32 255)), none⟩]) ((.cond (.t 5) ((.seq ((.seq (.ops [⟨some 6, .mov (.t 0), none⟩]) ((.block 0 [] ((.seq ((.seq (.ops [⟨some 8, .bin .eql .num (.t 6) (.c (.i .i32 9)), none⟩, ⟨some 7, .mov (.t 8), none⟩]) ((.cond (.t 7) (.skip) ((.seq (.ops [⟨some 9, .bin .eql .num (.t 6) (.c (.i .i32 10)), none⟩, ⟨some 7, .mov (.t 9), none⟩]) ((.cond (.t 7) (.skip) ((.seq (.ops [⟨some 10, .bin .eql .num (.t 6) (.c (.i .i32 11)), none⟩, ⟨some 7, .mov (.t 10), none⟩]) ((.cond (.t 7) (.skip) ((.seq (.ops [⟨some 11, .bin .eql .num (.t 6) (.c (.i .i32 12)), none⟩, ⟨some 7, .mov (.t 11), none⟩]) ((.cond (.t 7) (.skip) ((.seq (.ops [⟨some 12, .bin .eql .num (.t 6) (.c (.i .i32 13)), none⟩, ⟨some 7, .mov (.t 12), none⟩]) ((.cond (.t 7) (.skip) ((.seq (.ops [⟨some 13, .bin .eql .num (.t 6) (.c (.i .i32 32)), none⟩, ⟨some 7, .mov (.t 13), none⟩]) ((.cond (.t 7) (.skip) ((.seq (.ops [⟨some 14, .bin .eql .num (.t 6) (.c (.i .i32 133)), none⟩, ⟨some 7, .mov (.t 14), none⟩]) ((.cond (.t 7) (.skip) (.ops [⟨some 15, .bin .eql .num (.t 6) (.c (.i .i32 160)), none⟩, ⟨some 7, .mov (.t 15), none⟩]))))))))))))))))))))))))))))) ((.cond (.t 7) ((.seq (.ops [⟨some 2, .mov (.c (.b true)), none⟩]) (.ret))) (.skip))))))))) ((.seq (.ops [⟨some 2, .mov (.c (.b false)), none⟩]) (.ret))))) (.skip))))) ((.seq (.ops [⟨some 16, .stuck, none⟩, ⟨some 17, .mov (.mv 0), none⟩, ⟨some 18, .call (.f 39) [.t 16, (.mv 17)], none⟩, ⟨some 2, .mov (.mv 18), none⟩]) (.ret)))))), none, none⟩
def qad : Fn := ⟨2, [.t 4], true, (.seq (.ops [⟨some 4, .mov (.c (.s [])), none⟩]) ((.seq ((.seq (.ops [⟨some 10, .mov (.t 1), none⟩,
 ⟨some 11, .bin .eql .num (.t 10) (.c (.i .i64 10)), none⟩]) ((.cond (.t 11) ((.seq ((.seq (.ops [⟨some 12, .mov (.t 0), none⟩,
 ⟨some 13, .bin .leq .num (.c (.i .i64 0)) (.t 12), none⟩,
 ⟨some 14, .mov (.t 13), none⟩,
 ⟨some 15, .mov (.t 0), some (14, true)⟩,
 ⟨some 16, .bin .lss .num (.t 15) (.c (.i .i64 100)), some (14, true)⟩,
 ⟨some 17, .pick (.t 14) (.t 16) (.c (.b false)), none⟩]) ((.cond (.t 17) ((.seq (.ops [⟨some 18, .mov (.mv 0), none⟩,
 ⟨some 19, .call (.f 40) [.mv 18], none⟩,
 ⟨some 4, .mov (.mv 19), none⟩]) (.ret))) (.skip))))) ((.seq (.ops [⟨some 5, .alloc false [(.i .u8 0), (.i .u8 0), (.i .u8 0), (.i .u8 0), (.i .u8 0), (.i .u8 0), (.i .u8 0), (.i .u8 0), (.i .u8 0), (.i .u8 0), (.i .u8 0), (.i .u8 0), (.i .u8 0), (.i .u8 0), (.i .u8 0), (.i .u8 0), (.i .u8 0), (.i .u8 0), (.i .u8 0), (.i .u8 0), (.i .u8 0), (.i .u8 0), (.i .u8 0), (.i .u8 0)], none⟩]) ((.seq (.ops [⟨some 20, .mov (.t 0), none⟩,
 ⟨some 21, .conv .u64 (.t 20), none⟩,
 ⟨some 6, .mov (.mv 21), none⟩]) ((.seq ((.seq (.ops [⟨some 22, .mov (.t 0), none⟩,
 ⟨some 23, .bin .lss .num (.t 22) (.c (.i .i64 0)), none⟩]) ((.cond (.t 23) (.ops [⟨some 24, .mov (.t 6), none⟩,
 ⟨some 25, .un .neg (.t 24), none⟩,
 ⟨some 6, .mov (.t 25), none⟩]) (.skip))))) ((.seq (.ops [⟨some 26, .mov (.t 6), none⟩,
 ⟨some 27, .call (.f 41) [.t 26], none⟩,
 ⟨some 7, .mov (.mv 27), none⟩]) ((.seq (.ops [⟨some 28, .mov (.t 7), none⟩,
 ⟨some 29, .bin .add .num (.c (.i .i64 1)) (.t 28), none⟩,
 ⟨some 30, .sliceA 24 (.t 5) (some (.c (.i .i64 1))) (some (.t 29)), none⟩,
 ⟨some 31, .mov (.mv 6), none⟩,
 ⟨some 32, .call (.f 42) [.t 30, (.mv 31)], none⟩]) ((.seq ((.seq (.ops [⟨some 33, .mov (.t 0), none⟩,
 ⟨some 34, .bin .lss .num (.t 33) (.c (.i .i64 0)), none⟩]) ((.cond (.t 34) ((.seq (.ops [⟨some 35, .indexAddr (.t 5) (.c (.i .i64 0)) 1 (some 24), none⟩,
 ⟨none, .store none ⟨1, false⟩ (.t 35) (.c (.i .u8 45)), none⟩]) ((.seq (.ops [⟨some 36, .mov (.t 7), none⟩,
 ⟨some 37, .bin .add .num (.c (.i .i64 1)) (.t 36), none⟩,
 ⟨some 38, .sliceA 24 (.t 5) none (some (.t 37)), none⟩,
 ⟨some 39, .text (.t 38), none⟩,
 ⟨some 4, .mov (.mv 39), none⟩]) (.ret))))) (.skip))))) ((.seq (.ops [⟨some 40, .mov (.t 7), none⟩,
 ⟨some 41, .bin .add .num (.c (.i .i64 1)) (.t 40), none⟩,
 ⟨some 42, .sliceA 24 (.t 5) (some (.c (.i .i64 1))) (some (.t 41)), none⟩,
 ⟨some 43, .text (.t 42), none⟩,
 ⟨some 4, .mov (.mv 43), none⟩]) (.ret))))))))))))))))) (.skip))))) ((.seq (.ops [⟨some 45, .mov (.t 0), none⟩,
 ⟨some 46, .conv .u64 (.t 45), none⟩,
 ⟨some 47, .mov (.mv 1), none⟩,
 ⟨some 48, .mov (.t 0), none⟩,
 ⟨some 49, .bin .lss .num (.t 48) (.c (.i .i64 0)), none⟩,
 ⟨some 50, .call (.f 43) [(.c .nil), (.t 46), (.mv 47), (.t 49), (.c (.b false))], none⟩,
 ⟨some 44, .mov (.t 50), none⟩,
 ⟨some 51, .extract (.t 44) 0, none⟩,
 ⟨some 52, .extract (.t 44) 1, none⟩,
 ⟨some 8, .mov (.t 51), none⟩,
 ⟨some 9, .mov (.t 52), none⟩]) ((.seq (.ops [⟨some 53, .mov (.t 9), none⟩,
 ⟨some 4, .mov (.t 53), none⟩]) (.ret)))))))), none, none⟩
def qay : Fn := ⟨2, [.t 4], true, (.seq (.ops [⟨some 4, .mov (.c (.b false)), none⟩]) ((.seq (.ops [⟨some 8, .mov (.t 0), none⟩,
 ⟨some 9, .nilCheck (.t 8), none⟩,
 ⟨some 10, .fieldAddr (.t 9) 0 ⟨1, false⟩, none⟩,
 ⟨some 11, .load false none ⟨1, false⟩ (.t 10), none⟩,
 ⟨some 5, .mov (.t 11), none⟩]) ((.seq ((.seq (.ops [⟨some 12, .mov (.t 0), none⟩,
 ⟨some 13, .nilCheck (.t 12), none⟩,
 ⟨some 14, .fieldAddr (.t 13) 2 ⟨1, false⟩, none⟩,
 ⟨some 15, .load false none ⟨1, false⟩ (.t 14), none⟩,
 ⟨some 6, .mov (.t 15), none⟩]) ((.seq (.ops [⟨some 16, .mov (.t 5), none⟩,
 ⟨some 17, .bi .lenL [.t 16], none⟩,
 ⟨some 18, .mov (.t 6), none⟩,
 ⟨some 19, .bin .gtr .num (.t 17) (.t 18), none⟩,
 ⟨some 20, .mov (.t 19), none⟩,
 ⟨some 21, .mov (.t 1), some (20, true)⟩,
 ⟨some 22, .conv .u32 (.t 21), some (20, true)⟩,
 ⟨some 23, .mov (.t 5), some (20, true)⟩,
 ⟨some 24, .mov (.t 5), some (20, true)⟩,
 ⟨some 25, .bi .lenL [.t 24], some (20, true)⟩,
 ⟨some 26, .bin .sub .num (.t 25) (.c (.i .i64 1)), some (20, true)⟩,
 ⟨some 27, .indexAddr (.t 23) (.t 26) 3 none, some (20, true)⟩,
 ⟨some 28, .fieldAddr (.t 27) 1 ⟨1, false⟩, some (20, true)⟩,
 ⟨some 29, .load false none ⟨1, false⟩ (.t 28), some (20, true)⟩,
 ⟨some 30, .conv .u32 (.t 29), some (20, true)⟩,
 ⟨some 31, .bin .leq .num (.t 22) (.t 30), some (20, true)⟩,
 ⟨some 32, .pick (.t 20) (.t 31) (.c (.b false)), none⟩]) ((.cond (.t 32) ((.seq (.ops [⟨some 33, .mov (.t 5), none⟩,
 ⟨some 34, .mov (.t 6), none⟩,
 ⟨some 35, .sliceL 3 (.t 33) (some (.t 34)) none, none⟩,
 ⟨some 36, .mov (.t 1), none⟩,
 ⟨some 37, .conv .u16 (.t 36), none⟩,
 ⟨some 38, .call (.f 44) [.t 35, (.t 37)], none⟩,
 ⟨some 4, .mov (.mv 38), none⟩]) (.ret))) (.skip))))))) ((.seq (.ops [⟨some 39, .mov (.t 0), none⟩,
 ⟨some 40, .nilCheck (.t 39), none⟩,
 ⟨some 41, .fieldAddr (.t 40) 1 ⟨1, false⟩, none⟩,
 ⟨some 42, .load false none ⟨1, false⟩ (.t 41), none⟩,
 ⟨some 7, .mov (.t 42), none⟩]) ((.seq ((.seq (.ops [⟨some 43, .mov (.t 7), none⟩,
 ⟨some 44, .bi .lenL [.t 43], none⟩,
 ⟨some 45, .bin .gtr .num (.t 44) (.c (.i .i64 0)), none⟩,
 ⟨some 46, .mov (.t 45), none⟩,
 ⟨some 47, .mov (.t 1), some (46, true)⟩,
 ⟨some 48, .mov (.t 7), some (46, true)⟩,
 ⟨some 49, .indexAddr (.t 48) (.c (.i .i64 0)) 3 none, some (46, true)⟩,
 ⟨some 50, .fieldAddr (.t 49) 0 ⟨1, false⟩, some (46, true)⟩,
 ⟨some 51, .load false none ⟨1, false⟩ (.t 50), some (46, true)⟩,
 ⟨some 52, .conv .i32 (.t 51), some (46, true)⟩,
 ⟨some 53, .bin .geq .num (.t 47) (.t 52), some (46, true)⟩,
 ⟨some 54, .pick (.t 46) (.t 53) (.c (.b false)), none⟩]) ((.cond (.t 54) ((.seq (.ops [⟨some 55, .mov (.mv 7), none⟩,
 ⟨some 56, .mov (.t 1), none⟩,
 ⟨some 57, .conv .u32 (.t 56), none⟩,
 ⟨some 58, .call (.f 45) [.mv 55, (.t 57)], none⟩,
 ⟨some 4, .mov (.mv 58), none⟩]) (.ret))) (.skip))))) ((.seq (.ops [⟨some 4, .mov (.c (.b false)), none⟩]) (.ret)))))))))))), none, none⟩
def qa8 : Fn := ⟨1, [.t 2], true, (.seq (.ops [⟨some 2, .mov (.c (.s [])), none⟩]) ((.seq ((.seq (.ops [⟨some 3, .mov (.t 0), none⟩, ⟨some 4, .bin .lss .num (.t 3) (.c (.i .i64 10)), none⟩]) ((.cond (.t 4) ((.seq (.ops [⟨some 5, .mov (.t 0), none⟩, ⟨some 6, .mov (.t 0), none⟩, ⟨some 7, .bin .add .num (.t 6) (.c (.i .i64 1)), none⟩, ⟨some 8, .sliceS (.c (.s [48, 49, 50, 51, 52, 53, 54, 55, 56, 57, 97, 98, 99, 100, 101, 102, 103, 104, 105, 106, 107, 108, 109, 110, 111, 112, 113, 114, 115, 116, 117, 118, 119, 120, 121, 122])) (some (.t 5)) (some (.t 7)), none⟩, ⟨some 2, .mov (.t 8), none⟩]) (.ret))) (.skip))))) ((.seq (.ops [⟨some 9, .mov (.t 0), none⟩, ⟨some 10, .bin .mul .num (.t 9) (.c (.i .i64 2)), none⟩, ⟨some 11, .mov (.t 0), none⟩, ⟨some 12, .bin .mul .num (.t 11) (.c (.i .i64 2)), none⟩, ⟨some 13, .bin .add .num (.t 12) (.c (.i .i64 2)), none⟩, ⟨some 14, .sliceS (.c (.s [48, 48, 48, 49, 48, 50, 48, 51, 48, 52, 48, 53, 48, 54, 48, 55, 48, 56, 48, 57, 49, 48, 49, 49, 49, 50, 49, 51, 49, 52, 49, 53, 49, 54, 49, 55, 49, 56, 49, 57, 50, 48, 50, 49, 50, 50, 50, 51, 50, 52, 50, 53, 50, 54, 50, 55, 50, 56, 50, 57, 51, 48, 51, 49, 51, 50, 51, 51, 51, 52, 51, 53, 51, 54, 51, 55, 51, 56, 51, 57, 52, 48, 52, 49, 52, 50, 52, 51, 52, 52, 52, 53, 52, 54, 52, 55, 52, 56, 52, 57, 53, 48, 53, 49, 53, 50, 53, 51, 53, 52, 53, 53, 53, 54, 53, 55, 53, 56, 53, 57, 54, 48, 54, 49, 54, 50, 54, 51, 54, 52, 54, 53, 54, 54, 54, 55, 54, 56, 54, 57, 55, 48, 55, 49, 55, 50, 55, 51, 55, 52, 55, 53, 55, 54, 55, 55, 55, 56, 55, 57, 56, 48, 56, 49, 56, 50, 56, 51, 56, 52, 56, 53, 56, 54, 56, 55, 56, 56, 56, 57, 57, 48, 57, 49, 57, 50, 57, 51, 57, 52, 57, 53, 57, 54, 57, 55, 57, 56, 57, 57])) (some (.t 10)) (some (.t 13)), none⟩, ⟨some 2, .mov (.t 14), none⟩]) (.ret)))))), none, none⟩
def qaf : Fn := ⟨1, [.t 2], true, (.seq (.ops [⟨some 2, .mov (.c (.i .i64 0)), none⟩]) ((.seq (.ops [⟨some 4, .mov (.t 0), none⟩, ⟨some 5, .call (.f 47) [.t 4], none⟩, ⟨some 6, .call (.f 46) [.t 5], none⟩, ⟨some 3, .mov (.mv 6), none⟩]) ((.seq (.ops [⟨some 7, .mov (.t 3), none⟩, ⟨some 8, .mov (.t 0), none⟩, ⟨some 9, .mov (.t 3), none⟩, ⟨some 10, .indexAddr (.g 2 (glD 2)) (.t 9) 1 (some 20), none⟩, ⟨some 11, .load false none ⟨1, false⟩ (.t 10), none⟩, ⟨some 12, .bin .geq .num (.t 8) (.t 11), none⟩, ⟨some 13, .call (.f 48) [.t 12], none⟩, ⟨some 14, .bin .add .num (.t 7) (.t 13), none⟩, ⟨some 2, .mov (.t 14), none⟩]) (.ret)))))), none, none⟩
def qbm : C := (.seq ((.seq (.ops [⟨some 19, .mov (.t 4), none⟩,
 ⟨some 20, .bin .geq .num (.t 19) (.c (.i .i64 8)), none⟩]) ((.cond (.t 20) (.skip) (.exit 0))))) ((.block 1 [0, 1, 4] ((.seq (.ops [⟨some 21, .mov (.t 1), none⟩,
 ⟨some 22, .bin .rem .num (.t 21) (.c (.i .u64 100000000)), none⟩,
 ⟨some 23, .conv .u32 (.t 22), none⟩,
 ⟨some 5, .mov (.mv 23), none⟩]) ((.seq (.ops [⟨some 24, .mov (.t 1), none⟩,
 ⟨some 25, .bin .quo .num (.t 24) (.c (.i .u64 100000000)), none⟩,
 ⟨some 1, .mov (.t 25), none⟩]) ((.seq (.ops [⟨some 26, .mov (.t 5), none⟩,
 ⟨some 27, .bin .quo .num (.t 26) (.c (.i .u32 10000)), none⟩,
 ⟨some 28, .mov (.t 5), none⟩,
 ⟨some 29, .bin .rem .num (.t 28) (.c (.i .u32 10000)), none⟩,
 ⟨some 6, .mov (.t 27), none⟩,
 ⟨some 7, .mov (.t 29), none⟩]) ((.seq (.ops [⟨some 30, .mov (.t 7), none⟩,
 ⟨some 31, .bin .quo .num (.t 30) (.c (.i .u32 100)), none⟩,
 ⟨some 32, .bin .mul .num (.t 31) (.c (.i .u32 2)), none⟩,
 ⟨some 33, .mov (.t 7), none⟩,
 ⟨some 34, .bin .rem .num (.t 33) (.c (.i .u32 100)), none⟩,
 ⟨some 35, .bin .mul .num (.t 34) (.c (.i .u32 2)), none⟩,
 ⟨some 8, .mov (.t 32), none⟩,
 ⟨some 9, .mov (.t 35), none⟩]) ((.seq (.ops [⟨some 36, .mov (.t 6), none⟩,
 ⟨some 37, .bin .quo .num (.t 36) (.c (.i .u32 100)), none⟩,
 ⟨some 38, .bin .mul .num (.t 37) (.c (.i .u32 2)), none⟩,
 ⟨some 39, .mov (.t 6), none⟩,
 ⟨some 40, .bin .rem .num (.t 39) (.c (.i .u32 100)), none⟩,
 ⟨some 41, .bin .mul .num (.t 40) (.c (.i .u32 2)), none⟩,
 ⟨some 10, .mov (.t 38), none⟩,
 ⟨some 11, .mov (.t 41), none⟩]) ((.seq (.opsD [(⟨some 42, .mov (.t 0), none⟩, false, []), (⟨some 43, .mov (.t 4), none⟩, false, []), (⟨some 44, .bin .sub .num (.t 43) (.c (.i .i64 1)), none⟩, false, []), (⟨some 45, .mov (.t 0), none⟩, false, []), (⟨some 46, .mov (.t 4), none⟩, false, []), (⟨some 47, .bin .sub .num (.t 46) (.c (.i .i64 2)), none⟩, false, []), (⟨some 48, .mov (.t 9), none⟩, false, []), (⟨some 49, .bin .add .num (.t 48) (.c (.i .u32 1)), none⟩, false, []), (⟨some 50, .index (.c (.s [48, 48, 48, 49, 48, 50, 48, 51, 48, 52, 48, 53, 48, 54, 48, 55, 48, 56, 48, 57, 49, 48, 49, 49, 49, 50, 49, 51, 49, 52, 49, 53, 49, 54, 49, 55, 49, 56, 49, 57, 50, 48, 50, 49, 50, 50, 50, 51, 50, 52, 50, 53, 50, 54, 50, 55, 50, 56, 50, 57, 51, 48, 51, 49, 51, 50, 51, 51, 51, 52, 51, 53, 51, 54, 51, 55, 51, 56, 51, 57, 52, 48, 52, 49, 52, 50, 52, 51, 52, 52, 52, 53, 52, 54, 52, 55, 52, 56, 52, 57, 53, 48, 53, 49, 53, 50, 53, 51, 53, 52, 53, 53, 53, 54, 53, 55, 53, 56, 53, 57, 54, 48, 54, 49, 54, 50, 54, 51, 54, 52, 54, 53, 54, 54, 54, 55, 54, 56, 54, 57, 55, 48, 55, 49, 55, 50, 55, 51, 55, 52, 55, 53, 55, 54, 55, 55, 55, 56, 55, 57, 56, 48, 56, 49, 56, 50, 56, 51, 56, 52, 56, 53, 56, 54, 56, 55, 56, 56, 56, 57, 57, 48, 57, 49, 57, 50, 57, 51, 57, 52, 57, 53, 57, 54, 57, 55, 57, 56, 57, 57])) (.t 49), none⟩, false, []), (⟨some 51, .mov (.t 9), none⟩, false, []), (⟨some 52, .index (.c (.s [48, 48, 48, 49, 48, 50, 48, 51, 48, 52, 48, 53, 48, 54, 48, 55, 48, 56, 48, 57, 49, 48, 49, 49, 49, 50, 49, 51, 49, 52, 49, 53, 49, 54, 49, 55, 49, 56, 49, 57, 50, 48, 50, 49, 50, 50, 50, 51, 50, 52, 50, 53, 50, 54, 50, 55, 50, 56, 50, 57, 51, 48, 51, 49, 51, 50, 51, 51, 51, 52, 51, 53, 51, 54, 51, 55, 51, 56, 51, 57, 52, 48, 52, 49, 52, 50, 52, 51, 52, 52, 52, 53, 52, 54, 52, 55, 52, 56, 52, 57, 53, 48, 53, 49, 53, 50, 53, 51, 53, 52, 53, 53, 53, 54, 53, 55, 53, 56, 53, 57, 54, 48, 54, 49, 54, 50, 54, 51, 54, 52, 54, 53, 54, 54, 54, 55, 54, 56, 54, 57, 55, 48, 55, 49, 55, 50, 55, 51, 55, 52, 55, 53, 55, 54, 55, 55, 55, 56, 55, 57, 56, 48, 56, 49, 56, 50, 56, 51, 56, 52, 56, 53, 56, 54, 56, 55, 56, 56, 56, 57, 57, 48, 57, 49, 57, 50, 57, 51, 57, 52, 57, 53, 57, 54, 57, 55, 57, 56, 57, 57])) (.t 51), none⟩, false, []), (⟨some 53, .indexAddr (.t 42) (.t 44) 1 none, none⟩, false, []), (⟨none, .store none ⟨1, false⟩ (.t 53) (.t 50), none⟩, true, []), (⟨some 54, .indexAddr (.t 45) (.t 47) 1 none, none⟩, true, []), (⟨none, .store none ⟨1, false⟩ (.t 54) (.t 52), none⟩, true, [])]) ((.seq (.opsD [(⟨some 55, .mov (.t 0), none⟩, false, []), (⟨some 56, .mov (.t 4), none⟩, false, []), (⟨some 57, .bin .sub .num (.t 56) (.c (.i .i64 3)), none⟩, false, []), (⟨some 58, .mov (.t 0), none⟩, false, []), (⟨some 59, .mov (.t 4), none⟩, false, []), (⟨some 60, .bin .sub .num (.t 59) (.c (.i .i64 4)), none⟩, false, []), (⟨some 61, .mov (.t 8), none⟩, false, []), (⟨some 62, .bin .add .num (.t 61) (.c (.i .u32 1)), none⟩, false, []), (⟨some 63, .index (.c (.s [48, 48, 48, 49, 48, 50, 48, 51, 48, 52, 48, 53, 48, 54, 48, 55, 48, 56, 48, 57, 49, 48, 49, 49, 49, 50, 49, 51, 49, 52, 49, 53, 49, 54, 49, 55, 49, 56, 49, 57, 50, 48, 50, 49, 50, 50, 50, 51, 50, 52, 50, 53, 50, 54, 50, 55, 50, 56, 50, 57, 51, 48, 51, 49, 51, 50, 51, 51, 51, 52, 51, 53, 51, 54, 51, 55, 51, 56, 51, 57, 52, 48, 52, 49, 52, 50, 52, 51, 52, 52, 52, 53, 52, 54, 52, 55, 52, 56, 52, 57, 53, 48, 53, 49, 53, 50, 53, 51, 53, 52, 53, 53, 53, 54, 53, 55, 53, 56, 53, 57, 54, 48, 54, 49, 54, 50, 54, 51, 54, 52, 54, 53, 54, 54, 54, 55, 54, 56, 54, 57, 55, 48, 55, 49, 55, 50, 55, 51, 55, 52, 55, 53, 55, 54, 55, 55, 55, 56, 55, 57, 56, 48, 56, 49, 56, 50, 56, 51, 56, 52, 56, 53, 56, 54, 56, 55, 56, 56, 56, 57, 57, 48, 57, 49, 57, 50, 57, 51, 57, 52, 57, 53, 57, 54, 57, 55, 57, 56, 57, 57])) (.t 62), none⟩, false, []), (⟨some 64, .mov (.t 8), none⟩, false, []), (⟨some 65, .index (.c (.s [48, 48, 48, 49, 48, 50, 48, 51, 48, 52, 48, 53, 48, 54, 48, 55, 48, 56, 48, 57, 49, 48, 49, 49, 49, 50, 49, 51, 49, 52, 49, 53, 49, 54, 49, 55, 49, 56, 49, 57, 50, 48, 50, 49, 50, 50, 50, 51, 50, 52, 50, 53, 50, 54, 50, 55, 50, 56, 50, 57, 51, 48, 51, 49, 51, 50, 51, 51, 51, 52, 51, 53, 51, 54, 51, 55, 51, 56, 51, 57, 52, 48, 52, 49, 52, 50, 52, 51, 52, 52, 52, 53, 52, 54, 52, 55, 52, 56, 52, 57, 53, 48, 53, 49, 53, 50, 53, 51, 53, 52, 53, 53, 53, 54, 53, 55, 53, 56, 53, 57, 54, 48, 54, 49, 54, 50, 54, 51, 54, 52, 54, 53, 54, 54, 54, 55, 54, 56, 54, 57, 55, 48, 55, 49, 55, 50, 55, 51, 55, 52, 55, 53, 55, 54, 55, 55, 55, 56, 55, 57, 56, 48, 56, 49, 56, 50, 56, 51, 56, 52, 56, 53, 56, 54, 56, 55, 56, 56, 56, 57, 57, 48, 57, 49, 57, 50, 57, 51, 57, 52, 57, 53, 57, 54, 57, 55, 57, 56, 57, 57])) (.t 64), none⟩, false, []), (⟨some 66, .indexAddr (.t 55) (.t 57) 1 none, none⟩, false, []), (⟨none, .store none ⟨1, false⟩ (.t 66) (.t 63), none⟩, true, []), (⟨some 67, .indexAddr (.t 58) (.t 60) 1 none, none⟩, true, []), (⟨none, .store none ⟨1, false⟩ (.t 67) (.t 65), none⟩, true, [])]) ((.seq (.opsD [(⟨some 68, .mov (.t 0), none⟩, false, []), (⟨some 69, .mov (.t 4), none⟩, false, []), (⟨some 70, .bin .sub .num (.t 69) (.c (.i .i64 5)), none⟩, false, []), (⟨some 71, .mov (.t 0), none⟩, false, []), (⟨some 72, .mov (.t 4), none⟩, false, []), (⟨some 73, .bin .sub .num (.t 72) (.c (.i .i64 6)), none⟩, false, []), (⟨some 74, .mov (.t 11), none⟩, false, []), (⟨some 75, .bin .add .num (.t 74) (.c (.i .u32 1)), none⟩, false, []), (⟨some 76, .index (.c (.s [48, 48, 48, 49, 48, 50, 48, 51, 48, 52, 48, 53, 48, 54, 48, 55, 48, 56, 48, 57, 49, 48, 49, 49, 49, 50, 49, 51, 49, 52, 49, 53, 49, 54, 49, 55, 49, 56, 49, 57, 50, 48, 50, 49, 50, 50, 50, 51, 50, 52, 50, 53, 50, 54, 50, 55, 50, 56, 50, 57, 51, 48, 51, 49, 51, 50, 51, 51, 51, 52, 51, 53, 51, 54, 51, 55, 51, 56, 51, 57, 52, 48, 52, 49, 52, 50, 52, 51, 52, 52, 52, 53, 52, 54, 52, 55, 52, 56, 52, 57, 53, 48, 53, 49, 53, 50, 53, 51, 53, 52, 53, 53, 53, 54, 53, 55, 53, 56, 53, 57, 54, 48, 54, 49, 54, 50, 54, 51, 54, 52, 54, 53, 54, 54, 54, 55, 54, 56, 54, 57, 55, 48, 55, 49, 55, 50, 55, 51, 55, 52, 55, 53, 55, 54, 55, 55, 55, 56, 55, 57, 56, 48, 56, 49, 56, 50, 56, 51, 56, 52, 56, 53, 56, 54, 56, 55, 56, 56, 56, 57, 57, 48, 57, 49, 57, 50, 57, 51, 57, 52, 57, 53, 57, 54, 57, 55, 57, 56, 57, 57])) (.t 75), none⟩, false, []), (⟨some 77, .mov (.t 11), none⟩, false, []), (⟨some 78, .index (.c (.s [48, 48, 48, 49, 48, 50, 48, 51, 48, 52, 48, 53, 48, 54, 48, 55, 48, 56, 48, 57, 49, 48, 49, 49, 49, 50, 49, 51, 49, 52, 49, 53, 49, 54, 49, 55, 49, 56, 49, 57, 50, 48, 50, 49, 50, 50, 50, 51, 50, 52, 50, 53, 50, 54, 50, 55, 50, 56, 50, 57, 51, 48, 51, 49, 51, 50, 51, 51, 51, 52, 51, 53, 51, 54, 51, 55, 51, 56, 51, 57, 52, 48, 52, 49, 52, 50, 52, 51, 52, 52, 52, 53, 52, 54, 52, 55, 52, 56, 52, 57, 53, 48, 53, 49, 53, 50, 53, 51, 53, 52, 53, 53, 53, 54, 53, 55, 53, 56, 53, 57, 54, 48, 54, 49, 54, 50, 54, 51, 54, 52, 54, 53, 54, 54, 54, 55, 54, 56, 54, 57, 55, 48, 55, 49, 55, 50, 55, 51, 55, 52, 55, 53, 55, 54, 55, 55, 55, 56, 55, 57, 56, 48, 56, 49, 56, 50, 56, 51, 56, 52, 56, 53, 56, 54, 56, 55, 56, 56, 56, 57, 57, 48, 57, 49, 57, 50, 57, 51, 57, 52, 57, 53, 57, 54, 57, 55, 57, 56, 57, 57])) (.t 77), none⟩, false, []), (⟨some 79, .indexAddr (.t 68) (.t 70) 1 none, none⟩, false, []), (⟨none, .store none ⟨1, false⟩ (.t 79) (.t 76), none⟩, true, []), (⟨some 80, .indexAddr (.t 71) (.t 73) 1 none, none⟩, true, []), (⟨none, .store none ⟨1, false⟩ (.t 80) (.t 78), none⟩, true, [])]) ((.seq (.opsD [(⟨some 81, .mov (.t 0), none⟩, false, []), (⟨some 82, .mov (.t 4), none⟩, false, []), (⟨some 83, .bin .sub .num (.t 82) (.c (.i .i64 7)), none⟩, false, []), (⟨some 84, .mov (.t 0), none⟩, false, []), (⟨some 85, .mov (.t 4), none⟩, false, []), (⟨some 86, .bin .sub .num (.t 85) (.c (.i .i64 8)), none⟩, false, []), (⟨some 87, .mov (.t 10), none⟩, false, []), (⟨some 88, .bin .add .num (.t 87) (.c (.i .u32 1)), none⟩, false, []), (⟨some 89, .index (.c (.s [48, 48, 48, 49, 48, 50, 48, 51, 48, 52, 48, 53, 48, 54, 48, 55, 48, 56, 48, 57, 49, 48, 49, 49, 49, 50, 49, 51, 49, 52, 49, 53, 49, 54, 49, 55, 49, 56, 49, 57, 50, 48, 50, 49, 50, 50, 50, 51, 50, 52, 50, 53, 50, 54, 50, 55, 50, 56, 50, 57, 51, 48, 51, 49, 51, 50, 51, 51, 51, 52, 51, 53, 51, 54, 51, 55, 51, 56, 51, 57, 52, 48, 52, 49, 52, 50, 52, 51, 52, 52, 52, 53, 52, 54, 52, 55, 52, 56, 52, 57, 53, 48, 53, 49, 53, 50, 53, 51, 53, 52, 53, 53, 53, 54, 53, 55, 53, 56, 53, 57, 54, 48, 54, 49, 54, 50, 54, 51, 54, 52, 54, 53, 54, 54, 54, 55, 54, 56, 54, 57, 55, 48, 55, 49, 55, 50, 55, 51, 55, 52, 55, 53, 55, 54, 55, 55, 55, 56, 55, 57, 56, 48, 56, 49, 56, 50, 56, 51, 56, 52, 56, 53, 56, 54, 56, 55, 56, 56, 56, 57, 57, 48, 57, 49, 57, 50, 57, 51, 57, 52, 57, 53, 57, 54, 57, 55, 57, 56, 57, 57])) (.t 88), none⟩, false, []), (⟨some 90, .mov (.t 10), none⟩, false, []), (⟨some 91, .index (.c (.s [48, 48, 48, 49, 48, 50, 48, 51, 48, 52, 48, 53, 48, 54, 48, 55, 48, 56, 48, 57, 49, 48, 49, 49, 49, 50, 49, 51, 49, 52, 49, 53, 49, 54, 49, 55, 49, 56, 49, 57, 50, 48, 50, 49, 50, 50, 50, 51, 50, 52, 50, 53, 50, 54, 50, 55, 50, 56, 50, 57, 51, 48, 51, 49, 51, 50, 51, 51, 51, 52, 51, 53, 51, 54, 51, 55, 51, 56, 51, 57, 52, 48, 52, 49, 52, 50, 52, 51, 52, 52, 52, 53, 52, 54, 52, 55, 52, 56, 52, 57, 53, 48, 53, 49, 53, 50, 53, 51, 53, 52, 53, 53, 53, 54, 53, 55, 53, 56, 53, 57, 54, 48, 54, 49, 54, 50, 54, 51, 54, 52, 54, 53, 54, 54, 54, 55, 54, 56, 54, 57, 55, 48, 55, 49, 55, 50, 55, 51, 55, 52, 55, 53, 55, 54, 55, 55, 55, 56, 55, 57, 56, 48, 56, 49, 56, 50, 56, 51, 56, 52, 56, 53, 56, 54, 56, 55, 56, 56, 56, 57, 57, 48, 57, 49, 57, 50, 57, 51, 57, 52, 57, 53, 57, 54, 57, 55, 57, 56, 57, 57])) (.t 90), none⟩, false, []), (⟨some 92, .indexAddr (.t 81) (.t 83) 1 none, none⟩, false, []), (⟨none, .store none ⟨1, false⟩ (.t 92) (.t 89), none⟩, true, []), (⟨some 93, .indexAddr (.t 84) (.t 86) 1 none, none⟩, true, []), (⟨none, .store none ⟨1, false⟩ (.t 93) (.t 91), none⟩, true, [])]) (.ops [⟨some 94, .mov (.t 4), none⟩,
 ⟨some 95, .bin .sub .num (.t 94) (.c (.i .i64 8)), none⟩,
 ⟨some 4, .mov (.t 95), none⟩]))))))))))))))))))))))
def qbq : C := .loop [0, 1, 4] qbm
def qbp : C := (.seq (.ops [⟨some 96, .mov (.t 1), none⟩,
 ⟨some 97, .conv .u32 (.t 96), none⟩,
 ⟨some 12, .mov (.mv 97), none⟩]) ((.seq ((.seq (.ops [⟨some 98, .mov (.t 4), none⟩,
 ⟨some 99, .bin .geq .num (.t 98) (.c (.i .i64 4)), none⟩]) ((.cond (.t 99) ((.seq (.ops [⟨some 100, .mov (.t 12), none⟩,
 ⟨some 101, .bin .rem .num (.t 100) (.c (.i .u32 10000)), none⟩,
 ⟨some 13, .mov (.t 101), none⟩]) ((.seq (.ops [⟨some 102, .mov (.t 12), none⟩,
 ⟨some 103, .bin .quo .num (.t 102) (.c (.i .u32 10000)), none⟩,
 ⟨some 12, .mov (.t 103), none⟩]) ((.seq (.ops [⟨some 104, .mov (.t 13), none⟩,
 ⟨some 105, .bin .quo .num (.t 104) (.c (.i .u32 100)), none⟩,
 ⟨some 106, .bin .mul .num (.t 105) (.c (.i .u32 2)), none⟩,
 ⟨some 107, .mov (.t 13), none⟩,
 ⟨some 108, .bin .rem .num (.t 107) (.c (.i .u32 100)), none⟩,
 ⟨some 109, .bin .mul .num (.t 108) (.c (.i .u32 2)), none⟩,
 ⟨some 14, .mov (.t 106), none⟩,
 ⟨some 15, .mov (.t 109), none⟩]) ((.seq (.opsD [(⟨some 110, .mov (.t 0), none⟩, false, []), (⟨some 111, .mov (.t 4), none⟩, false, []), (⟨some 112, .bin .sub .num (.t 111) (.c (.i .i64 1)), none⟩, false, []), (⟨some 113, .mov (.t 0), none⟩, false, []), (⟨some 114, .mov (.t 4), none⟩, false, []), (⟨some 115, .bin .sub .num (.t 114) (.c (.i .i64 2)), none⟩, false, []), (⟨some 116, .mov (.t 15), none⟩, false, []), (⟨some 117, .bin .add .num (.t 116) (.c (.i .u32 1)), none⟩, false, []), (⟨some 118, .index (.c (.s [48, 48, 48, 49, 48, 50, 48, 51, 48, 52, 48, 53, 48, 54, 48, 55, 48, 56, 48, 57, 49, 48, 49, 49, 49, 50, 49, 51, 49, 52, 49, 53, 49, 54, 49, 55, 49, 56, 49, 57, 50, 48, 50, 49, 50, 50, 50, 51, 50, 52, 50, 53, 50, 54, 50, 55, 50, 56, 50, 57, 51, 48, 51, 49, 51, 50, 51, 51, 51, 52, 51, 53, 51, 54, 51, 55, 51, 56, 51, 57, 52, 48, 52, 49, 52, 50, 52, 51, 52, 52, 52, 53, 52, 54, 52, 55, 52, 56, 52, 57, 53, 48, 53, 49, 53, 50, 53, 51, 53, 52, 53, 53, 53, 54, 53, 55, 53, 56, 53, 57, 54, 48, 54, 49, 54, 50, 54, 51, 54, 52, 54, 53, 54, 54, 54, 55, 54, 56, 54, 57, 55, 48, 55, 49, 55, 50, 55, 51, 55, 52, 55, 53, 55, 54, 55, 55, 55, 56, 55, 57, 56, 48, 56, 49, 56, 50, 56, 51, 56, 52, 56, 53, 56, 54, 56, 55, 56, 56, 56, 57, 57, 48, 57, 49, 57, 50, 57, 51, 57, 52, 57, 53, 57, 54, 57, 55, 57, 56, 57, 57])) (.t 117), none⟩, false, []), (⟨some 119, .mov (.t 15), none⟩, false, []), (⟨some 120, .index (.c (.s [48, 48, 48, 49, 48, 50, 48, 51, 48, 52, 48, 53, 48, 54, 48, 55, 48, 56, 48, 57, 49, 48, 49, 49, 49, 50, 49, 51, 49, 52, 49, 53, 49, 54, 49, 55, 49, 56, 49, 57, 50, 48, 50, 49, 50, 50, 50, 51, 50, 52, 50, 53, 50, 54, 50, 55, 50, 56, 50, 57, 51, 48, 51, 49, 51, 50, 51, 51, 51, 52, 51, 53, 51, 54, 51, 55, 51, 56, 51, 57, 52, 48, 52, 49, 52, 50, 52, 51, 52, 52, 52, 53, 52, 54, 52, 55, 52, 56, 52, 57, 53, 48, 53, 49, 53, 50, 53, 51, 53, 52, 53, 53, 53, 54, 53, 55, 53, 56, 53, 57, 54, 48, 54, 49, 54, 50, 54, 51, 54, 52, 54, 53, 54, 54, 54, 55, 54, 56, 54, 57, 55, 48, 55, 49, 55, 50, 55, 51, 55, 52, 55, 53, 55, 54, 55, 55, 55, 56, 55, 57, 56, 48, 56, 49, 56, 50, 56, 51, 56, 52, 56, 53, 56, 54, 56, 55, 56, 56, 56, 57, 57, 48, 57, 49, 57, 50, 57, 51, 57, 52, 57, 53, 57, 54, 57, 55, 57, 56, 57, 57])) (.t 119), none⟩, false, []), (⟨some 121, .indexAddr (.t 110) (.t 112) 1 none, none⟩, false, []), (⟨none, .store none ⟨1, false⟩ (.t 121) (.t 118), none⟩, true, []), (⟨some 122, .indexAddr (.t 113) (.t 115) 1 none, none⟩, true, []), (⟨none, .store none ⟨1, false⟩ (.t 122) (.t 120), none⟩, true, [])]) ((.seq (.opsD [(⟨some 123, .mov (.t 0), none⟩, false, []), (⟨some 124, .mov (.t 4), none⟩, false, []), (⟨some 125, .bin .sub .num (.t 124) (.c (.i .i64 3)), none⟩, false, []), (⟨some 126, .mov (.t 0), none⟩, false, []), (⟨some 127, .mov (.t 4), none⟩, false, []), (⟨some 128, .bin .sub .num (.t 127) (.c (.i .i64 4)), none⟩, false, []), (⟨some 129, .mov (.t 14), none⟩, false, []), (⟨some 130, .bin .add .num (.t 129) (.c (.i .u32 1)), none⟩, false, []), (⟨some 131, .index (.c (.s [48, 48, 48, 49, 48, 50, 48, 51, 48, 52, 48, 53, 48, 54, 48, 55, 48, 56, 48, 57, 49, 48, 49, 49, 49, 50, 49, 51, 49, 52, 49, 53, 49, 54, 49, 55, 49, 56, 49, 57, 50, 48, 50, 49, 50, 50, 50, 51, 50, 52, 50, 53, 50, 54, 50, 55, 50, 56, 50, 57, 51, 48, 51, 49, 51, 50, 51, 51, 51, 52, 51, 53, 51, 54, 51, 55, 51, 56, 51, 57, 52, 48, 52, 49, 52, 50, 52, 51, 52, 52, 52, 53, 52, 54, 52, 55, 52, 56, 52, 57, 53, 48, 53, 49, 53, 50, 53, 51, 53, 52, 53, 53, 53, 54, 53, 55, 53, 56, 53, 57, 54, 48, 54, 49, 54, 50, 54, 51, 54, 52, 54, 53, 54, 54, 54, 55, 54, 56, 54, 57, 55, 48, 55, 49, 55, 50, 55, 51, 55, 52, 55, 53, 55, 54, 55, 55, 55, 56, 55, 57, 56, 48, 56, 49, 56, 50, 56, 51, 56, 52, 56, 53, 56, 54, 56, 55, 56, 56, 56, 57, 57, 48, 57, 49, 57, 50, 57, 51, 57, 52, 57, 53, 57, 54, 57, 55, 57, 56, 57, 57])) (.t 130), none⟩, false, []), (⟨some 132, .mov (.t 14), none⟩, false, []), (⟨some 133, .index (.c (.s [48, 48, 48, 49, 48, 50, 48, 51, 48, 52, 48, 53, 48, 54, 48, 55, 48, 56, 48, 57, 49, 48, 49, 49, 49, 50, 49, 51, 49, 52, 49, 53, 49, 54, 49, 55, 49, 56, 49, 57, 50, 48, 50, 49, 50, 50, 50, 51, 50, 52, 50, 53, 50, 54, 50, 55, 50, 56, 50, 57, 51, 48, 51, 49, 51, 50, 51, 51, 51, 52, 51, 53, 51, 54, 51, 55, 51, 56, 51, 57, 52, 48, 52, 49, 52, 50, 52, 51, 52, 52, 52, 53, 52, 54, 52, 55, 52, 56, 52, 57, 53, 48, 53, 49, 53, 50, 53, 51, 53, 52, 53, 53, 53, 54, 53, 55, 53, 56, 53, 57, 54, 48, 54, 49, 54, 50, 54, 51, 54, 52, 54, 53, 54, 54, 54, 55, 54, 56, 54, 57, 55, 48, 55, 49, 55, 50, 55, 51, 55, 52, 55, 53, 55, 54, 55, 55, 55, 56, 55, 57, 56, 48, 56, 49, 56, 50, 56, 51, 56, 52, 56, 53, 56, 54, 56, 55, 56, 56, 56, 57, 57, 48, 57, 49, 57, 50, 57, 51, 57, 52, 57, 53, 57, 54, 57, 55, 57, 56, 57, 57])) (.t 132), none⟩, false, []), (⟨some 134, .indexAddr (.t 123) (.t 125) 1 none, none⟩, false, []), (⟨none, .store none ⟨1, false⟩ (.t 134) (.t 131), none⟩, true, []), (⟨some 135, .indexAddr (.t 126) (.t 128) 1 none, none⟩, true, []), (⟨none, .store none ⟨1, false⟩ (.t 135) (.t 133), none⟩, true, [])]) (.ops [⟨some 136, .mov (.t 4), none⟩,
 ⟨some 137, .bin .sub .num (.t 136) (.c (.i .i64 4)), none⟩,
 ⟨some 4, .mov (.t 137), none⟩]))))))))))) (.skip))))) ((.seq ((.seq (.ops [⟨some 138, .mov (.t 4), none⟩,
 ⟨some 139, .bin .geq .num (.t 138) (.c (.i .i64 2)), none⟩]) ((.cond (.t 139) ((.seq (.ops [⟨some 140, .mov (.t 12), none⟩,
 ⟨some 141, .bin .rem .num (.t 140) (.c (.i .u32 100)), none⟩,
 ⟨some 142, .bin .mul .num (.t 141) (.c (.i .u32 2)), none⟩,
 ⟨some 16, .mov (.t 142), none⟩]) ((.seq (.ops [⟨some 143, .mov (.t 12), none⟩,
 ⟨some 144, .bin .quo .num (.t 143) (.c (.i .u32 100)), none⟩,
 ⟨some 12, .mov (.t 144), none⟩]) ((.seq (.opsD [(⟨some 145, .mov (.t 0), none⟩, false, []), (⟨some 146, .mov (.t 4), none⟩, false, []), (⟨some 147, .bin .sub .num (.t 146) (.c (.i .i64 1)), none⟩, false, []), (⟨some 148, .mov (.t 0), none⟩, false, []), (⟨some 149, .mov (.t 4), none⟩, false, []), (⟨some 150, .bin .sub .num (.t 149) (.c (.i .i64 2)), none⟩, false, []), (⟨some 151, .mov (.t 16), none⟩, false, []), (⟨some 152, .bin .add .num (.t 151) (.c (.i .u32 1)), none⟩, false, []), (⟨some 153, .index (.c (.s [48, 48, 48, 49, 48, 50, 48, 51, 48, 52, 48, 53, 48, 54, 48, 55, 48, 56, 48, 57, 49, 48, 49, 49, 49, 50, 49, 51, 49, 52, 49, 53, 49, 54, 49, 55, 49, 56, 49, 57, 50, 48, 50, 49, 50, 50, 50, 51, 50, 52, 50, 53, 50, 54, 50, 55, 50, 56, 50, 57, 51, 48, 51, 49, 51, 50, 51, 51, 51, 52, 51, 53, 51, 54, 51, 55, 51, 56, 51, 57, 52, 48, 52, 49, 52, 50, 52, 51, 52, 52, 52, 53, 52, 54, 52, 55, 52, 56, 52, 57, 53, 48, 53, 49, 53, 50, 53, 51, 53, 52, 53, 53, 53, 54, 53, 55, 53, 56, 53, 57, 54, 48, 54, 49, 54, 50, 54, 51, 54, 52, 54, 53, 54, 54, 54, 55, 54, 56, 54, 57, 55, 48, 55, 49, 55, 50, 55, 51, 55, 52, 55, 53, 55, 54, 55, 55, 55, 56, 55, 57, 56, 48, 56, 49, 56, 50, 56, 51, 56, 52, 56, 53, 56, 54, 56, 55, 56, 56, 56, 57, 57, 48, 57, 49, 57, 50, 57, 51, 57, 52, 57, 53, 57, 54, 57, 55, 57, 56, 57, 57])) (.t 152), none⟩, false, []), (⟨some 154, .mov (.t 16), none⟩, false, []), (⟨some 155, .index (.c (.s [48, 48, 48, 49, 48, 50, 48, 51, 48, 52, 48, 53, 48, 54, 48, 55, 48, 56, 48, 57, 49, 48, 49, 49, 49, 50, 49, 51, 49, 52, 49, 53, 49, 54, 49, 55, 49, 56, 49, 57, 50, 48, 50, 49, 50, 50, 50, 51, 50, 52, 50, 53, 50, 54, 50, 55, 50, 56, 50, 57, 51, 48, 51, 49, 51, 50, 51, 51, 51, 52, 51, 53, 51, 54, 51, 55, 51, 56, 51, 57, 52, 48, 52, 49, 52, 50, 52, 51, 52, 52, 52, 53, 52, 54, 52, 55, 52, 56, 52, 57, 53, 48, 53, 49, 53, 50, 53, 51, 53, 52, 53, 53, 53, 54, 53, 55, 53, 56, 53, 57, 54, 48, 54, 49, 54, 50, 54, 51, 54, 52, 54, 53, 54, 54, 54, 55, 54, 56, 54, 57, 55, 48, 55, 49, 55, 50, 55, 51, 55, 52, 55, 53, 55, 54, 55, 55, 55, 56, 55, 57, 56, 48, 56, 49, 56, 50, 56, 51, 56, 52, 56, 53, 56, 54, 56, 55, 56, 56, 56, 57, 57, 48, 57, 49, 57, 50, 57, 51, 57, 52, 57, 53, 57, 54, 57, 55, 57, 56, 57, 57])) (.t 154), none⟩, false, []), (⟨some 156, .indexAddr (.t 145) (.t 147) 1 none, none⟩, false, []), (⟨none, .store none ⟨1, false⟩ (.t 156) (.t 153), none⟩, true, []), (⟨some 157, .indexAddr (.t 148) (.t 150) 1 none, none⟩, true, []), (⟨none, .store none ⟨1, false⟩ (.t 157) (.t 155), none⟩, true, [])]) (.ops [⟨some 158, .mov (.t 4), none⟩,
 ⟨some 159, .bin .sub .num (.t 158) (.c (.i .i64 2)), none⟩,
 ⟨some 4, .mov (.t 159), none⟩]))))))) (.skip))))) ((.seq (.ops [⟨some 160, .mov (.t 4), none⟩,
 ⟨some 161, .bin .gtr .num (.t 160) (.c (.i .i64 0)), none⟩]) ((.cond (.t 161) (.ops [⟨some 162, .mov (.t 0), none⟩,
 ⟨some 163, .mov (.t 12), none⟩,
 ⟨some 164, .bin .add .num (.c (.i .u32 48)) (.t 163), none⟩,
 ⟨some 165, .conv .u8 (.t 164), none⟩,
 ⟨some 166, .indexAddr (.t 162) (.c (.i .i64 0)) 1 none, none⟩,
 ⟨none, .store none ⟨1, false⟩ (.t 166) (.mv 165), none⟩]) (.skip))))))))))
def yu : Fn := ⟨2, [], false, (.seq (.ops [⟨some 17, .mov (.t 0), none⟩, ⟨some 18, .bi .lenL [.t 17], none⟩, ⟨some 4, .mov (.t 18), none⟩]) ((.seq ((.block 0 [0, 1, 4] (qbq))) (qbp)))), none, none⟩
def qbW : C := (.seq ((.seq (.ops [⟨some 44, .mov (.t 1), none⟩, ⟨some 45, .mov (.t 15), none⟩, ⟨some 46, .bin .geq .num (.t 44) (.t 45), none⟩]) ((.cond (.t 46) (.skip) (.exit 0))))) ((.block 1 [0, 1, 3, 4, 10, 11, 12, 13, 14, 15, 16] ((.seq (.ops [⟨some 47, .mov (.t 13), none⟩, ⟨some 48, .bin .sub .num (.t 47) (.c (.i .i64 1)), none⟩, ⟨some 13, .mov (.t 48), none⟩]) ((.seq (.ops [⟨some 49, .mov (.t 13), none⟩, ⟨some 50, .mov (.t 1), none⟩, ⟨some 51, .mov (.t 16), none⟩, ⟨some 52, .bin .and .num (.t 50) (.t 51), none⟩, ⟨some 53, .index (.c (.s [48, 49, 50, 51, 52, 53, 54, 55, 56, 57, 97, 98, 99, 100, 101, 102, 103, 104, 105, 106, 107, 108, 109, 110, 111, 112, 113, 114, 115, 116, 117, 118, 119, 120, 121, 122])) (.t 52), none⟩, ⟨some 54, .indexAddr (.t 12) (.t 49) 1 (some 65), none⟩, ⟨none, .store none ⟨1, false⟩ (.t 54) (.t 53), none⟩]) (.ops [⟨some 55, .mov (.t 1), none⟩, ⟨some 56, .mov (.t 14), none⟩, ⟨some 57, .bin .shr .num (.t 55) (.t 56), none⟩, ⟨some 1, .mov (.t 57), none⟩]))))))))
def qbT : C := .loop [0, 1, 3, 4, 10, 11, 12, 13, 14, 15, 16] qbW
def qbE : C := (.seq (.ops [⟨some 58, .mov (.t 13), none⟩, ⟨some 59, .bin .sub .num (.t 58) (.c (.i .i64 1)), none⟩, ⟨some 13, .mov (.t 59), none⟩]) (.ops [⟨some 60, .mov (.t 13), none⟩, ⟨some 61, .mov (.t 1), none⟩, ⟨some 62, .index (.c (.s [48, 49, 50, 51, 52, 53, 54, 55, 56, 57, 97, 98, 99, 100, 101, 102, 103, 104, 105, 106, 107, 108, 109, 110, 111, 112, 113, 114, 115, 116, 117, 118, 119, 120, 121, 122])) (.t 61), none⟩, ⟨some 63, .indexAddr (.t 12) (.t 60) 1 (some 65), none⟩, ⟨none, .store none ⟨1, false⟩ (.t 63) (.t 62), none⟩]))
def qbI : C := (.seq ((.seq (.ops [⟨some 66, .mov (.t 1), none⟩, ⟨some 67, .mov (.t 17), none⟩, ⟨some 68, .bin .geq .num (.t 66) (.t 67), none⟩]) ((.cond (.t 68) (.skip) (.exit 2))))) ((.block 3 [0, 1, 3, 4, 10, 11, 12, 13, 17] ((.seq (.ops [⟨some 69, .mov (.t 13), none⟩, ⟨some 70, .bin .sub .num (.t 69) (.c (.i .i64 1)), none⟩, ⟨some 13, .mov (.t 70), none⟩]) ((.seq (.ops [⟨some 71, .mov (.t 1), none⟩, ⟨some 72, .mov (.t 17), none⟩, ⟨some 73, .bin .quo .num (.t 71) (.t 72), none⟩, ⟨some 18, .mov (.t 73), none⟩]) ((.seq (.ops [⟨some 74, .mov (.t 13), none⟩, ⟨some 75, .mov (.t 1), none⟩, ⟨some 76, .mov (.t 18), none⟩, ⟨some 77, .mov (.t 17), none⟩, ⟨some 78, .bin .mul .num (.t 76) (.t 77), none⟩, ⟨some 79, .bin .sub .num (.t 75) (.t 78), none⟩, ⟨some 80, .index (.c (.s [48, 49, 50, 51, 52, 53, 54, 55, 56, 57, 97, 98, 99, 100, 101, 102, 103, 104, 105, 106, 107, 108, 109, 110, 111, 112, 113, 114, 115, 116, 117, 118, 119, 120, 121, 122])) (.t 79), none⟩, ⟨some 81, .indexAddr (.t 12) (.t 74) 1 (some 65), none⟩, ⟨none, .store none ⟨1, false⟩ (.t 81) (.t 80), none⟩]) (.ops [⟨some 82, .mov (.t 18), none⟩, ⟨some 1, .mov (.t 82), none⟩]))))))))))
def qbB : C := .loop [0, 1, 3, 4, 10, 11, 12, 13, 17] qbI
def qbM : C := (.seq (.ops [⟨some 83, .mov (.t 13), none⟩, ⟨some 84, .bin .sub .num (.t 83) (.c (.i .i64 1)), none⟩, ⟨some 13, .mov (.t 84), none⟩]) (.ops [⟨some 85, .mov (.t 13), none⟩, ⟨some 86, .mov (.t 1), none⟩, ⟨some 87, .index (.c (.s [48, 49, 50, 51, 52, 53, 54, 55, 56, 57, 97, 98, 99, 100, 101, 102, 103, 104, 105, 106, 107, 108, 109, 110, 111, 112, 113, 114, 115, 116, 117, 118, 119, 120, 121, 122])) (.t 86), none⟩, ⟨some 88, .indexAddr (.t 12) (.t 85) 1 (some 65), none⟩, ⟨none, .store none ⟨1, false⟩ (.t 88) (.t 87), none⟩]))
def qbO : C := (.seq ((.seq (.ops [⟨some 89, .mov (.t 3), none⟩]) ((.cond (.t 89) ((.seq (.ops [⟨some 90, .mov (.t 13), none⟩, ⟨some 91, .bin .sub .num (.t 90) (.c (.i .i64 1)), none⟩, ⟨some 13, .mov (.t 91), none⟩]) (.ops [⟨some 92, .mov (.t 13), none⟩, ⟨some 93, .indexAddr (.t 12) (.t 92) 1 (some 65), none⟩, ⟨none, .store none ⟨1, false⟩ (.t 93) (.c (.i .u8 45)), none⟩]))) (.skip))))) ((.seq ((.seq (.ops [⟨some 94, .mov (.t 4), none⟩]) ((.cond (.t 94) ((.seq (.ops [⟨some 95, .mov (.mv 0), none⟩, ⟨some 96, .mov (.t 13), none⟩, ⟨some 97, .sliceA 65 (.t 12) (some (.t 96)) none, none⟩, ⟨some 98, .bi (.append 1 1) [.mv 95, (.t 97)], none⟩, ⟨some 10, .mov (.mv 98), none⟩]) (.ret))) (.skip))))) ((.seq (.ops [⟨some 99, .mov (.t 13), none⟩, ⟨some 100, .sliceA 65 (.t 12) (some (.t 99)) none, none⟩, ⟨some 101, .text (.t 100), none⟩, ⟨some 11, .mov (.mv 101), none⟩]) (.ret))))))
def yT : Fn := ⟨5, [.t 10, (.t 11)], false, (.seq (.ops [⟨some 10, .mov (.c .nil), none⟩,
 ⟨some 11, .mov (.c (.s [])), none⟩]) ((.seq ((.seq (.ops [⟨some 19, .mov (.t 2), none⟩,
 ⟨some 20, .bin .lss .num (.t 19) (.c (.i .i64 2)), none⟩,
 ⟨some 21, .mov (.t 20), none⟩,
 ⟨some 22, .mov (.t 2), some (21, false)⟩,
 ⟨some 23, .bin .eql .num (.t 22) (.c (.i .i64 10)), some (21, false)⟩,
 ⟨some 24, .pick (.t 21) (.c (.b true)) (.t 23), none⟩,
 ⟨some 25, .mov (.t 24), none⟩,
 ⟨some 26, .mov (.t 2), some (25, false)⟩,
 ⟨some 27, .bin .gtr .num (.t 26) (.c (.i .i64 36)), some (25, false)⟩,
 ⟨some 28, .pick (.t 25) (.c (.b true)) (.t 27), none⟩]) ((.cond (.t 28) (.ops [⟨some 29, .mkIfc 9 (.c (.s [115, 116, 114, 99, 111, 110, 118, 58, 32, 105, 108, 108, 101, 103, 97, 108, 32, 65, 112, 112, 101, 110, 100, 73, 110, 116, 47, 70, 111, 114, 109, 97, 116, 73, 110, 116, 32, 98, 97, 115, 101])), none⟩,
 ⟨none, .panic (.t 29), none⟩]) (.skip))))) ((.seq (.ops [⟨some 12, .alloc false [(.i .u8 0), (.i .u8 0), (.i .u8 0), (.i .u8 0), (.i .u8 0), (.i .u8 0), (.i .u8 0), (.i .u8 0), (.i .u8 0), (.i .u8 0), (.i .u8 0), (.i .u8 0), (.i .u8 0), (.i .u8 0), (.i .u8 0), (.i .u8 0), (.i .u8 0), (.i .u8 0), (.i .u8 0), (.i .u8 0), (.i .u8 0), (.i .u8 0), (.i .u8 0), (.i .u8 0), (.i .u8 0), (.i .u8 0), (.i .u8 0), (.i .u8 0), (.i .u8 0), (.i .u8 0), (.i .u8 0), (.i .u8 0), (.i .u8 0), (.i .u8 0), (.i .u8 0), (.i .u8 0), (.i .u8 0), (.i .u8 0), (.i .u8 0), (.i .u8 0), (.i .u8 0), (.i .u8 0), (.i .u8 0), (.i .u8 0), (.i .u8 0), (.i .u8 0), (.i .u8 0), (.i .u8 0), (.i .u8 0), (.i .u8 0), (.i .u8 0), (.i .u8 0), (.i .u8 0), (.i .u8 0), (.i .u8 0), (.i .u8 0), (.i .u8 0), (.i .u8 0), (.i .u8 0), (.i .u8 0), (.i .u8 0), (.i .u8 0), (.i .u8 0), (.i .u8 0), (.i .u8 0)], none⟩]) ((.seq (.ops [⟨some 13, .mov (.c (.i .i64 65)), none⟩]) ((.seq ((.seq (.ops [⟨some 30, .mov (.t 3), none⟩]) ((.cond (.t 30) (.ops [⟨some 31, .mov (.t 1), none⟩,
 ⟨some 32, .un .neg (.t 31), none⟩,
 ⟨some 1, .mov (.t 32), none⟩]) (.skip))))) ((.seq ((.seq (.ops [⟨some 33, .mov (.t 2), none⟩,
 ⟨some 34, .call (.f 49) [.t 33], none⟩]) ((.cond (.t 34) ((.seq (.ops [⟨some 35, .mov (.t 2), none⟩,
 ⟨some 36, .conv .u64 (.t 35), none⟩,
 ⟨some 37, .call (.f 50) [.t 36], none⟩,
 ⟨some 38, .conv .u64 (.t 37), none⟩,
 ⟨some 14, .mov (.mv 38), none⟩]) ((.seq (.ops [⟨some 39, .mov (.t 2), none⟩,
 ⟨some 40, .conv .u64 (.t 39), none⟩,
 ⟨some 15, .mov (.mv 40), none⟩]) ((.seq (.ops [⟨some 41, .mov (.t 2), none⟩,
 ⟨some 42, .conv .u64 (.t 41), none⟩,
 ⟨some 43, .bin .sub .num (.t 42) (.c (.i .u64 1)), none⟩,
 ⟨some 16, .mov (.t 43), none⟩]) ((.seq ((.block 0 [0, 1, 3, 4, 10, 11, 12, 13] (qbT))) (qbE))))))))) ((.seq (.ops [⟨some 64, .mov (.t 2), none⟩,
 ⟨some 65, .conv .u64 (.t 64), none⟩,
 ⟨some 17, .mov (.mv 65), none⟩]) ((.seq ((.block 2 [0, 1, 3, 4, 10, 11, 12, 13] (qbB))) (qbM))))))))) (qbO)))))))))))), none, none⟩
def qhf : C := (.seq (.ops [⟨some 21, .bin .lss .num (.t 20) (.t 19), none⟩]) ((.seq ((.cond (.t 21) (.skip) (.exit 0))) ((.seq ((.block 1 [0, 1, 19, 20] ((.seq (.ops [⟨some 22, .mov (.t 20), none⟩,
 ⟨some 5, .mov (.t 22), none⟩]) ((.seq (.ops [⟨some 23, .mov (.t 0), none⟩,
 ⟨some 24, .mov (.t 5), none⟩,
 ⟨some 25, .indexAddr (.t 23) (.t 24) 3 none, none⟩,
 ⟨some 6, .mov (.t 25), none⟩]) ((.seq ((.seq (.ops [⟨some 26, .mov (.t 1), none⟩,
 ⟨some 27, .mov (.t 6), none⟩,
 ⟨some 28, .nilCheck (.t 27), none⟩,
 ⟨some 29, .fieldAddr (.t 28) 0 ⟨1, false⟩, none⟩,
 ⟨some 30, .load false none ⟨1, false⟩ (.t 29), none⟩,
 ⟨some 31, .bin .lss .num (.t 26) (.t 30), none⟩]) ((.cond (.t 31) ((.seq (.ops [⟨some 4, .mov (.c (.b false)), none⟩]) (.ret))) (.skip))))) ((.seq (.ops [⟨some 32, .mov (.t 1), none⟩,
 ⟨some 33, .mov (.t 6), none⟩,
 ⟨some 34, .nilCheck (.t 33), none⟩,
 ⟨some 35, .fieldAddr (.t 34) 1 ⟨1, false⟩, none⟩,
 ⟨some 36, .load false none ⟨1, false⟩ (.t 35), none⟩,
 ⟨some 37, .bin .leq .num (.t 32) (.t 36), none⟩]) ((.cond (.t 37) ((.seq (.opsD [(⟨some 38, .mov (.t 6), none⟩, true, []), (⟨some 39, .nilCheck (.t 38), none⟩, true, []), (⟨some 40, .fieldAddr (.t 39) 2 ⟨1, false⟩, none⟩, true, []), (⟨some 41, .load false none ⟨1, false⟩ (.t 40), none⟩, true, []), (⟨some 42, .bin .eql .num (.t 41) (.c (.i .u16 1)), none⟩, true, []), (⟨some 43, .mov (.t 42), none⟩, true, []), (⟨some 44, .mov (.t 1), some (43, false)⟩, false, []), (⟨some 45, .mov (.t 6), some (43, false)⟩, false, []), (⟨some 46, .nilCheck (.t 45), some (43, false)⟩, false, []), (⟨some 47, .fieldAddr (.t 46) 0 ⟨1, false⟩, some (43, false)⟩, false, []), (⟨some 48, .load false none ⟨1, false⟩ (.t 47), some (43, false)⟩, false, []), (⟨some 49, .bin .sub .num (.t 44) (.t 48), some (43, false)⟩, false, []), (⟨some 50, .mov (.t 6), some (43, false)⟩, false, []), (⟨some 51, .nilCheck (.t 50), some (43, false)⟩, false, []), (⟨some 52, .fieldAddr (.t 51) 2 ⟨1, false⟩, some (43, false)⟩, false, []), (⟨some 53, .load false none ⟨1, false⟩ (.t 52), some (43, false)⟩, false, []), (⟨some 54, .bin .rem .num (.t 49) (.t 53), some (43, false)⟩, true, []), (⟨some 55, .bin .eql .num (.t 54) (.c (.i .u16 0)), some (43, false)⟩, true, []), (⟨some 56, .pick (.t 43) (.c (.b true)) (.t 55), none⟩, true, []), (⟨some 4, .mov (.t 56), none⟩, true, [])]) (.ret))) (.skip))))))))))))) (.ops [⟨some 57, .bin .add .num (.t 20) (.c (.i .i64 1)), none⟩,
 ⟨some 20, .mov (.t 57), none⟩]))))))
def qhl : C := .loop [0, 1, 19, 20] qhf
def qgK : C := (.seq (.ops [⟨some 4, .mov (.c (.b false)), none⟩]) (.ret))
def qg7 : C := (.seq ((.seq (.ops [⟨some 60, .mov (.t 7), none⟩,
 ⟨some 61, .mov (.t 8), none⟩,
 ⟨some 62, .bin .lss .num (.t 60) (.t 61), none⟩]) ((.cond (.t 62) (.skip) (.exit 2))))) ((.block 3 [0, 1, 7, 8] ((.seq (.ops [⟨some 63, .mov (.t 7), none⟩,
 ⟨some 64, .mov (.t 8), none⟩,
 ⟨some 65, .bin .add .num (.t 63) (.t 64), none⟩,
 ⟨some 66, .conv .u64 (.t 65), none⟩,
 ⟨some 67, .bin .shr .num (.t 66) (.c (.i .u64 1)), none⟩,
 ⟨some 68, .conv .i64 (.t 67), none⟩,
 ⟨some 9, .mov (.mv 68), none⟩]) ((.seq (.ops [⟨some 69, .mov (.t 0), none⟩,
 ⟨some 70, .mov (.t 9), none⟩,
 ⟨some 71, .indexAddr (.t 69) (.t 70) 3 none, none⟩,
 ⟨some 10, .mov (.t 71), none⟩]) ((.seq ((.seq (.ops [⟨some 72, .mov (.t 10), none⟩,
 ⟨some 73, .nilCheck (.t 72), none⟩,
 ⟨some 74, .fieldAddr (.t 73) 0 ⟨1, false⟩, none⟩,
 ⟨some 75, .load false none ⟨1, false⟩ (.t 74), none⟩,
 ⟨some 76, .mov (.t 1), none⟩,
 ⟨some 77, .bin .leq .num (.t 75) (.t 76), none⟩,
 ⟨some 78, .mov (.t 77), none⟩,
 ⟨some 79, .mov (.t 1), some (78, true)⟩,
 ⟨some 80, .mov (.t 10), some (78, true)⟩,
 ⟨some 81, .nilCheck (.t 80), some (78, true)⟩,
 ⟨some 82, .fieldAddr (.t 81) 1 ⟨1, false⟩, some (78, true)⟩,
 ⟨some 83, .load false none ⟨1, false⟩ (.t 82), some (78, true)⟩,
 ⟨some 84, .bin .leq .num (.t 79) (.t 83), some (78, true)⟩,
 ⟨some 85, .pick (.t 78) (.t 84) (.c (.b false)), none⟩]) ((.cond (.t 85) ((.seq (.opsD [(⟨some 86, .mov (.t 10), none⟩, true, []), (⟨some 87, .nilCheck (.t 86), none⟩, true, []), (⟨some 88, .fieldAddr (.t 87) 2 ⟨1, false⟩, none⟩, true, []), (⟨some 89, .load false none ⟨1, false⟩ (.t 88), none⟩, true, []), (⟨some 90, .bin .eql .num (.t 89) (.c (.i .u16 1)), none⟩, true, []), (⟨some 91, .mov (.t 90), none⟩, true, []), (⟨some 92, .mov (.t 1), some (91, false)⟩, false, []), (⟨some 93, .mov (.t 10), some (91, false)⟩, false, []), (⟨some 94, .nilCheck (.t 93), some (91, false)⟩, false, []), (⟨some 95, .fieldAddr (.t 94) 0 ⟨1, false⟩, some (91, false)⟩, false, []), (⟨some 96, .load false none ⟨1, false⟩ (.t 95), some (91, false)⟩, false, []), (⟨some 97, .bin .sub .num (.t 92) (.t 96), some (91, false)⟩, false, []), (⟨some 98, .mov (.t 10), some (91, false)⟩, false, []), (⟨some 99, .nilCheck (.t 98), some (91, false)⟩, false, []), (⟨some 100, .fieldAddr (.t 99) 2 ⟨1, false⟩, some (91, false)⟩, false, []), (⟨some 101, .load false none ⟨1, false⟩ (.t 100), some (91, false)⟩, false, []), (⟨some 102, .bin .rem .num (.t 97) (.t 101), some (91, false)⟩, true, []), (⟨some 103, .bin .eql .num (.t 102) (.c (.i .u16 0)), some (91, false)⟩, true, []), (⟨some 104, .pick (.t 91) (.c (.b true)) (.t 103), none⟩, true, []), (⟨some 4, .mov (.t 104), none⟩, true, [])]) (.ret))) (.skip))))) ((.seq (.ops [⟨some 105, .mov (.t 1), none⟩,
 ⟨some 106, .mov (.t 10), none⟩,
 ⟨some 107, .nilCheck (.t 106), none⟩,
 ⟨some 108, .fieldAddr (.t 107) 0 ⟨1, false⟩, none⟩,
 ⟨some 109, .load false none ⟨1, false⟩ (.t 108), none⟩,
 ⟨some 110, .bin .lss .num (.t 105) (.t 109), none⟩]) ((.cond (.t 110) (.ops [⟨some 111, .mov (.t 9), none⟩,
 ⟨some 8, .mov (.t 111), none⟩]) (.ops [⟨some 112, .mov (.t 9), none⟩,
 ⟨some 113, .bin .add .num (.t 112) (.c (.i .i64 1)), none⟩,
 ⟨some 7, .mov (.t 113), none⟩]))))))))))))))
def qgC : C := .loop [0, 1, 7, 8] qg7
def qhg : C := (.seq (.ops [⟨some 4, .mov (.c (.b false)), none⟩]) (.ret))
def qg4 : C := (.seq (.ops [⟨some 7, .mov (.c (.i .i64 0)), none⟩]) ((.seq (.ops [⟨some 58, .mov (.t 0), none⟩, ⟨some 59, .bi .lenL [.t 58], none⟩, ⟨some 8, .mov (.t 59), none⟩]) ((.seq ((.block 2 [] (qgC))) (qhg))))))
def qeT : Fn := ⟨2, [.t 4], true, (.seq (.ops [⟨some 4, .mov (.c (.b false)), none⟩]) ((.seq ((.seq (.ops [⟨some 11, .mov (.t 0), none⟩, ⟨some 12, .bi .lenL [.t 11], none⟩, ⟨some 13, .bin .leq .num (.t 12) (.c (.i .i64 18)), none⟩, ⟨some 14, .mov (.t 13), none⟩, ⟨some 15, .mov (.t 1), some (14, false)⟩, ⟨some 16, .bin .leq .num (.t 15) (.c (.i .u16 255)), some (14, false)⟩, ⟨some 17, .pick (.t 14) (.c (.b true)) (.t 16), none⟩]) ((.cond (.t 17) ((.seq ((.seq (.ops [⟨some 18, .mov (.t 0), none⟩, ⟨some 19, .bi .lenL [.t 18], none⟩, ⟨some 20, .mov (.c (.i .i64 0)), none⟩]) ((.block 0 [] (qhl))))) (qgK))) (.skip))))) (qg4)))), none, none⟩
def qhe : C := (.seq (.ops [⟨some 17, .bin .lss .num (.t 16) (.t 15), none⟩]) ((.seq ((.cond (.t 17) (.skip) (.exit 0))) ((.seq ((.block 1 [0, 1, 15, 16] ((.seq (.ops [⟨some 18, .mov (.t 16), none⟩,
 ⟨some 5, .mov (.t 18), none⟩]) ((.seq (.ops [⟨some 19, .mov (.t 0), none⟩,
 ⟨some 20, .mov (.t 5), none⟩,
 ⟨some 21, .indexAddr (.t 19) (.t 20) 3 none, none⟩,
 ⟨some 6, .mov (.t 21), none⟩]) ((.seq ((.seq (.ops [⟨some 22, .mov (.t 1), none⟩,
 ⟨some 23, .mov (.t 6), none⟩,
 ⟨some 24, .nilCheck (.t 23), none⟩,
 ⟨some 25, .fieldAddr (.t 24) 0 ⟨1, false⟩, none⟩,
 ⟨some 26, .load false none ⟨1, false⟩ (.t 25), none⟩,
 ⟨some 27, .bin .lss .num (.t 22) (.t 26), none⟩]) ((.cond (.t 27) ((.seq (.ops [⟨some 4, .mov (.c (.b false)), none⟩]) (.ret))) (.skip))))) ((.seq (.ops [⟨some 28, .mov (.t 1), none⟩,
 ⟨some 29, .mov (.t 6), none⟩,
 ⟨some 30, .nilCheck (.t 29), none⟩,
 ⟨some 31, .fieldAddr (.t 30) 1 ⟨1, false⟩, none⟩,
 ⟨some 32, .load false none ⟨1, false⟩ (.t 31), none⟩,
 ⟨some 33, .bin .leq .num (.t 28) (.t 32), none⟩]) ((.cond (.t 33) ((.seq (.opsD [(⟨some 34, .mov (.t 6), none⟩, true, []), (⟨some 35, .nilCheck (.t 34), none⟩, true, []), (⟨some 36, .fieldAddr (.t 35) 2 ⟨1, false⟩, none⟩, true, []), (⟨some 37, .load false none ⟨1, false⟩ (.t 36), none⟩, true, []), (⟨some 38, .bin .eql .num (.t 37) (.c (.i .u32 1)), none⟩, true, []), (⟨some 39, .mov (.t 38), none⟩, true, []), (⟨some 40, .mov (.t 1), some (39, false)⟩, false, []), (⟨some 41, .mov (.t 6), some (39, false)⟩, false, []), (⟨some 42, .nilCheck (.t 41), some (39, false)⟩, false, []), (⟨some 43, .fieldAddr (.t 42) 0 ⟨1, false⟩, some (39, false)⟩, false, []), (⟨some 44, .load false none ⟨1, false⟩ (.t 43), some (39, false)⟩, false, []), (⟨some 45, .bin .sub .num (.t 40) (.t 44), some (39, false)⟩, false, []), (⟨some 46, .mov (.t 6), some (39, false)⟩, false, []), (⟨some 47, .nilCheck (.t 46), some (39, false)⟩, false, []), (⟨some 48, .fieldAddr (.t 47) 2 ⟨1, false⟩, some (39, false)⟩, false, []), (⟨some 49, .load false none ⟨1, false⟩ (.t 48), some (39, false)⟩, false, []), (⟨some 50, .bin .rem .num (.t 45) (.t 49), some (39, false)⟩, true, []), (⟨some 51, .bin .eql .num (.t 50) (.c (.i .u32 0)), some (39, false)⟩, true, []), (⟨some 52, .pick (.t 39) (.c (.b true)) (.t 51), none⟩, true, []), (⟨some 4, .mov (.t 52), none⟩, true, [])]) (.ret))) (.skip))))))))))))) (.ops [⟨some 53, .bin .add .num (.t 16) (.c (.i .i64 1)), none⟩,
 ⟨some 16, .mov (.t 53), none⟩]))))))
def qgR : C := .loop [0, 1, 15, 16] qhe
def qgV : C := (.seq (.ops [⟨some 4, .mov (.c (.b false)), none⟩]) (.ret))
def qgM : C := (.seq ((.seq (.ops [⟨some 56, .mov (.t 7), none⟩,
 ⟨some 57, .mov (.t 8), none⟩,
 ⟨some 58, .bin .lss .num (.t 56) (.t 57), none⟩]) ((.cond (.t 58) (.skip) (.exit 2))))) ((.block 3 [0, 1, 7, 8] ((.seq (.ops [⟨some 59, .mov (.t 7), none⟩,
 ⟨some 60, .mov (.t 8), none⟩,
 ⟨some 61, .bin .add .num (.t 59) (.t 60), none⟩,
 ⟨some 62, .conv .u64 (.t 61), none⟩,
 ⟨some 63, .bin .shr .num (.t 62) (.c (.i .u64 1)), none⟩,
 ⟨some 64, .conv .i64 (.t 63), none⟩,
 ⟨some 9, .mov (.mv 64), none⟩]) ((.seq (.ops [⟨some 65, .mov (.t 0), none⟩,
 ⟨some 66, .mov (.t 9), none⟩,
 ⟨some 67, .indexAddr (.t 65) (.t 66) 3 none, none⟩,
 ⟨some 68, .load false none ⟨3, true⟩ (.t 67), none⟩,
 ⟨some 10, .alloc true [(.i .u32 0), (.i .u32 0), (.i .u32 0)], none⟩,
 ⟨none, .store (some 10) ⟨3, true⟩ (.t 10) (.t 68), none⟩]) ((.seq ((.seq (.ops [⟨some 69, .fieldAddr (.t 10) 0 ⟨1, false⟩, none⟩,
 ⟨some 70, .load false (some 10) ⟨1, false⟩ (.t 69), none⟩,
 ⟨some 71, .mov (.t 1), none⟩,
 ⟨some 72, .bin .leq .num (.t 70) (.t 71), none⟩,
 ⟨some 73, .mov (.t 72), none⟩,
 ⟨some 74, .mov (.t 1), some (73, true)⟩,
 ⟨some 75, .fieldAddr (.t 10) 1 ⟨1, false⟩, some (73, true)⟩,
 ⟨some 76, .load false (some 10) ⟨1, false⟩ (.t 75), some (73, true)⟩,
 ⟨some 77, .bin .leq .num (.t 74) (.t 76), some (73, true)⟩,
 ⟨some 78, .pick (.t 73) (.t 77) (.c (.b false)), none⟩]) ((.cond (.t 78) ((.seq (.ops [⟨some 79, .fieldAddr (.t 10) 2 ⟨1, false⟩, none⟩,
 ⟨some 80, .load false (some 10) ⟨1, false⟩ (.t 79), none⟩,
 ⟨some 81, .bin .eql .num (.t 80) (.c (.i .u32 1)), none⟩,
 ⟨some 82, .mov (.t 81), none⟩,
 ⟨some 83, .mov (.t 1), some (82, false)⟩,
 ⟨some 84, .fieldAddr (.t 10) 0 ⟨1, false⟩, some (82, false)⟩,
 ⟨some 85, .load false (some 10) ⟨1, false⟩ (.t 84), some (82, false)⟩,
 ⟨some 86, .bin .sub .num (.t 83) (.t 85), some (82, false)⟩,
 ⟨some 87, .fieldAddr (.t 10) 2 ⟨1, false⟩, some (82, false)⟩,
 ⟨some 88, .load false (some 10) ⟨1, false⟩ (.t 87), some (82, false)⟩,
 ⟨some 89, .bin .rem .num (.t 86) (.t 88), some (82, false)⟩,
 ⟨some 90, .bin .eql .num (.t 89) (.c (.i .u32 0)), some (82, false)⟩,
 ⟨some 91, .pick (.t 82) (.c (.b true)) (.t 90), none⟩,
 ⟨some 4, .mov (.t 91), none⟩]) (.ret))) (.skip))))) ((.seq (.ops [⟨some 92, .mov (.t 1), none⟩,
 ⟨some 93, .fieldAddr (.t 10) 0 ⟨1, false⟩, none⟩,
 ⟨some 94, .load false (some 10) ⟨1, false⟩ (.t 93), none⟩,
 ⟨some 95, .bin .lss .num (.t 92) (.t 94), none⟩]) ((.cond (.t 95) (.ops [⟨some 96, .mov (.t 9), none⟩,
 ⟨some 8, .mov (.t 96), none⟩]) (.ops [⟨some 97, .mov (.t 9), none⟩,
 ⟨some 98, .bin .add .num (.t 97) (.c (.i .i64 1)), none⟩,
 ⟨some 7, .mov (.t 98), none⟩]))))))))))))))
def qho : C := .loop [0, 1, 7, 8] qgM
def qhh : C := (.seq (.ops [⟨some 4, .mov (.c (.b false)), none⟩]) (.ret))
def qgE : C := (.seq (.ops [⟨some 7, .mov (.c (.i .i64 0)), none⟩]) ((.seq (.ops [⟨some 54, .mov (.t 0), none⟩, ⟨some 55, .bi .lenL [.t 54], none⟩, ⟨some 8, .mov (.t 55), none⟩]) ((.seq ((.block 2 [] (qho))) (qhh))))))
def qfc : Fn := ⟨2, [.t 4], true, (.seq (.ops [⟨some 4, .mov (.c (.b false)), none⟩]) ((.seq ((.seq (.ops [⟨some 11, .mov (.t 0), none⟩, ⟨some 12, .bi .lenL [.t 11], none⟩, ⟨some 13, .bin .leq .num (.t 12) (.c (.i .i64 18)), none⟩]) ((.cond (.t 13) ((.seq ((.seq (.ops [⟨some 14, .mov (.t 0), none⟩, ⟨some 15, .bi .lenL [.t 14], none⟩, ⟨some 16, .mov (.c (.i .i64 0)), none⟩]) ((.block 0 [] (qgR))))) (qgV))) (.skip))))) (qgE)))), none, none⟩
def qac : Fn := ⟨1, [.t 2], true, (.seq (.ops [⟨some 2, .mov (.c (.i .i64 0)), none⟩]) ((.seq (.ops [⟨some 3, .mov (.t 0), none⟩, ⟨some 4, .bin .mul .num (.t 3) (.c (.i .i64 78913)), none⟩, ⟨some 5, .bin .shr .num (.t 4) (.c (.i .u64 18)), none⟩, ⟨some 2, .mov (.t 5), none⟩]) (.ret)))), none, none⟩
def qdy : Fn := ⟨1, [.t 2], true, (.seq (.ops [⟨some 2, .mov (.c (.i .i64 0)), none⟩]) ((.seq ((.seq (.ops [⟨some 3, .mov (.t 0), none⟩,
 ⟨some 4, .bin .geq .num (.t 3) (.c (.i .u64 4294967296)), none⟩]) ((.cond (.t 4) ((.seq (.ops [⟨some 5, .mov (.t 0), none⟩,
 ⟨some 6, .bin .shr .num (.t 5) (.c (.i .u64 32)), none⟩,
 ⟨some 0, .mov (.t 6), none⟩]) (.ops [⟨some 2, .mov (.c (.i .i64 32)), none⟩]))) (.skip))))) ((.seq ((.seq (.ops [⟨some 7, .mov (.t 0), none⟩,
 ⟨some 8, .bin .geq .num (.t 7) (.c (.i .u64 65536)), none⟩]) ((.cond (.t 8) ((.seq (.ops [⟨some 9, .mov (.t 0), none⟩,
 ⟨some 10, .bin .shr .num (.t 9) (.c (.i .u64 16)), none⟩,
 ⟨some 0, .mov (.t 10), none⟩]) (.ops [⟨some 11, .mov (.t 2), none⟩,
 ⟨some 12, .bin .add .num (.t 11) (.c (.i .i64 16)), none⟩,
 ⟨some 2, .mov (.t 12), none⟩]))) (.skip))))) ((.seq ((.seq (.ops [⟨some 13, .mov (.t 0), none⟩,
 ⟨some 14, .bin .geq .num (.t 13) (.c (.i .u64 256)), none⟩]) ((.cond (.t 14) ((.seq (.ops [⟨some 15, .mov (.t 0), none⟩,
 ⟨some 16, .bin .shr .num (.t 15) (.c (.i .u64 8)), none⟩,
 ⟨some 0, .mov (.t 16), none⟩]) (.ops [⟨some 17, .mov (.t 2), none⟩,
 ⟨some 18, .bin .add .num (.t 17) (.c (.i .i64 8)), none⟩,
 ⟨some 2, .mov (.t 18), none⟩]))) (.skip))))) ((.seq (.ops [⟨some 19, .mov (.t 2), none⟩,
 ⟨some 20, .mov (.t 0), none⟩,
 ⟨some 21, .conv .u8 (.t 20), none⟩,
 ⟨some 22, .index (.c (.s [0, 1, 2, 2, 3, 3, 3, 3, 4, 4, 4, 4, 4, 4, 4, 4, 5, 5, 5, 5, 5, 5, 5, 5, 5, 5, 5, 5, 5, 5, 5, 5, 6, 6, 6, 6, 6, 6, 6, 6, 6, 6, 6, 6, 6, 6, 6, 6, 6, 6, 6, 6, 6, 6, 6, 6, 6, 6, 6, 6, 6, 6, 6, 6, 7, 7, 7, 7, 7, 7, 7, 7, 7, 7, 7, 7, 7, 7, 7, 7, 7, 7, 7, 7, 7, 7, 7, 7, 7, 7, 7, 7, 7, 7, 7, 7, 7, 7, 7, 7, 7, 7, 7, 7, 7, 7, 7, 7, 7, 7, 7, 7, 7, 7, 7, 7, 7, 7, 7, 7, 7, 7, 7, 7, 7, 7, 7, 7, 8, 8, 8, 8, 8, 8, 8, 8, 8, 8, 8, 8, 8, 8, 8, 8, 8, 8, 8, 8, 8, 8, 8, 8, 8, 8, 8, 8, 8, 8, 8, 8, 8, 8, 8, 8, 8, 8, 8, 8, 8, 8, 8, 8, 8, 8, 8, 8, 8, 8, 8, 8, 8, 8, 8, 8, 8, 8, 8, 8, 8, 8, 8, 8, 8, 8, 8, 8, 8, 8, 8, 8, 8, 8, 8, 8, 8, 8, 8, 8, 8, 8, 8, 8, 8, 8, 8, 8, 8, 8, 8, 8, 8, 8, 8, 8, 8, 8, 8, 8, 8, 8, 8, 8, 8, 8, 8, 8, 8, 8, 8, 8, 8, 8, 8, 8, 8, 8, 8, 8, 8, 8, 8, 8, 8, 8, 8, 8])) (.t 21), none⟩,
 ⟨some 23, .conv .i64 (.t 22), none⟩,
 ⟨some 24, .bin .add .num (.t 19) (.t 23), none⟩,
 ⟨some 2, .mov (.t 24), none⟩]) (.ret)))))))))), none, none⟩
def yQ : Fn := ⟨1, [.t 2], true, (.seq (.ops [⟨some 2, .mov (.c (.i .i64 0)), none⟩]) ((.seq ((.seq (.ops [⟨some 3, .mov (.t 0), none⟩]) ((.cond (.t 3) ((.seq (.ops [⟨some 2, .mov (.c (.i .i64 1)), none⟩]) (.ret))) (.skip))))) ((.seq (.ops [⟨some 2, .mov (.c (.i .i64 0)), none⟩]) (.ret)))))), none, none⟩
def yw : Fn := ⟨1, [.t 2], true, (.seq (.ops [⟨some 2, .mov (.c (.b false)), none⟩]) ((.seq (.ops [⟨some 3, .mov (.t 0), none⟩, ⟨some 4, .mov (.t 0), none⟩, ⟨some 5, .bin .sub .num (.t 4) (.c (.i .i64 1)), none⟩, ⟨some 6, .bin .and .num (.t 3) (.t 5), none⟩, ⟨some 7, .bin .eql .num (.t 6) (.c (.i .i64 0)), none⟩, ⟨some 2, .mov (.t 7), none⟩]) (.ret)))), none, none⟩
def qaW : Fn := ⟨1, [.t 2], true, (.seq (.ops [⟨some 2, .mov (.c (.i .i64 0)), none⟩]) ((.seq ((.cond (.c (.b false)) ((.seq (.ops [⟨some 3, .mov (.t 0), none⟩, ⟨some 4, .conv .u32 (.t 3), none⟩, ⟨some 5, .call (.f 51) [.t 4], none⟩, ⟨some 2, .mov (.mv 5), none⟩]) (.ret))) (.skip))) ((.seq (.ops [⟨some 6, .mov (.mv 0), none⟩, ⟨some 7, .call (.f 52) [.mv 6], none⟩, ⟨some 2, .mov (.mv 7), none⟩]) (.ret)))))), none, none⟩
def qaw : Fn := ⟨1, [.t 2], true, (.seq (.ops [⟨some 2, .mov (.c (.i .i64 0)), none⟩]) ((.seq ((.seq (.ops [⟨some 3, .mov (.t 0), none⟩, ⟨some 4, .bin .eql .num (.t 3) (.c (.i .u32 0)), none⟩]) ((.cond (.t 4) ((.seq (.ops [⟨some 2, .mov (.c (.i .i64 32)), none⟩]) (.ret))) (.skip))))) ((.seq (.ops [⟨some 5, .mov (.t 0), none⟩, ⟨some 6, .mov (.t 0), none⟩, ⟨some 7, .un .neg (.t 6), none⟩, ⟨some 8, .bin .and .num (.t 5) (.t 7), none⟩, ⟨some 9, .bin .mul .num (.t 8) (.c (.i .u32 125613361)), none⟩, ⟨some 10, .bin .shr .num (.t 9) (.c (.i .u64 27)), none⟩, ⟨some 11, .indexAddr (.g 3 (glD 3)) (.t 10) 1 (some 32), none⟩, ⟨some 12, .load false none ⟨1, false⟩ (.t 11), none⟩, ⟨some 13, .conv .i64 (.t 12), none⟩, ⟨some 2, .mov (.mv 13), none⟩]) (.ret)))))), none, none⟩
def qas : Fn := ⟨1, [.t 2], true, (.seq (.ops [⟨some 2, .mov (.c (.i .i64 0)), none⟩]) ((.seq ((.seq (.ops [⟨some 3, .mov (.t 0), none⟩, ⟨some 4, .bin .eql .num (.t 3) (.c (.i .u64 0)), none⟩]) ((.cond (.t 4) ((.seq (.ops [⟨some 2, .mov (.c (.i .i64 64)), none⟩]) (.ret))) (.skip))))) ((.seq (.ops [⟨some 5, .mov (.t 0), none⟩, ⟨some 6, .mov (.t 0), none⟩, ⟨some 7, .un .neg (.t 6), none⟩, ⟨some 8, .bin .and .num (.t 5) (.t 7), none⟩, ⟨some 9, .bin .mul .num (.t 8) (.c (.i .u64 285870213051353865)), none⟩, ⟨some 10, .bin .shr .num (.t 9) (.c (.i .u64 58)), none⟩, ⟨some 11, .indexAddr (.g 4 (glD 4)) (.t 10) 1 (some 64), none⟩, ⟨some 12, .load false none ⟨1, false⟩ (.t 11), none⟩, ⟨some 13, .conv .i64 (.t 12), none⟩, ⟨some 2, .mov (.mv 13), none⟩]) (.ret)))))), none, none⟩
def qek : Fn := ⟨0, [], false, (.seq (.ops [⟨some 0, .build [(.i .u8 0), (.i .u8 0), (.i .u8 0), (.i .u8 0), (.i .u8 0), (.i .u8 0), (.i .u8 0), (.i .u8 0), (.i .u8 0), (.i .u8 0), (.i .u8 0), (.i .u8 0), (.i .u8 0), (.i .u8 0), (.i .u8 0), (.i .u8 0), (.i .u8 0), (.i .u8 0), (.i .u8 0), (.i .u8 0), (.i .u8 0), (.i .u8 0), (.i .u8 0), (.i .u8 0), (.i .u8 0), (.i .u8 0), (.i .u8 0), (.i .u8 0), (.i .u8 0), (.i .u8 0), (.i .u8 0), (.i .u8 0)] [(0, 1, (.c (.i .u8 0))), (1, 1, (.c (.i .u8 1))), (2, 1, (.c (.i .u8 28))), (3, 1, (.c (.i .u8 2))), (4, 1, (.c (.i .u8 29))), (5, 1, (.c (.i .u8 14))), (6, 1, (.c (.i .u8 24))), (7, 1, (.c (.i .u8 3))), (8, 1, (.c (.i .u8 30))), (9, 1, (.c (.i .u8 22))), (10, 1, (.c (.i .u8 20))), (11, 1, (.c (.i .u8 15))), (12, 1, (.c (.i .u8 25))), (13, 1, (.c (.i .u8 17))), (14, 1, (.c (.i .u8 4))), (15, 1, (.c (.i .u8 8))), (16, 1, (.c (.i .u8 31))), (17, 1, (.c (.i .u8 27))), (18, 1, (.c (.i .u8 13))), (19, 1, (.c (.i .u8 23))), (20, 1, (.c (.i .u8 21))), (21, 1, (.c (.i .u8 19))), (22, 1, (.c (.i .u8 16))), (23, 1, (.c (.i .u8 7))), (24, 1, (.c (.i .u8 26))), (25, 1, (.c (.i .u8 12))), (26, 1, (.c (.i .u8 18))), (27, 1, (.c (.i .u8 6))), (28, 1, (.c (.i .u8 11))), (29, 1, (.c (.i .u8 5))), (30, 1, (.c (.i .u8 10))), (31, 1, (.c (.i .u8 9)))], none⟩,
 ⟨none, .store none ⟨32, true⟩ (.g 3 (glD 3)) (.t 0), none⟩]) ((.seq (.ops [⟨some 1, .build [(.i .u8 0), (.i .u8 0), (.i .u8 0), (.i .u8 0), (.i .u8 0), (.i .u8 0), (.i .u8 0), (.i .u8 0), (.i .u8 0), (.i .u8 0), (.i .u8 0), (.i .u8 0), (.i .u8 0), (.i .u8 0), (.i .u8 0), (.i .u8 0), (.i .u8 0), (.i .u8 0), (.i .u8 0), (.i .u8 0), (.i .u8 0), (.i .u8 0), (.i .u8 0), (.i .u8 0), (.i .u8 0), (.i .u8 0), (.i .u8 0), (.i .u8 0), (.i .u8 0), (.i .u8 0), (.i .u8 0), (.i .u8 0), (.i .u8 0), (.i .u8 0), (.i .u8 0), (.i .u8 0), (.i .u8 0), (.i .u8 0), (.i .u8 0), (.i .u8 0), (.i .u8 0), (.i .u8 0), (.i .u8 0), (.i .u8 0), (.i .u8 0), (.i .u8 0), (.i .u8 0), (.i .u8 0), (.i .u8 0), (.i .u8 0), (.i .u8 0), (.i .u8 0), (.i .u8 0), (.i .u8 0), (.i .u8 0), (.i .u8 0), (.i .u8 0), (.i .u8 0), (.i .u8 0), (.i .u8 0), (.i .u8 0), (.i .u8 0), (.i .u8 0), (.i .u8 0)] [(0, 1, (.c (.i .u8 0))), (1, 1, (.c (.i .u8 1))), (2, 1, (.c (.i .u8 56))), (3, 1, (.c (.i .u8 2))), (4, 1, (.c (.i .u8 57))), (5, 1, (.c (.i .u8 49))), (6, 1, (.c (.i .u8 28))), (7, 1, (.c (.i .u8 3))), (8, 1, (.c (.i .u8 61))), (9, 1, (.c (.i .u8 58))), (10, 1, (.c (.i .u8 42))), (11, 1, (.c (.i .u8 50))), (12, 1, (.c (.i .u8 38))), (13, 1, (.c (.i .u8 29))), (14, 1, (.c (.i .u8 17))), (15, 1, (.c (.i .u8 4))), (16, 1, (.c (.i .u8 62))), (17, 1, (.c (.i .u8 47))), (18, 1, (.c (.i .u8 59))), (19, 1, (.c (.i .u8 36))), (20, 1, (.c (.i .u8 45))), (21, 1, (.c (.i .u8 43))), (22, 1, (.c (.i .u8 51))), (23, 1, (.c (.i .u8 22))), (24, 1, (.c (.i .u8 53))), (25, 1, (.c (.i .u8 39))), (26, 1, (.c (.i .u8 33))), (27, 1, (.c (.i .u8 30))), (28, 1, (.c (.i .u8 24))), (29, 1, (.c (.i .u8 18))), (30, 1, (.c (.i .u8 12))), (31, 1, (.c (.i .u8 5))), (32, 1, (.c (.i .u8 63))), (33, 1, (.c (.i .u8 55))), (34, 1, (.c (.i .u8 48))), (35, 1, (.c (.i .u8 27))), (36, 1, (.c (.i .u8 60))), (37, 1, (.c (.i .u8 41))), (38, 1, (.c (.i .u8 37))), (39, 1, (.c (.i .u8 16))), (40, 1, (.c (.i .u8 46))), (41, 1, (.c (.i .u8 35))), (42, 1, (.c (.i .u8 44))), (43, 1, (.c (.i .u8 21))), (44, 1, (.c (.i .u8 52))), (45, 1, (.c (.i .u8 32))), (46, 1, (.c (.i .u8 23))), (47, 1, (.c (.i .u8 11))), (48, 1, (.c (.i .u8 54))), (49, 1, (.c (.i .u8 26))), (50, 1, (.c (.i .u8 40))), (51, 1, (.c (.i .u8 15))), (52, 1, (.c (.i .u8 34))), (53, 1, (.c (.i .u8 20))), (54, 1, (.c (.i .u8 31))), (55, 1, (.c (.i .u8 10))), (56, 1, (.c (.i .u8 25))), (57, 1, (.c (.i .u8 14))), (58, 1, (.c (.i .u8 19))), (59, 1, (.c (.i .u8 9))), (60, 1, (.c (.i .u8 13))), (61, 1, (.c (.i .u8 8))), (62, 1, (.c (.i .u8 7))), (63, 1, (.c (.i .u8 6)))], none⟩,
 ⟨none, .store none ⟨64, true⟩ (.g 4 (glD 4)) (.t 1), none⟩]) ((.seq (.ops [⟨some 2, .build [(.i .u64 0), (.i .u64 0), (.i .u64 0), (.i .u64 0), (.i .u64 0), (.i .u64 0), (.i .u64 0), (.i .u64 0), (.i .u64 0), (.i .u64 0), (.i .u64 0), (.i .u64 0), (.i .u64 0), (.i .u64 0), (.i .u64 0), (.i .u64 0), (.i .u64 0), (.i .u64 0), (.i .u64 0), (.i .u64 0)] [(0, 1, (.c (.i .u64 1))), (1, 1, (.c (.i .u64 10))), (2, 1, (.c (.i .u64 100))), (3, 1, (.c (.i .u64 1000))), (4, 1, (.c (.i .u64 10000))), (5, 1, (.c (.i .u64 100000))), (6, 1, (.c (.i .u64 1000000))), (7, 1, (.c (.i .u64 10000000))), (8, 1, (.c (.i .u64 100000000))), (9, 1, (.c (.i .u64 1000000000))), (10, 1, (.c (.i .u64 10000000000))), (11, 1, (.c (.i .u64 100000000000))), (12, 1, (.c (.i .u64 1000000000000))), (13, 1, (.c (.i .u64 10000000000000))), (14, 1, (.c (.i .u64 100000000000000))), (15, 1, (.c (.i .u64 1000000000000000))), (16, 1, (.c (.i .u64 10000000000000000))), (17, 1, (.c (.i .u64 100000000000000000))), (18, 1, (.c (.i .u64 1000000000000000000))), (19, 1, (.c (.i .u64 10000000000000000000)))], none⟩,
 ⟨none, .store none ⟨20, true⟩ (.g 2 (glD 2)) (.t 2), none⟩]) ((.seq (.ops [⟨some 3, .build [(.i .u16 0), (.i .u16 0), (.i .u16 0)] [(0, 1, (.c (.i .u16 9))), (1, 1, (.c (.i .u16 13))), (2, 1, (.c (.i .u16 1)))], none⟩,
 ⟨some 4, .build [(.i .u16 0), (.i .u16 0), (.i .u16 0)] [(0, 1, (.c (.i .u16 32))), (1, 1, (.c (.i .u16 133))), (2, 1, (.c (.i .u16 101)))], none⟩,
 ⟨some 5, .build [(.i .u16 0), (.i .u16 0), (.i .u16 0)] [(0, 1, (.c (.i .u16 160))), (1, 1, (.c (.i .u16 5760))), (2, 1, (.c (.i .u16 5600)))], none⟩,
 ⟨some 6, .build [(.i .u16 0), (.i .u16 0), (.i .u16 0)] [(0, 1, (.c (.i .u16 8192))), (1, 1, (.c (.i .u16 8202))), (2, 1, (.c (.i .u16 1)))], none⟩,
 ⟨some 7, .build [(.i .u16 0), (.i .u16 0), (.i .u16 0)] [(0, 1, (.c (.i .u16 8232))), (1, 1, (.c (.i .u16 8233))), (2, 1, (.c (.i .u16 1)))], none⟩,
 ⟨some 8, .build [(.i .u16 0), (.i .u16 0), (.i .u16 0)] [(0, 1, (.c (.i .u16 8239))), (1, 1, (.c (.i .u16 8287))), (2, 1, (.c (.i .u16 48)))], none⟩,
 ⟨some 9, .build [(.i .u16 0), (.i .u16 0), (.i .u16 0)] [(0, 1, (.c (.i .u16 12288))), (1, 1, (.c (.i .u16 12288))), (2, 1, (.c (.i .u16 1)))], none⟩,
 ⟨some 10, .buildSlice (.agg [(.i .u16 0), (.i .u16 0), (.i .u16 0)]) 7 [(0, (.t 3)), (1, (.t 4)), (2, (.t 5)), (3, (.t 6)), (4, (.t 7)), (5, (.t 8)), (6, (.t 9))], none⟩,
 ⟨some 11, .build [.nil, .nil, (.i .i64 0)] [(0, 1, (.t 10)), (2, 1, (.c (.i .i64 2)))], none⟩,
 ⟨some 12, .box false (.t 11), none⟩,
 ⟨none, .stuck, none⟩]) ((.seq (.ops [⟨some 13, .stuck, none⟩,
 ⟨none, .stuck, none⟩]) (.ops [⟨some 14, .build [(.i .u8 0), (.i .u8 0), (.i .u8 0), (.i .u8 0), (.i .u8 0), (.i .u8 0), (.i .u8 0), (.i .u8 0), (.i .u8 0), (.i .u8 0), (.i .u8 0), (.i .u8 0), (.i .u8 0), (.i .u8 0), (.i .u8 0), (.i .u8 0), (.i .u8 0), (.i .u8 0), (.i .u8 0), (.i .u8 0), (.i .u8 0), (.i .u8 0), (.i .u8 0), (.i .u8 0), (.i .u8 0), (.i .u8 0), (.i .u8 0), (.i .u8 0), (.i .u8 0), (.i .u8 0), (.i .u8 0), (.i .u8 0), (.i .u8 0), (.i .u8 0), (.i .u8 0), (.i .u8 0), (.i .u8 0), (.i .u8 0), (.i .u8 0), (.i .u8 0), (.i .u8 0), (.i .u8 0), (.i .u8 0), (.i .u8 0), (.i .u8 0), (.i .u8 0), (.i .u8 0), (.i .u8 0), (.i .u8 0), (.i .u8 0), (.i .u8 0), (.i .u8 0), (.i .u8 0), (.i .u8 0), (.i .u8 0), (.i .u8 0), (.i .u8 0), (.i .u8 0), (.i .u8 0), (.i .u8 0), (.i .u8 0), (.i .u8 0), (.i .u8 0), (.i .u8 0), (.i .u8 0), (.i .u8 0), (.i .u8 0), (.i .u8 0), (.i .u8 0), (.i .u8 0), (.i .u8 0), (.i .u8 0), (.i .u8 0), (.i .u8 0), (.i .u8 0), (.i .u8 0), (.i .u8 0), (.i .u8 0), (.i .u8 0), (.i .u8 0), (.i .u8 0), (.i .u8 0), (.i .u8 0), (.i .u8 0), (.i .u8 0), (.i .u8 0), (.i .u8 0), (.i .u8 0), (.i .u8 0), (.i .u8 0), (.i .u8 0), (.i .u8 0), (.i .u8 0), (.i .u8 0), (.i .u8 0), (.i .u8 0), (.i .u8 0), (.i .u8 0), (.i .u8 0), (.i .u8 0), (.i .u8 0), (.i .u8 0), (.i .u8 0), (.i .u8 0), (.i .u8 0), (.i .u8 0), (.i .u8 0), (.i .u8 0), (.i .u8 0), (.i .u8 0), (.i .u8 0), (.i .u8 0), (.i .u8 0), (.i .u8 0), (.i .u8 0), (.i .u8 0), (.i .u8 0), (.i .u8 0), (.i .u8 0), (.i .u8 0), (.i .u8 0), (.i .u8 0), (.i .u8 0), (.i .u8 0), (.i .u8 0), (.i .u8 0), (.i .u8 0), (.i .u8 0), (.i .u8 0), (.i .u8 0), (.i .u8 0), (.i .u8 0), (.i .u8 0), (.i .u8 0), (.i .u8 0), (.i .u8 0), (.i .u8 0), (.i .u8 0), (.i .u8 0), (.i .u8 0), (.i .u8 0), (.i .u8 0), (.i .u8 0), (.i .u8 0), (.i .u8 0), (.i .u8 0), (.i .u8 0), (.i .u8 0), (.i .u8 0), (.i .u8 0), (.i .u8 0), (.i .u8 0), (.i .u8 0), (.i .u8 0), (.i .u8 0), (.i .u8 0), (.i .u8 0), (.i .u8 0), (.i .u8 0), (.i .u8 0), (.i .u8 0), (.i .u8 0), (.i .u8 0), (.i .u8 0), (.i .u8 0), (.i .u8 0), (.i .u8 0), (.i .u8 0), (.i .u8 0), (.i .u8 0), (.i .u8 0), (.i .u8 0), (.i .u8 0), (.i .u8 0), (.i .u8 0), (.i .u8 0), (.i .u8 0), (.i .u8 0), (.i .u8 0), (.i .u8 0), (.i .u8 0), (.i .u8 0), (.i .u8 0), (.i .u8 0), (.i .u8 0), (.i .u8 0), (.i .u8 0), (.i .u8 0), (.i .u8 0), (.i .u8 0), (.i .u8 0), (.i .u8 0), (.i .u8 0), (.i .u8 0), (.i .u8 0), (.i .u8 0), (.i .u8 0), (.i .u8 0), (.i .u8 0), (.i .u8 0), (.i .u8 0), (.i .u8 0), (.i .u8 0), (.i .u8 0), (.i .u8 0), (.i .u8 0), (.i .u8 0), (.i .u8 0), (.i .u8 0), (.i .u8 0), (.i .u8 0), (.i .u8 0), (.i .u8 0), (.i .u8 0), (.i .u8 0), (.i .u8 0), (.i .u8 0), (.i .u8 0), (.i .u8 0), (.i .u8 0), (.i .u8 0), (.i .u8 0), (.i .u8 0), (.i .u8 0), (.i .u8 0), (.i .u8 0), (.i .u8 0), (.i .u8 0), (.i .u8 0), (.i .u8 0), (.i .u8 0), (.i .u8 0), (.i .u8 0), (.i .u8 0), (.i .u8 0), (.i .u8 0), (.i .u8 0), (.i .u8 0), (.i .u8 0), (.i .u8 0), (.i .u8 0), (.i .u8 0), (.i .u8 0), (.i .u8 0), (.i .u8 0), (.i .u8 0), (.i .u8 0), (.i .u8 0), (.i .u8 0), (.i .u8 0), (.i .u8 0), (.i .u8 0), (.i .u8 0), (.i .u8 0), (.i .u8 0), (.i .u8 0)] [(9, 1, (.c (.i .u8 1))), (10, 1, (.c (.i .u8 1))), (11, 1, (.c (.i .u8 1))), (12, 1, (.c (.i .u8 1))), (13, 1, (.c (.i .u8 1))), (32, 1, (.c (.i .u8 1)))], none⟩,
 ⟨none, .store none ⟨256, true⟩ (.g 0 (glD 0)) (.t 14), none⟩])))))))))), none, none⟩
def prog (n : Nat) : Option Fn :=
  bif qvG n 2 then some qd6 else
  bif qvG n 3 then some qcx else
  bif qvG n 4 then some zi else
  bif qvG n 5 then some qb4 else
  bif qvG n 6 then some qdB else
  bif qvG n 7 then some qdv else
  bif qvG n 8 then some kM else
  bif qvG n 9 then some qfV else
  bif qvG n 10 then some zZ else
  bif qvG n 11 then some jP else
  bif qvG n 12 then some qar else
  bif qvG n 13 then some kO else
  bif qvG n 14 then some qh2 else
  bif qvG n 15 then some qcA else
  bif qvG n 16 then some jC else
  bif qvG n 17 then some qgU else
  bif qvG n 18 then some qgT else
  bif qvG n 19 then some qeO else
  bif qvG n 20 then some zJ else
  bif qvG n 21 then some zP else
  bif qvG n 22 then some y9 else
  bif qvG n 23 then some qcp else
  bif qvG n 24 then some yV else
  bif qvG n 25 then some yD else
  bif qvG n 26 then some qaa else
  bif qvG n 27 then some qhb else
  bif qvG n 28 then some qe0 else
  bif qvG n 29 then some qdt else
  bif qvG n 30 then some qeR else
  bif qvG n 31 then some qat else
  bif qvG n 32 then some qbF else
  bif qvG n 33 then some yP else
  bif qvG n 34 then some qdT else
  bif qvG n 35 then some qbr else
  bif qvG n 36 then some qcv else
  bif qvG n 37 then some qds else
  bif qvG n 38 then some qad else
  bif qvG n 39 then some qay else
  bif qvG n 40 then some qa8 else
  bif qvG n 41 then some qaf else
  bif qvG n 42 then some yu else
  bif qvG n 43 then some yT else
  bif qvG n 44 then some qeT else
  bif qvG n 45 then some qfc else
  bif qvG n 46 then some qac else
  bif qvG n 47 then some qdy else
  bif qvG n 48 then some yQ else
  bif qvG n 49 then some yw else
  bif qvG n 50 then some qaW else
  bif qvG n 51 then some qaw else
  bif qvG n 52 then some qas else
  bif qvG n 80 then some qek else none
end W

/-
  More equations: nil slices, shifts, bits, bytes.
-/
set_option linter.unusedSimpArgs false
set_option linter.unusedVariables false
namespace W
open Go (IntKind BinOp UnOp)
theorem kf {n : Nat} : isC (.t n) = false := (rfl)
theorem kx {x : D} : isC (.c x) = true := (rfl)
theorem qaM {c : Bool} {k k' : IntKind} {m n : Int} (h : (0 ≤ n) = True) : qb2 .shl .num c (.d (.i k m)) (.d (.i k' n)) = some (.d (.i k (wr k (m * 2 ^ (min n.toNat k.bits))))) := by
  have h : 0 ≤ n := by rw [h]; trivial
  simp [qb2, qbP, qdV, qfT, h]
theorem qfC {c : Bool} {k k' : IntKind} {m n : Int} (h : (0 ≤ n) = True) : qb2 .shr .num c (.d (.i k m)) (.d (.i k' n)) = some (.d (.i k (m.fdiv (2 ^ (min n.toNat k.bits))))) := by
  have h : 0 ≤ n := by rw [h]; trivial
  simp [qb2, qbP, qdV, qfT, h]
def orI (k : IntKind) (a b : Int) : Int := k.wrap ((BitVec.ofInt k.bits a) ||| (BitVec.ofInt k.bits b)).toNat
def qqk (k : IntKind) (a b : Int) : Int := k.wrap ((BitVec.ofInt k.bits a) &&& (BitVec.ofInt k.bits b)).toNat
def qis (k : IntKind) (a b : Int) : Int := k.wrap ((BitVec.ofInt k.bits a) ^^^ (BitVec.ofInt k.bits b)).toNat
theorem qbJ {c : Bool} {k : IntKind} {m n : Int} : qb2 .or .num c (.d (.i k m)) (.d (.i k n)) = some (.d (.i k (orI k m n))) := by rw [qdY rfl]; rfl
theorem yy {c : Bool} {k : IntKind} {m n : Int} : qb2 .and .num c (.d (.i k m)) (.d (.i k n)) = some (.d (.i k (qqk k m n))) := by rw [qdY rfl]; rfl
theorem qkx {c : Bool} {k : IntKind} {m n : Int} : qb2 .xor .num c (.d (.i k m)) (.d (.i k n)) = some (.d (.i k (qis k m n))) := by rw [qdY rfl]; rfl
def qj7 (s : Nat) (v : V) : V := match v with | .lp t o => bif qvG t s then .undef else .lp t o | v => v
theorem zn {s : Nat} : qcl s [] = [] := (rfl)
theorem kW {s n : Nat} {v : V} {e : Env} : qcl s ((n, v) :: e) = (n, qj7 s v) :: qcl s e := (rfl)
theorem yl {s : Nat} {x : D} : qj7 s (.d x) = .d x := (rfl)
theorem qfy {s : Nat} {x : List V} : qj7 s (.box x) = .box x := (rfl)
theorem qcs {s : Nat} {x : D} : qj7 s (.cp x) = .cp x := (rfl)
theorem qkb {s : Nat} {x : List V} : qj7 s (.tup x) = .tup x := (rfl)
theorem qcZ {α : Type} {s : Nat} {e : α → D} {L : List α} : qj7 s (slV e L) = slV e L := by cases L <;> rfl
theorem jA {cs : List V} {o : Nat} {v w : V} (h : (o + 1 < cs.length) = True) : za cs o [v, w] = some ((cs.set o v).set (o + 1) w) := by
  have h : o + 1 < cs.length := by rw [h]; trivial
  have : o + [v, w].length ≤ cs.length := by simp; omega
  rw [za, if_pos this]
  congr 1
  apply List.ext_getElem?
  intro j
  simp only [List.getElem?_append, List.length_append, List.length_take, qvP, qvQ, List.getElem?_drop, List.getElem?_set, List.length_set, List.getElem?_take]
  rcases Nat.lt_trichotomy j o with hj | hj | hj
  · rw [if_pos (by omega), if_pos (by omega), if_pos (by omega), if_neg (by omega), if_neg (by omega)]
  · subst hj
    rw [if_pos (by omega), if_neg (by omega), if_neg (by omega), if_pos rfl, if_pos (by omega)]
    have : j - min j cs.length = 0 := by omega
    simp [this]
  · by_cases hj2 : j = o + 1
    · subst hj2
      rw [if_pos (by omega), if_neg (by omega), if_pos rfl, if_pos (by omega)]
      have : o + 1 - min o cs.length = 1 := by omega
      simp [this]
    · rw [if_neg (by omega), if_neg (by omega), if_neg (by omega)]
      congr 1; omega
def cpV (r : Option D) : Option V := match r with | some y => bif y.one then some (.cp y) else none | none => none
theorem qol {cs : List D} {off : Nat} : faV (.cp (.agg cs)) off ⟨1, false⟩ = cpV (cs[off]?) := by
  simp only [faV, D.part, cpV]
  cases h : cs[off]? with
  | none => simp [h]
  | some y => cases hy : y.one <;> simp [h, hy]
theorem qsN {k : IntKind} {n : Int} : cpV (some (.i k n)) = some (.cp (.i k n)) := (rfl)
def qtE (l : L) (st : St) : V → Option V
  | .box cs => V.part 0 l cs
  | .ptr id off => zE l st (.ptr id off)
  | _ => none
theorem qaG {own : Bool} {st : St} {n : Nat} {l : L} : qaI own st (.cell n l) = qtE l st (get n st.env) := by
  simp only [qaI, qtE]
  cases get n st.env <;> rfl
theorem qee {l : L} {st : St} {cs : List V} : qtE l st (.box cs) = qnD l 0 (.box cs) := (rfl)
theorem qaj {i o n : Nat} : qeL (.row i o n) = .row i o n := (rfl)
def e8 (n : Nat) : D := .i .u8 (n : Int)
theorem qba (n : Nat) : (e8 n).cells.length = 1 := rfl
theorem qop (n : Nat) : wr .u8 (n : Int) = ((n % 256 : Nat) : Int) := by
  by_cases h : n ≤ 255
  · rw [qqW (by omega) (by omega), Nat.mod_eq_of_lt (by omega)]
  · show (bif Nat.ble n 255 then (Int.ofNat n) else IntKind.wrap .u8 (Int.ofNat n)) = _
    have : Nat.ble n 255 = false := by rw [qfX]; simp; omega
    rw [this]
    simp [IntKind.wrap, IntKind.bits, IntKind.signed]
theorem qln {n : Nat} : orI .u8 ((n % 256 : Nat) : Int) 128 = ((n % 128 + 128 : Nat) : Int) := by
  have key : ∀ m : Fin 256, orI .u8 ((m.val : Nat) : Int) 128 = ((m.val % 128 + 128 : Nat) : Int) := by decide +kernel
  have := key ⟨n % 256, Nat.mod_lt _ (by omega)⟩
  simp only at this
  rw [this]
  omega
theorem qum (n : Nat) : Int.fdiv (n : Int) (2 ^ (min (7 : Int).toNat (IntKind.bits .u64))) = ((n / 128 : Nat) : Int) := by
  show Int.fdiv (n : Int) (2 ^ 7) = _
  rw [Int.fdiv_eq_ediv_of_nonneg _ (by omega)]
  omega
end W

/- Walking on: interfaces, panics, function values, deferred closures. -/
set_option linter.unusedSimpArgs false
set_option linter.unusedVariables false
namespace W
open Go (IntKind BinOp UnOp)
variable {pg : Pg} {st : St} {call : Call}
end W

/-
  Walking of rows that may be written.
-/
set_option linter.unusedSimpArgs false
set_option linter.unusedVariables false
namespace W
open Go (IntKind BinOp UnOp)
section
variable {call : Call} {st : St}
def apR (l : L) (b : Nat) (st : St) (ys : Option (List D)) (x : V) : Option Or :=
  match ys with
  | some ys => match x with
    | .d .nil => bif zj l.n ys && roomy b ys.length then (match ys with
      | [] => ok (.d .nil) st
      | y0 :: ys => okH (.row st.H.length l.n (ys.length + 1)) { st with H := st.H ++ [.row l (qb3 (y0 :: ys))] }) else none
    | .row id sz len => match st.H[id]? with
      | some (.row l' cs) => bif qvG sz l.n && (qvG cs.length (len * sz) && (zj l.n ys && roomy b (len + ys.length))) then
          okH (.row st.H.length sz (len + ys.length)) { st with H := k9 st.H id .dead ++ [.row l' (cs ++ qb3 ys)], lo := min st.lo id } else none
      | _ => none
    | _ => none
  | none => none
theorem jN {l : L} {b : Nat} {x y : O} : qy call (.appendR l b x y) st = apR l b st (qhy l (rd st.env y)) (rd st.env x) := by
  show qaD l b x y st = _
  unfold qaD apR
  cases qhy l (rd st.env y) with
  | none => rfl
  | some ys =>
    cases rd st.env x with
    | d u => cases u <;> first | rfl | (cases ys <;> rfl)
    | row id sz len => rfl
    | _ => rfl
theorem qbs {l : L} {ys : List D} : qhy l (.d (.sl ys)) = some ys := (rfl)
theorem qsp {l : L} {b : Nat} {y0 : D} {ys : List D} (h1 : zj l.n (y0 :: ys) = true) (h2 : roomy b (ys.length + 1) = true) :
    apR l b st (some (y0 :: ys)) (.d .nil) = some ⟨false, false, .row st.H.length l.n (ys.length + 1), ⟨st.env, st.H ++ [.row l (qb3 (y0 :: ys))], st.lo⟩⟩ := by
  simp only [apR, h1, qvP, h2, qvL, cond_true, okH]
def apX (l : L) (b id sz len : Nat) (ys : List D) (st : St) (ob : Option Obj) : Option Or :=
  match ob with
  | some (.row l' cs) => bif qvG sz l.n && (qvG cs.length (len * sz) && (zj l.n ys && roomy b (len + ys.length))) then
      some ⟨false, false, .row st.H.length sz (len + ys.length), ⟨st.env, k9 st.H id .dead ++ [.row l' (cs ++ qb3 ys)], min st.lo id⟩⟩ else none
  | _ => none
theorem qrL {l : L} {b id sz len : Nat} {ys : List D} : apR l b st (some ys) (.row id sz len) = apX l b id sz len ys st (st.H[id]?) := (rfl)
theorem qse {l l' : L} {b id sz len : Nat} {ys : List D} {cs : List V} (h1 : qvG sz l.n = true) (h2 : (cs.length = len * sz) = True) (h3 : zj l.n ys = true) (h4 : roomy b (len + ys.length) = true) :
    apX l b id sz len ys st (some (.row l' cs)) = some ⟨false, false, .row st.H.length sz (len + ys.length), ⟨st.env, k9 st.H id .dead ++ [.row l' (cs ++ qb3 ys)], min st.lo id⟩⟩ := by
  have h2 : cs.length = len * sz := by rw [h2]; trivial
  have h5 : qvG cs.length (len * sz) = true := by rw [h2]; exact Nat.beq_refl _
  simp only [apX, h1, h5, h3, h4, qvL, cond_true]
def fzV (n : Nat) (v : V) (st : St) : Option Or :=
  match v with
  | .box cs => match qh0 cs st.H st.lo with
    | some (cs', H', lo') => some ⟨false, false, .undef, ⟨(n, .box cs') :: st.env, H', lo'⟩⟩
    | none => none
  | .row id sz len => match qhs (.row id sz len) st.H st.lo with
    | some (v', H', lo') => some ⟨false, false, .undef, ⟨(n, v') :: st.env, H', lo'⟩⟩
    | none => none
  | _ => some ⟨false, false, .undef, st⟩
theorem ql0 {n : Nat} : qy call (.fz n) st = fzV n (get n st.env) st := by
  show eFz n st = _
  unfold eFz fzV
  cases get n st.env <;> first | rfl | (cases qhs _ _ _ <;> rfl)
theorem que {n : Nat} {x : D} : fzV n (.d x) st = some ⟨false, false, .undef, st⟩ := (rfl)
def fzR (n id sz len : Nat) (st : St) (ob : Option Obj) : Option Or :=
  match ob with
  | some (.row l cs) => bif qvG l.n sz && (qvG cs.length (len * sz) && (Nat.blt 0 len && (Nat.blt 0 sz && (l.agg || qvG sz 1)))) then (match qaA cs with
    | some ds => bif D.ones ds then some ⟨false, false, .undef, ⟨(n, .d (.sl (chunk l len ds))) :: st.env, k9 st.H id .dead, min st.lo id⟩⟩ else none
    | none => none) else none
  | _ => none
theorem qsg {n id sz len : Nat} : fzV n (.row id sz len) st = fzR n id sz len st (st.H[id]?) := by
  simp only [fzV, qhs, fzR]
  cases st.H[id]? with
  | none => rfl
  | some ob => cases ob with
    | row l cs =>
      simp only
      cases qvG l.n sz && (qvG cs.length (len * sz) && (Nat.blt 0 len && (Nat.blt 0 sz && (l.agg || qvG sz 1)))) with
      | false => rfl
      | true =>
        simp only [cond_true]
        cases qaA cs with
        | none => rfl
        | some ds => simp only; cases D.ones ds <;> rfl
    | _ => rfl
theorem qsk {n id sz len : Nat} {l : L} {cs : List V} {ds : List D} (h1 : qvG l.n sz = true) (h2 : (cs.length = len * sz) = True) (h3 : Nat.blt 0 len = true) (h4 : Nat.blt 0 sz = true) (h5 : (l.agg || qvG sz 1) = true) (h6 : qaA cs = some ds) (h7 : D.ones ds = true) :
    fzR n id sz len st (some (.row l cs)) = some ⟨false, false, .undef, ⟨(n, .d (.sl (chunk l len ds))) :: st.env, k9 st.H id .dead, min st.lo id⟩⟩ := by
  have h2 : cs.length = len * sz := by rw [h2]; trivial
  have h8 : qvG cs.length (len * sz) = true := by rw [h2]; exact Nat.beq_refl _
  simp only [fzR, h1, h8, h3, h4, h5, h6, h7, qvL, cond_true]
theorem qqJ {i o n : Nat} : copy (.row i o n) = .row i o n := (rfl)
end
end W

set_option linter.unusedSimpArgs false
set_option linter.unusedVariables false
namespace W
open Go (IntKind BinOp UnOp)
def pg : Pg := ⟨prog, fun _ _ _ => none⟩
set_option maxRecDepth 20000
def putV (v : Nat) : List Nat := if h : v ≤ 127 then [v] else (v % 128 + 128) :: putV (v / 128)
decreasing_by omega
theorem qew {v : Nat} (h : v ≤ 127) : putV v = [v] := by rw [putV, dif_pos h]
theorem qgt {v : Nat} (h : ¬ v ≤ 127) : putV v = (v % 128 + 128) :: putV (v / 128) := by rw [putV, dif_neg h]
theorem qfA {v : Nat} (h : v < 2 ^ 64) : (putV v).length ≤ 10 := by
  have step : ∀ (k v : Nat), v < 128 ^ (k + 1) → (putV v).length ≤ k + 1 := by
    intro k
    induction k with
    | zero => intro v hv; rw [qew (by omega)]; simp
    | succ k ih =>
      intro v hv
      by_cases hs : v ≤ 127
      · rw [qew hs]; simp
      · rw [qgt hs]
        have := ih (v / 128) (by rw [Nat.pow_succ] at hv; exact Nat.div_lt_of_lt_mul (by omega))
        simp; omega
  exact step 9 v (by omega)
end W

set_option linter.unusedSimpArgs false
set_option linter.unusedVariables false
namespace W
open Go (IntKind BinOp UnOp)
set_option maxRecDepth 20000
def j6 (k : Int) : Bool := decide (k = 1) || decide (k = 5) || decide (k = 8) || decide (k = 25) || decide (k = 26) || decide (k = 27) || decide (k = 28) || decide (k = 30)
theorem qgY {k : Int} {H : List Obj} : kK pg 16 [.d (.i .i64 k)] H = some ⟨false, true, .d (.b (j6 k)), H, H.length⟩ := by
  rw [jE (fn := jC) rfl rfl]
  by_cases h1 : k = 1
  · rw [show j6 k = true by simp [j6, h1]]
    simp only [jC, h1, qi, qvF, qp, ql, qk, qf, qc, kH, qA, qD, qT, qa, qb, kC, reduceCtorEq, qs, qr, qm, qn, qq, qe, kf, kx, qvK, qY, decide_true, qh, qj, qw, ↓reduceIte, qI, qJ, qZ, qL, qM, qd, qx, kq, qg, qo, ko, qK, zk, kN, qF]
  by_cases h5 : k = 5
  · rw [show j6 k = true by simp [j6, h5]]
    simp only [jC, h5, qi, qvF, qp, ql, qk, qf, qc, kH, qA, qD, qT, qa, qb, kC, reduceCtorEq, qs, qr, qm, qn, qq, qe, kf, kx, qvK, qY, Int.reduceEq, decide_false, qh, qj, qw, qvA, ↓reduceIte, Nat.reduceEqDiff, decide_true, qI, qJ, qZ, qL, qM, qd, qx, kq, qg, qo, ko, qK, zk, kN, qF]
  by_cases h8 : k = 8
  · rw [show j6 k = true by simp [j6, h8]]
    simp only [jC, h8, qi, qvF, qp, ql, qk, qf, qc, kH, qA, qD, qT, qa, qb, kC, reduceCtorEq, qs, qr, qm, qn, qq, qe, kf, kx, qvK, qY, Int.reduceEq, decide_false, qh, qj, qw, qvA, ↓reduceIte, Nat.reduceEqDiff, decide_true, qI, qJ, qZ, qL, qM, qd, qx, kq, qg, qo, ko, qK, zk, kN, qF]
  by_cases h25 : k = 25
  · rw [show j6 k = true by simp [j6, h25]]
    simp only [jC, h25, qi, qvF, qp, ql, qk, qf, qc, kH, qA, qD, qT, qa, qb, kC, reduceCtorEq, qs, qr, qm, qn, qq, qe, kf, kx, qvK, qY, Int.reduceEq, decide_false, qh, qj, qw, qvA, ↓reduceIte, Nat.reduceEqDiff, decide_true, qI, qJ, qZ, qL, qM, qd, qx, kq, qg, qo, ko, qK, zk, kN, qF]
  by_cases h26 : k = 26
  · rw [show j6 k = true by simp [j6, h26]]
    simp only [jC, h26, qi, qvF, qp, ql, qk, qf, qc, kH, qA, qD, qT, qa, qb, kC, reduceCtorEq, qs, qr, qm, qn, qq, qe, kf, kx, qvK, qY, Int.reduceEq, decide_false, qh, qj, qw, qvA, ↓reduceIte, Nat.reduceEqDiff, decide_true, qI, qJ, qZ, qL, qM, qd, qx, kq, qg, qo, ko, qK, zk, kN, qF]
  by_cases h27 : k = 27
  · rw [show j6 k = true by simp [j6, h27]]
    simp only [jC, h27, qi, qvF, qp, ql, qk, qf, qc, kH, qA, qD, qT, qa, qb, kC, reduceCtorEq, qs, qr, qm, qn, qq, qe, kf, kx, qvK, qY, Int.reduceEq, decide_false, qh, qj, qw, qvA, ↓reduceIte, Nat.reduceEqDiff, decide_true, qI, qJ, qZ, qL, qM, qd, qx, kq, qg, qo, ko, qK, zk, kN, qF]
  by_cases h28 : k = 28
  · rw [show j6 k = true by simp [j6, h28]]
    simp only [jC, h28, qi, qvF, qp, ql, qk, qf, qc, kH, qA, qD, qT, qa, qb, kC, reduceCtorEq, qs, qr, qm, qn, qq, qe, kf, kx, qvK, qY, Int.reduceEq, decide_false, qh, qj, qw, qvA, ↓reduceIte, Nat.reduceEqDiff, decide_true, qI, qJ, qZ, qL, qM, qd, qx, kq, qg, qo, ko, qK, zk, kN, qF]
  by_cases h30 : k = 30
  · rw [show j6 k = true by simp [j6, h30]]
    simp only [jC, h30, qi, qvF, qp, ql, qk, qf, qc, kH, qA, qD, qT, qa, qb, kC, reduceCtorEq, qs, qr, qm, qn, qq, qe, kf, kx, qvK, qY, Int.reduceEq, decide_false, qh, qj, qw, qvA, ↓reduceIte, Nat.reduceEqDiff, decide_true, qJ, qZ, qL, qM, qd, qx, kq, qg, qo, ko, qK, zk, kN, qF]
  rw [show j6 k = false by simp [j6, h1, h5, h8, h25, h26, h27, h28, h30]]
  simp only [jC, qi, qvF, qp, ql, qk, qf, qc, kH, qA, qD, qT, qa, qb, kC, reduceCtorEq, qs, qr, qm, qn, qq, qe, kf, kx, qvK, qY, h1, decide_false, qh, qj, qw, qvA, ↓reduceIte, Nat.reduceEqDiff, h5, h8, h25, h26, h27, h28, h30, qI, zK, qO, qJ, qM, qd, qx, kq, qg, qo, ko, qK, zk, kN, qF]
theorem qaR {k : Int} {H : List Obj} : kK pg 8 [.d (.i .i64 k)] H = some ⟨false, true, .d (.b (j6 k)), H, H.length⟩ := by
  rw [jE (fn := kM) rfl rfl]
  by_cases h1 : k = 1
  · rw [show j6 k = true by simp [j6, h1]]
    simp only [kM, h1, qi, qvF, qp, ql, qk, qf, qc, kH, qA, qD, qT, qa, qb, kC, reduceCtorEq, qs, qr, qm, qn, qq, qe, kf, kx, qvK, qY, decide_true, qh, qj, qw, ↓reduceIte, qI, qJ, qZ, qL, qM, qd, qx, kq, qg, qo, ko, qK, zk, kN, qF]
  by_cases h5 : k = 5
  · rw [show j6 k = true by simp [j6, h5]]
    simp only [kM, h5, qi, qvF, qp, ql, qk, qf, qc, kH, qA, qD, qT, qa, qb, kC, reduceCtorEq, qs, qr, qm, qn, qq, qe, kf, kx, qvK, qY, Int.reduceEq, decide_false, qh, qj, qw, qvA, ↓reduceIte, Nat.reduceEqDiff, decide_true, qI, qJ, qZ, qL, qM, qd, qx, kq, qg, qo, ko, qK, zk, kN, qF]
  by_cases h8 : k = 8
  · rw [show j6 k = true by simp [j6, h8]]
    simp only [kM, h8, qi, qvF, qp, ql, qk, qf, qc, kH, qA, qD, qT, qa, qb, kC, reduceCtorEq, qs, qr, qm, qn, qq, qe, kf, kx, qvK, qY, Int.reduceEq, decide_false, qh, qj, qw, qvA, ↓reduceIte, Nat.reduceEqDiff, decide_true, qI, qJ, qZ, qL, qM, qd, qx, kq, qg, qo, ko, qK, zk, kN, qF]
  by_cases h25 : k = 25
  · rw [show j6 k = true by simp [j6, h25]]
    simp only [kM, h25, qi, qvF, qp, ql, qk, qf, qc, kH, qA, qD, qT, qa, qb, kC, reduceCtorEq, qs, qr, qm, qn, qq, qe, kf, kx, qvK, qY, Int.reduceEq, decide_false, qh, qj, qw, qvA, ↓reduceIte, Nat.reduceEqDiff, decide_true, qI, qJ, qZ, qL, qM, qd, qx, kq, qg, qo, ko, qK, zk, kN, qF]
  by_cases h26 : k = 26
  · rw [show j6 k = true by simp [j6, h26]]
    simp only [kM, h26, qi, qvF, qp, ql, qk, qf, qc, kH, qA, qD, qT, qa, qb, kC, reduceCtorEq, qs, qr, qm, qn, qq, qe, kf, kx, qvK, qY, Int.reduceEq, decide_false, qh, qj, qw, qvA, ↓reduceIte, Nat.reduceEqDiff, decide_true, qI, qJ, qZ, qL, qM, qd, qx, kq, qg, qo, ko, qK, zk, kN, qF]
  by_cases h27 : k = 27
  · rw [show j6 k = true by simp [j6, h27]]
    simp only [kM, h27, qi, qvF, qp, ql, qk, qf, qc, kH, qA, qD, qT, qa, qb, kC, reduceCtorEq, qs, qr, qm, qn, qq, qe, kf, kx, qvK, qY, Int.reduceEq, decide_false, qh, qj, qw, qvA, ↓reduceIte, Nat.reduceEqDiff, decide_true, qI, qJ, qZ, qL, qM, qd, qx, kq, qg, qo, ko, qK, zk, kN, qF]
  by_cases h28 : k = 28
  · rw [show j6 k = true by simp [j6, h28]]
    simp only [kM, h28, qi, qvF, qp, ql, qk, qf, qc, kH, qA, qD, qT, qa, qb, kC, reduceCtorEq, qs, qr, qm, qn, qq, qe, kf, kx, qvK, qY, Int.reduceEq, decide_false, qh, qj, qw, qvA, ↓reduceIte, Nat.reduceEqDiff, decide_true, qI, qJ, qZ, qL, qM, qd, qx, kq, qg, qo, ko, qK, zk, kN, qF]
  by_cases h30 : k = 30
  · rw [show j6 k = true by simp [j6, h30]]
    simp only [kM, h30, qi, qvF, qp, ql, qk, qf, qc, kH, qA, qD, qT, qa, qb, kC, reduceCtorEq, qs, qr, qm, qn, qq, qe, kf, kx, qvK, qY, Int.reduceEq, decide_false, qh, qj, qw, qvA, ↓reduceIte, Nat.reduceEqDiff, decide_true, qJ, qZ, qL, qM, qd, qx, kq, qg, qo, ko, qK, zk, kN, qF]
  rw [show j6 k = false by simp [j6, h1, h5, h8, h25, h26, h27, h28, h30]]
  simp only [kM, qi, qvF, qp, ql, qk, qf, qc, kH, qA, qD, qT, qa, qb, kC, reduceCtorEq, qs, qr, qm, qn, qq, qe, kf, kx, qvK, qY, h1, decide_false, qh, qj, qw, qvA, ↓reduceIte, Nat.reduceEqDiff, h5, h8, h25, h26, h27, h28, h30, qI, zK, qO, qJ, qM, qd, qx, kq, qg, qo, ko, qK, zk, kN, qF]
def eOp (p : Int × Int) : D := .agg [.i .i64 p.1, .i .i32 p.2]
def qcc (p : Int × Int) : Bool := decide (0 ≤ p.1) && decide (p.1 < 34) && (j6 p.1 || decide (p.2 = 0))
theorem qg3 {a b c : Int} {H : List Obj} : kK pg 32 [.d (.i .i64 a), .d (.i .i64 b), .d (.i .i64 c)] H = some ⟨false, true, .d (.b (decide (b ≤ a) && decide (a ≤ c))), H, H.length⟩ := by
  rw [jE (fn := qbF) rfl rfl]
  by_cases h1 : b ≤ a <;> by_cases h2 : a ≤ c <;> simp only [qbF, qi, qvF, Nat.reduceAdd, qp, ql, qk, qf, qc, kH, qA, qD, qT, qa, qb, kC, reduceCtorEq, qs, qr, qm, qn, Nat.reduceEqDiff, qe, kf, qvR, ym, h1, decide_true, qh, qQ, zc, kg, ↓reduceIte, qsa, h2, qz, kv, qJ, qM, qd, qx, kq, qg, qo, ko, qK, zk, kN, qF, qvL, decide_false, Bool.and_false, qvA, ky, qU, qap, Bool.and_true]
theorem qoX {p : Int × Int} {H : List Obj} : kK pg 21 [.d (eOp p)] H = some ⟨false, true, .d (.b (qcc p)), H, H.length⟩ := by
  obtain ⟨k, x⟩ := p
  rw [jE (fn := zP) rfl rfl]
  have h33 : (k ≤ 33) = (k < 34) := by rw [eq_iff_iff]; omega
  unfold qcc eOp
  by_cases h1 : 0 ≤ k
  · by_cases h2 : k < 34
    · cases h3 : j6 k
      · by_cases h4 : x = 0
        · simp only [zP, h4, qi, qvF, qp, ql, qk, qf, qdW, kC, qr, qm, qn, zO, qvM, qvT, zN, qaC, y8, jr, qvL, qjH, qD, ye, kW, yl, zn, qc, kH, qA, qT, qa, qb, kB, Nat.reduceEqDiff, qs, zQ, qck, Nat.add_zero, qh, qb6, qW, yK, yf, qci, qvS, qvH, yz, qR, qC, qK, qG, kF, qg3, h1, decide_true, h33, h2, qS, qB, qH, Nat.min_self, jo, zz, kw, qQ, zc, kg, ↓reduceIte, qaR, h3, kh, Bool.not_false, List.getElem?_cons_succ, qe, kf, kx, qvK, qY, qz, kv, qvA, qJ, qM, qd, qx, kq, qg, qo, ko, zk, kN, qF]
        · simp only [zP, qi, qvF, qp, ql, qk, qf, qdW, kC, qr, qm, qn, zO, qvM, qvT, zN, qaC, y8, jr, qvL, qjH, qD, ye, kW, yl, zn, qc, kH, qA, qT, qa, qb, kB, Nat.reduceEqDiff, qs, zQ, qck, Nat.add_zero, qh, qb6, qW, yK, yf, qci, qvS, qvH, yz, qR, qC, qK, qG, kF, qg3, h1, decide_true, h33, h2, qS, qB, qH, Nat.min_self, jo, zz, kw, qQ, zc, kg, ↓reduceIte, qaR, h3, kh, Bool.not_false, List.getElem?_cons_succ, qe, kf, kx, qvK, qY, h4, decide_false, qz, kv, qvA, qJ, qM, qd, qx, kq, qg, qo, ko, zk, kN, qF, qvR, Bool.and_false]
      · simp only [zP, qi, qvF, qp, ql, qk, qf, qdW, kC, qr, qm, qn, zO, qvM, qvT, zN, qaC, y8, jr, qvL, qjH, qD, ye, kW, yl, zn, qc, kH, qA, qT, qa, qb, kB, Nat.reduceEqDiff, qs, zQ, qck, Nat.add_zero, qh, qb6, qW, yK, yf, qci, qvS, qvH, yz, qR, qC, qK, qG, kF, qg3, h1, decide_true, h33, h2, qS, qB, qH, Nat.min_self, jo, zz, kw, qQ, zc, kg, ↓reduceIte, qaR, h3, kh, qvN, qvA, ky, qz, qU, qcN, kv, qJ, qM, qd, qx, kq, qg, qo, ko, zk, kN, qF, Bool.true_or]
    · simp only [zP, qi, qvF, qp, ql, qk, qf, qdW, kC, qr, qm, qn, zO, qvM, qvT, zN, qaC, y8, jr, qvL, qjH, qD, ye, kW, yl, zn, qc, kH, qA, qT, qa, qb, kB, Nat.reduceEqDiff, qs, zQ, qck, Nat.add_zero, qh, qb6, qW, yK, yf, qci, qvS, qvH, yz, qR, qC, qK, qG, kF, qg3, h1, decide_true, h33, h2, decide_false, Bool.and_false, qS, qB, qH, Nat.min_self, jo, zz, kw, qQ, zc, kg, qvA, ↓reduceIte, ky, qkH, qz, qU, qap, qJ, qM, qd, qx, kq, qg, qo, ko, zk, kN, qF, Bool.false_and]
  · simp only [zP, qi, qvF, qp, ql, qk, qf, qdW, kC, qr, qm, qn, zO, qvM, qvT, zN, qaC, y8, jr, qvL, qjH, qD, ye, kW, yl, zn, qc, kH, qA, qT, qa, qb, kB, Nat.reduceEqDiff, qs, zQ, qck, Nat.add_zero, qh, qb6, qW, yK, yf, qci, qvS, qvH, yz, qR, qC, qK, qG, kF, qg3, h1, decide_false, h33, Bool.false_and, qS, qB, qH, Nat.min_self, jo, zz, kw, qQ, zc, kg, qvA, ↓reduceIte, ky, qkH, qz, qU, qap, qJ, qM, qd, qx, kq, qg, qo, ko, zk, kN, qF]
end W

/-
  What a value of the small semantics stands for in the model's memory; that this stays as memory grows.
-/
namespace W
open Go (World Value Addr IntKind Program TypeId FuncId)
inductive Loc where
  | slot (n : Nat)
  | bblk (n : Nat)
  | bcell (n i : Nat)
  | oblk (id : Nat)
  | ocell (id i : Nat)
  | out
  deriving DecidableEq
structure Gh where
  n : Nat
  Φ : Nat → Nat × Nat
  pub : Nat → Nat
  own : Nat → Option Loc
def Gh.φ (g : Gh) (id : Nat) : Nat := (g.Φ id).1
def Gh.ζ (g : Gh) (id : Nat) : Nat := (g.Φ id).2
theorem Gh.φ_eq {g g' : Gh} {id : Nat} (h : g'.Φ id = g.Φ id) : g'.φ id = g.φ id := congrArg Prod.fst h
theorem Gh.ζ_eq {g g' : Gh} {id : Nat} (h : g'.Φ id = g.Φ id) : g'.ζ id = g.ζ id := congrArg Prod.snd h
mutual
inductive RepD (pub : Nat → Nat) (w : World) : D → Value → Prop
  | b (x : Bool) : RepD pub w (.b x) (.bool x)
  | i (k : IntKind) (n : Int) : RepD pub w (.i k n) (.int k n)
  | s (t : List Nat) (x : ByteArray) (h : x.data.toList.map (·.toNat) = t) : RepD pub w (.s t) (.string x)
  | nil : RepD pub w .nil (.slice none 0 0)
  | sl0 (a : Addr) (cap : Nat) : RepD pub w (.sl []) (.slice (some a) 0 cap)
  | sl (xs : List D) (b off cap sz : Nat) (vs : List Value) (hne : xs ≠ []) (hsz : ∀ x ∈ xs, x.cells.length = sz)
      (hr : RepDL pub w (xs.flatMap D.cells) vs) (hc : ∀ j v, vs[j]? = some v → w.cell? ⟨b, off + j, none⟩ = some v)
      (hp : off + vs.length ≤ pub b) (hcap : xs.length ≤ cap) (hone : ∀ u ∈ vs, u.oneCell' = true) : RepD pub w (.sl xs) (.slice (some ⟨b, off, none⟩) xs.length cap)
  | agg (cs : List D) (vs : Array Value) (h : RepDL pub w cs vs.toList) : RepD pub w (.agg cs) (.agg vs)
  | np : RepD pub w .np (.pointer none)
  | nf : RepD pub w .nf .nilFunc
  | ni : RepD pub w .ni .nilIface
  | nm : RepD pub w .nm (.map none)
inductive RepDL (pub : Nat → Nat) (w : World) : List D → List Value → Prop
  | nil : RepDL pub w [] []
  | cons (x : D) (v : Value) (l : List D) (vs : List Value) (h : RepD pub w x v) (hl : RepDL pub w l vs) : RepDL pub w (x :: l) (v :: vs)
end
mutual
theorem RepD.mono {pub pub' : Nat → Nat} {w w' : World} (hp : ∀ b, pub b ≤ pub' b) (hc : ∀ b o, o < pub b → w'.cell? ⟨b, o, none⟩ = w.cell? ⟨b, o, none⟩) :
    ∀ {x : D} {v : Value}, RepD pub w x v → RepD pub' w' x v
  | _, _, .b x => .b x
  | _, _, .i k n => .i k n
  | _, _, .s t x h => .s t x h
  | _, _, .nil => .nil
  | _, _, .sl0 a cap => .sl0 a cap
  | _, _, .sl xs b off cap sz vs hne hsz hr hcc hpp hcap hone => .sl xs b off cap sz vs hne hsz (RepDL.mono hp hc hr)
      (fun j v hj => by
        have hlt : j < vs.length := (List.getElem?_eq_some_iff.1 hj).1
        rw [hc b (off + j) (by omega)]; exact hcc j v hj) (Nat.le_trans hpp (hp b)) hcap hone
  | _, _, .agg cs vs h => .agg cs vs (RepDL.mono hp hc h)
  | _, _, .np => .np
  | _, _, .nf => .nf
  | _, _, .ni => .ni
  | _, _, .nm => .nm
theorem RepDL.mono {pub pub' : Nat → Nat} {w w' : World} (hp : ∀ b, pub b ≤ pub' b) (hc : ∀ b o, o < pub b → w'.cell? ⟨b, o, none⟩ = w.cell? ⟨b, o, none⟩) :
    ∀ {l : List D} {vs : List Value}, RepDL pub w l vs → RepDL pub' w' l vs
  | _, _, .nil => .nil
  | _, _, .cons x v l vs h hl => .cons x v l vs (RepD.mono hp hc h) (RepDL.mono hp hc hl)
end
theorem RepDL.length {pub : Nat → Nat} {w : World} : ∀ {l : List D} {vs : List Value}, RepDL pub w l vs → l.length = vs.length
  | _, _, .nil => rfl
  | _, _, .cons _ _ _ _ _ hl => by simp [RepDL.length hl]
theorem RepDL.append {pub : Nat → Nat} {w : World} : ∀ {l : List D} {vs : List Value} {l' : List D} {vs' : List Value}, RepDL pub w l vs → RepDL pub w l' vs' → RepDL pub w (l ++ l') (vs ++ vs')
  | _, _, _, _, .nil, h' => h'
  | _, _, _, _, .cons x v l vs h hl, h' => .cons x v _ _ h (RepDL.append hl h')
theorem RepDL.get {pub : Nat → Nat} {w : World} : ∀ {l : List D} {vs : List Value}, RepDL pub w l vs → ∀ (i : Nat) (x : D), l[i]? = some x → ∃ v, vs[i]? = some v ∧ RepD pub w x v
  | _, _, .nil, i, x, h => by simp at h
  | _, _, .cons y v l vs hy hl, 0, x, h => ⟨v, rfl, by simp at h; exact h ▸ hy⟩
  | _, _, .cons y v l vs hy hl, i + 1, x, h => by simpa using RepDL.get hl i x (by simpa using h)
theorem RepDL.take {pub : Nat → Nat} {w : World} : ∀ {l : List D} {vs : List Value}, RepDL pub w l vs → ∀ n, RepDL pub w (l.take n) (vs.take n)
  | _, _, .nil, n => by simpa using RepDL.nil
  | _, _, .cons x v l vs h hl, 0 => RepDL.nil
  | _, _, .cons x v l vs h hl, n + 1 => .cons x v _ _ h (RepDL.take hl n)
theorem RepDL.drop {pub : Nat → Nat} {w : World} : ∀ {l : List D} {vs : List Value}, RepDL pub w l vs → ∀ n, RepDL pub w (l.drop n) (vs.drop n)
  | _, _, .nil, n => by simpa using RepDL.nil
  | _, _, .cons x v l vs h hl, 0 => .cons x v _ _ h hl
  | _, _, .cons x v l vs h hl, n + 1 => RepDL.drop hl n
theorem RepD.cells {pub : Nat → Nat} {w : World} {x : D} {v : Value} (h : RepD pub w x v) : RepDL pub w x.cells v.cells.toList := by
  cases h with
  | agg cs vs h => exact h
  | b x => exact .cons _ _ _ _ (.b x) .nil
  | i k n => exact .cons _ _ _ _ (.i k n) .nil
  | s t x h => exact .cons _ _ _ _ (.s t x h) .nil
  | nil => exact .cons _ _ _ _ .nil .nil
  | sl0 a cap => exact .cons _ _ _ _ (.sl0 a cap) .nil
  | sl xs b off cap sz vs hne hsz hr hc hp hcap hone => exact .cons _ _ _ _ (.sl xs b off cap sz vs hne hsz hr hc hp hcap hone) .nil
  | np => exact .cons _ _ _ _ .np .nil
  | nf => exact .cons _ _ _ _ .nf .nil
  | ni => exact .cons _ _ _ _ .ni .nil
  | nm => exact .cons _ _ _ _ .nm .nil
mutual
inductive RepS (M : Maps) (g : Gh) (w : World) : V → Value → Prop
  | d (x : D) (c : Value) (h : RepD g.pub w x c) : RepS M g w (.d x) c
  | fsl (xs : List D) (ad : Addr) (h : RepD g.pub w (.sl xs) (.slice (some ad) xs.length xs.length)) : RepS M g w (.fsl xs) (.slice (some ad) xs.length xs.length)
  | ptr (id off : Nat) (h : id < g.n) : RepS M g w (.ptr id off) (.pointer (some ⟨g.φ id, off, none⟩))
  | rs (id off len cap cap' : Nat) (h : id < g.n) (hc : len ≤ cap) (hc' : cap ≤ cap') : RepS M g w (.rs id off len cap) (.slice (some ⟨g.φ id, off, none⟩) len cap')
  | row (id sz len cap : Nat) (h : id < g.n) (hc : len ≤ cap) (hz : cap * sz ≤ g.ζ id) : RepS M g w (.row id sz len) (.slice (some ⟨g.φ id, 0, none⟩) len cap)
  | map (id : Nat) (h : id < g.n) : RepS M g w (.map id) (.map (some (g.φ id)))
  | fn (f f' : Nat) (first cap : List V) (fv cv : Array Value) (h : look M.fm f' = some f) (h1 : RepSL M g w first fv.toList) (h2 : RepSL M g w cap cv.toList) :
      RepS M g w (.fn f first cap) (.func (.func f') fv cv)
  | ifc (t t' : Nat) (x : V) (c : Value) (h : look M.tm t' = some t) (hx : RepS M g w x c) : RepS M g w (.ifc t x) (.iface t' c)
  | agg (cs : List V) (vs : Array Value) (h : RepSL M g w cs vs.toList) : RepS M g w (.agg cs) (.agg vs)
  | tup (cs : List V) (vs : Array Value) (h : RepSL M g w cs vs.toList) : RepS M g w (.tup cs) (.tuple vs)
  | undef (c : Value) : RepS M g w .undef c
inductive RepSL (M : Maps) (g : Gh) (w : World) : List V → List Value → Prop
  | nil : RepSL M g w [] []
  | cons (x : V) (v : Value) (l : List V) (vs : List Value) (h : RepS M g w x v) (hl : RepSL M g w l vs) : RepSL M g w (x :: l) (v :: vs)
end
structure Grow (g : Gh) (w : World) (g' : Gh) (w' : World) : Prop where
  size : w.heap.size ≤ w'.heap.size
  pub : ∀ b, g.pub b ≤ g'.pub b
  cell : ∀ b o, o < g.pub b → w'.cell? ⟨b, o, none⟩ = w.cell? ⟨b, o, none⟩
theorem Grow.refl (g : Gh) (w : World) : Grow g w g w := ⟨qvC _, fun _ => qvC _, fun _ _ _ => rfl⟩
theorem Grow.trans {g g' g'' : Gh} {w w' w'' : World} (h : Grow g w g' w') (h' : Grow g' w' g'' w'') : Grow g w g'' w'' :=
  ⟨Nat.le_trans h.size h'.size, fun b => Nat.le_trans (h.pub b) (h'.pub b), fun b o ho => (h'.cell b o (Nat.lt_of_lt_of_le ho (h.pub b))).trans (h.cell b o ho)⟩
mutual
theorem RepS.mono {M : Maps} {g g' : Gh} {w w' : World} (hg : Grow g w g' w') {n : Nat} (hn : n ≤ g'.n) (hφ : ∀ id, id < n → g'.Φ id = g.Φ id) :
    ∀ {x : V} {v : Value}, RepS M g w x v → x.ref ≤ n → RepS M g' w' x v
  | _, _, .d x c h, _ => .d x c (h.mono hg.pub hg.cell)
  | _, _, .fsl xs ad h, _ => .fsl xs ad (h.mono hg.pub hg.cell)
  | _, _, .ptr id off h, hr => by
      simp only [V.ref] at hr
      rw [← Gh.φ_eq (hφ id (by omega))]; exact .ptr id off (by omega)
  | _, _, .rs id off len cap cap' h hc hc', hr => by
      simp only [V.ref] at hr
      rw [← Gh.φ_eq (hφ id (by omega))]; exact .rs id off len cap cap' (by omega) hc hc'
  | _, _, .row id sz len cap h hc hz, hr => by
      simp only [V.ref] at hr
      rw [← Gh.φ_eq (hφ id (by omega))]; exact .row id sz len cap (by omega) hc (by rw [Gh.ζ_eq (hφ id (by omega))]; exact hz)
  | _, _, .map id h, hr => by
      simp only [V.ref] at hr
      rw [← Gh.φ_eq (hφ id (by omega))]; exact .map id (by omega)
  | _, _, .fn f f' first cap fv cv h h1 h2, hr => by
      simp only [V.ref] at hr
      exact .fn f f' first cap fv cv h (RepSL.mono hg hn hφ h1 (by omega)) (RepSL.mono hg hn hφ h2 (by omega))
  | _, _, .ifc t t' x c h hx, hr => .ifc t t' x c h (RepS.mono hg hn hφ hx (by simpa [V.ref] using hr))
  | _, _, .agg cs vs h, hr => .agg cs vs (RepSL.mono hg hn hφ h (by simpa [V.ref] using hr))
  | _, _, .tup cs vs h, hr => .tup cs vs (RepSL.mono hg hn hφ h (by simpa [V.ref] using hr))
  | _, _, .undef c, _ => .undef c
theorem RepSL.mono {M : Maps} {g g' : Gh} {w w' : World} (hg : Grow g w g' w') {n : Nat} (hn : n ≤ g'.n) (hφ : ∀ id, id < n → g'.Φ id = g.Φ id) :
    ∀ {l : List V} {vs : List Value}, RepSL M g w l vs → V.ref.refs l ≤ n → RepSL M g' w' l vs
  | _, _, .nil, _ => .nil
  | _, _, .cons x v l vs h hl, hr => by
      simp only [V.ref.refs] at hr
      exact .cons x v l vs (RepS.mono hg hn hφ h (by omega)) (RepSL.mono hg hn hφ hl (by omega))
end
mutual
theorem RepS.ref {M : Maps} {g : Gh} {w : World} : ∀ {x : V} {v : Value}, RepS M g w x v → x.ref ≤ g.n
  | _, _, .d x c h => by simp [V.ref]
  | _, _, .fsl xs ad h => by simp [V.ref]
  | _, _, .ptr id off h => by simp only [V.ref]; omega
  | _, _, .rs id off len cap cap' h hc hc' => by simp only [V.ref]; omega
  | _, _, .row id sz len cap h hc hz => by simp only [V.ref]; omega
  | _, _, .map id h => by simp only [V.ref]; omega
  | _, _, .fn f f' first cap fv cv h h1 h2 => by
      simp only [V.ref]; have := RepSL.ref h1; have := RepSL.ref h2; omega
  | _, _, .ifc t t' x c h hx => by simp only [V.ref]; exact RepS.ref hx
  | _, _, .agg cs vs h => by simp only [V.ref]; exact RepSL.ref h
  | _, _, .tup cs vs h => by simp only [V.ref]; exact RepSL.ref h
  | _, _, .undef c => by simp [V.ref]
theorem RepSL.ref {M : Maps} {g : Gh} {w : World} : ∀ {l : List V} {vs : List Value}, RepSL M g w l vs → V.ref.refs l ≤ g.n
  | _, _, .nil => by simp [V.ref.refs]
  | _, _, .cons x v l vs h hl => by simp only [V.ref.refs]; have := RepS.ref h; have := RepSL.ref hl; omega
end
theorem RepSL.length {M : Maps} {g : Gh} {w : World} : ∀ {l : List V} {vs : List Value}, RepSL M g w l vs → l.length = vs.length
  | _, _, .nil => rfl
  | _, _, .cons _ _ _ _ _ hl => by simp [RepSL.length hl]
theorem RepSL.append {M : Maps} {g : Gh} {w : World} : ∀ {l : List V} {vs : List Value} {l' : List V} {vs' : List Value}, RepSL M g w l vs → RepSL M g w l' vs' → RepSL M g w (l ++ l') (vs ++ vs')
  | _, _, _, _, .nil, h' => h'
  | _, _, _, _, .cons x v l vs h hl, h' => .cons x v _ _ h (RepSL.append hl h')
theorem RepSL.get {M : Maps} {g : Gh} {w : World} : ∀ {l : List V} {vs : List Value}, RepSL M g w l vs → ∀ (i : Nat) (x : V), l[i]? = some x → ∃ v, vs[i]? = some v ∧ RepS M g w x v
  | _, _, .nil, i, x, h => by simp at h
  | _, _, .cons y v l vs hy hl, 0, x, h => ⟨v, rfl, by simp at h; exact h ▸ hy⟩
  | _, _, .cons y v l vs hy hl, i + 1, x, h => by simpa using RepSL.get hl i x (by simpa using h)
theorem RepSL.ofD {M : Maps} {g : Gh} {w : World} : ∀ {l : List D} {vs : List Value}, RepDL g.pub w l vs → RepSL M g w (l.map .d) vs
  | _, _, .nil => .nil
  | _, _, .cons x v l vs h hl => .cons _ _ _ _ (.d x v h) (RepSL.ofD hl)
end W

