/-
  ScanBlanks: part 2 of what the proof rests on (a value semantics for a part of the language, sound against the model; the walks).
-/
import Derived.Test.YthaolbkjkigllaaDoorW1
set_option linter.unusedVariables false
open Bool renaming false_eq_true → qz0, and_self → qz1, or_true → qz7, or_self → qAd, and_eq_true → qAf, cond_eq_ite → qAh, or_false → qAl, not_true → qAm, not_false → qAr
open List renaming getElem?_cons_zero → qz2, map_cons → qz3, length_cons → qz4, getElem?_cons_succ → qz5, length_nil → qz8, map_nil → qz9, set_cons_zero → qAa, set_cons_succ → qAc, take_succ_cons → qAi, drop_zero → qAn, take_zero → qAp, getElem?_eq_getElem → qAt
open Nat renaming zero_add → qz6, le_refl → qAe, beq → qAk, eq_of_beq_eq_true → qAo, min_self → qAs, add_zero → qAu
open Option renaming map_some → qAb, bind_eq_some_iff → qAg, bind_eq_bind → qAj, pure_def → qAq
open Int renaming cast_ofNat_Int → qAv
namespace W
def glD (n : Nat) : D :=
  bif qAk n 0 then qdT else
  bif qAk n 5 then qb6 else
  bif qAk n 6 then qcO else
  bif qAk n 7 then qcS else .nil
def qad : C := (.seq ((.seq (.ops [⟨some 39, .mov (.t 10), none⟩,
 ⟨some 40, .mov (.t 6), none⟩,
 ⟨some 41, .bi .lenL [.t 40], none⟩,
 ⟨some 42, .bin .sub .num (.t 41) (.c (.i .i64 1)), none⟩,
 ⟨some 43, .bin .lss .num (.t 39) (.t 42), none⟩]) ((.cond (.t 43) (.skip) (.exit 0))))) ((.seq ((.block 1 [1, 5, 6, 9, 10] (.opsD [(⟨some 46, .mov (.t 9), none⟩, false, []), (⟨some 47, .buildSlice (.s []) 6 [(0, (.c (.s [32]))), (1, (.c (.s [10]))), (2, (.c (.s [9, 32]))), (3, (.c (.s [32, 40, 42, 32, 97, 32, 40, 42, 32, 98, 32, 42, 41, 32, 99, 32, 42, 41, 32]))), (4, (.c (.s [40, 42, 42, 41]))), (5, (.c (.s [32, 13, 10])))], none⟩, false, []), (⟨some 48, .mov (.t 1), none⟩, false, []), (⟨some 49, .mov (.t 10), none⟩, false, []), (⟨some 50, .mov (.t 1), none⟩, false, []), (⟨some 51, .bi .lenL [.t 50], none⟩, false, []), (⟨some 52, .bin .rem .num (.t 49) (.t 51), none⟩, false, []), (⟨some 53, .indexAddr (.t 48) (.t 52) 1 none, none⟩, false, []), (⟨some 54, .load false none ⟨1, false⟩ (.t 53), none⟩, false, []), (⟨some 55, .bin .rem .num (.t 54) (.c (.i .u8 6)), none⟩, false, []), (⟨some 56, .indexAddr (.t 47) (.t 55) 1 none, none⟩, false, []), (⟨some 57, .loadC ⟨1, false⟩ (.t 56), none⟩, false, []), (⟨some 58, .bin .add .num (.t 46) (.t 57), none⟩, false, []), (⟨some 59, .mov (.t 5), none⟩, false, []), (⟨some 60, .mov (.t 6), none⟩, false, []), (⟨some 61, .mov (.t 10), none⟩, false, []), (⟨some 62, .indexAddr (.t 60) (.t 61) 5 none, none⟩, false, []), (⟨some 63, .fieldAddr (.t 62) 1 ⟨1, false⟩, none⟩, false, []), (⟨some 64, .load false none ⟨1, false⟩ (.t 63), none⟩, false, []), (⟨some 65, .mov (.t 6), none⟩, false, []), (⟨some 66, .mov (.t 10), none⟩, false, []), (⟨some 67, .indexAddr (.t 65) (.t 66) 5 none, none⟩, false, []), (⟨some 68, .fieldAddr (.t 67) 2 ⟨1, false⟩, none⟩, false, []), (⟨some 69, .load false none ⟨1, false⟩ (.t 68), none⟩, false, []), (⟨some 70, .sliceS (.t 59) (some (.t 64)) (some (.t 69)), none⟩, false, []), (⟨some 71, .bin .add .num (.t 58) (.t 70), none⟩, true, []), (⟨some 9, .mov (.t 71), none⟩, true, [])]))) (.ops [⟨some 44, .mov (.t 10), none⟩,
 ⟨some 45, .bin .add .num (.t 44) (.c (.i .i64 1)), none⟩,
 ⟨some 10, .mov (.t 45), none⟩]))))
def yA : C := .loop [1, 5, 6, 9, 10] qad
noncomputable def qae (pg : Pg) (v1 v5 v6 v9 v10 : V) (H : List Obj) (lo : Nat) : Option (Ex × St) := exL pg yA ⟨[(1, v1), (5, v5), (6, v6), (9, v9), (10, v10)], H, lo⟩
theorem qaJ {pg : Pg} {e : Env} {H : List Obj} {lo : Nat} : exL pg yA ⟨e, H, lo⟩ = qae pg (kA (get 1 e)) (kA (get 5 e)) (kA (get 6 e)) (kA (get 9 e)) (kA (get 10 e)) H lo := qaz
theorem qcj {pg : Pg} {v1 v5 v6 v9 v10 : V} {H : List Obj} {lo : Nat} : qae pg v1 v5 v6 v9 v10 H lo = yO pg (exL pg qad ⟨[(1, kA v1), (5, kA v5), (6, kA v6), (9, kA v9), (10, kA v10)], H, lo⟩) yA := by
  unfold qae yA; rw [yr]; simp only [ql, qn, qD, qF, Nat.reduceEqDiff]
def qam : C := (.seq ((.seq (.ops [⟨some 90, .mov (.t 13), none⟩,
 ⟨some 91, .mov (.t 6), none⟩,
 ⟨some 92, .bi .lenL [.t 91], none⟩,
 ⟨some 93, .bin .lss .num (.t 90) (.t 92), none⟩]) ((.cond (.t 93) (.skip) (.exit 2))))) ((.seq ((.block 3 [6, 11, 13] ((.seq (.opsD [(⟨some 96, .mov (.t 6), none⟩, false, []), (⟨some 97, .mov (.t 13), none⟩, false, []), (⟨some 98, .indexAddr (.t 96) (.t 97) 5 none, none⟩, false, []), (⟨some 99, .fieldAddr (.t 98) 0 ⟨1, false⟩, none⟩, false, []), (⟨some 100, .load false none ⟨1, false⟩ (.t 99), none⟩, false, []), (⟨some 101, .mov (.t 11), none⟩, false, []), (⟨some 102, .mov (.t 13), none⟩, false, []), (⟨some 103, .indexAddr (.t 101) (.t 102) 5 none, none⟩, false, []), (⟨some 104, .fieldAddr (.t 103) 0 ⟨1, false⟩, none⟩, false, []), (⟨some 105, .load false none ⟨1, false⟩ (.t 104), none⟩, false, []), (⟨some 106, .bin .neq .num (.t 100) (.t 105), none⟩, true, []), (⟨some 107, .mov (.t 106), none⟩, true, []), (⟨some 108, .mov (.t 6), some (107, false)⟩, false, []), (⟨some 109, .mov (.t 13), some (107, false)⟩, false, []), (⟨some 110, .indexAddr (.t 108) (.t 109) 5 none, some (107, false)⟩, false, []), (⟨some 111, .fieldAddr (.t 110) 3 ⟨1, false⟩, some (107, false)⟩, false, []), (⟨some 112, .load false none ⟨1, false⟩ (.t 111), some (107, false)⟩, false, []), (⟨some 113, .mov (.t 11), some (107, false)⟩, false, []), (⟨some 114, .mov (.t 13), some (107, false)⟩, false, []), (⟨some 115, .indexAddr (.t 113) (.t 114) 5 none, some (107, false)⟩, false, []), (⟨some 116, .fieldAddr (.t 115) 3 ⟨1, false⟩, some (107, false)⟩, false, []), (⟨some 117, .load false none ⟨1, false⟩ (.t 116), some (107, false)⟩, false, []), (⟨some 118, .bin .neq .num (.t 112) (.t 117), some (107, false)⟩, true, []), (⟨some 119, .pick (.t 107) (.c (.b true)) (.t 118), none⟩, true, []), (⟨some 120, .mov (.t 119), none⟩, true, []), (⟨some 121, .mov (.t 6), some (120, false)⟩, false, []), (⟨some 122, .mov (.t 13), some (120, false)⟩, false, []), (⟨some 123, .indexAddr (.t 121) (.t 122) 5 none, some (120, false)⟩, false, []), (⟨some 124, .fieldAddr (.t 123) 4 ⟨1, false⟩, some (120, false)⟩, false, []), (⟨some 125, .load false none ⟨1, false⟩ (.t 124), some (120, false)⟩, false, []), (⟨some 126, .mov (.t 11), some (120, false)⟩, false, []), (⟨some 127, .mov (.t 13), some (120, false)⟩, false, []), (⟨some 128, .indexAddr (.t 126) (.t 127) 5 none, some (120, false)⟩, false, []), (⟨some 129, .fieldAddr (.t 128) 4 ⟨1, false⟩, some (120, false)⟩, false, []), (⟨some 130, .load false none ⟨1, false⟩ (.t 129), some (120, false)⟩, false, []), (⟨some 131, .bin .neq .num (.t 125) (.t 130), some (120, false)⟩, true, []), (⟨some 132, .pick (.t 120) (.c (.b true)) (.t 131), none⟩, true, []), (⟨some 133, .mov (.t 132), none⟩, true, []), (⟨some 134, .mov (.t 11), some (133, false)⟩, false, []), (⟨some 135, .mov (.t 13), some (133, false)⟩, false, []), (⟨some 136, .indexAddr (.t 134) (.t 135) 5 none, some (133, false)⟩, false, []), (⟨some 137, .fieldAddr (.t 136) 2 ⟨1, false⟩, some (133, false)⟩, false, []), (⟨some 138, .load false none ⟨1, false⟩ (.t 137), some (133, false)⟩, false, []), (⟨some 139, .mov (.t 11), some (133, false)⟩, false, []), (⟨some 140, .mov (.t 13), some (133, false)⟩, false, []), (⟨some 141, .indexAddr (.t 139) (.t 140) 5 none, some (133, false)⟩, false, []), (⟨some 142, .fieldAddr (.t 141) 1 ⟨1, false⟩, some (133, false)⟩, false, []), (⟨some 143, .load false none ⟨1, false⟩ (.t 142), some (133, false)⟩, false, []), (⟨some 144, .bin .sub .num (.t 138) (.t 143), some (133, false)⟩, false, []), (⟨some 145, .mov (.t 6), some (133, false)⟩, false, []), (⟨some 146, .mov (.t 13), some (133, false)⟩, false, []), (⟨some 147, .indexAddr (.t 145) (.t 146) 5 none, some (133, false)⟩, false, []), (⟨some 148, .fieldAddr (.t 147) 2 ⟨1, false⟩, some (133, false)⟩, false, []), (⟨some 149, .load false none ⟨1, false⟩ (.t 148), some (133, false)⟩, false, []), (⟨some 150, .mov (.t 6), some (133, false)⟩, false, []), (⟨some 151, .mov (.t 13), some (133, false)⟩, false, []), (⟨some 152, .indexAddr (.t 150) (.t 151) 5 none, some (133, false)⟩, false, []), (⟨some 153, .fieldAddr (.t 152) 1 ⟨1, false⟩, some (133, false)⟩, false, []), (⟨some 154, .load false none ⟨1, false⟩ (.t 153), some (133, false)⟩, false, []), (⟨some 155, .bin .sub .num (.t 149) (.t 154), some (133, false)⟩, false, []), (⟨some 156, .bin .neq .num (.t 144) (.t 155), some (133, false)⟩, true, []), (⟨some 157, .pick (.t 133) (.c (.b true)) (.t 156), none⟩, true, [])]) ((.cond (.t 157) ((.seq (.ops [⟨some 4, .mov (.c (.b false)), none⟩]) (.ret))) (.skip))))))) (.ops [⟨some 94, .mov (.t 13), none⟩,
 ⟨some 95, .bin .add .num (.t 94) (.c (.i .i64 1)), none⟩,
 ⟨some 13, .mov (.t 95), none⟩]))))
def yz : C := .loop [6, 11, 13] qam
noncomputable def qao (pg : Pg) (v6 v11 v13 : V) (H : List Obj) (lo : Nat) : Option (Ex × St) := exL pg yz ⟨[(6, v6), (11, v11), (13, v13)], H, lo⟩
theorem qch {pg : Pg} {e : Env} {H : List Obj} {lo : Nat} : exL pg yz ⟨e, H, lo⟩ = qao pg (kA (get 6 e)) (kA (get 11 e)) (kA (get 13 e)) H lo := qaz
theorem qck {pg : Pg} {v6 v11 v13 : V} {H : List Obj} {lo : Nat} : qao pg v6 v11 v13 H lo = yO pg (exL pg qam ⟨[(6, kA v6), (11, kA v11), (13, kA v13)], H, lo⟩) yz := by
  unfold qao yz; rw [yr]; simp only [ql, qn, qD, qF, Nat.reduceEqDiff]
def qbr : C := (.seq (.ops [⟨some 4, .mov (.c (.b true)), none⟩]) (.ret))
def qbt : C := (.seq ((.seq (.ops [⟨some 72, .mov (.t 9), none⟩, ⟨some 73, .bi .lenS [.t 72], none⟩, ⟨some 74, .bin .gtr .num (.t 73) (.c (.i .i64 20000)), none⟩]) ((.cond (.t 74) ((.seq (.ops [⟨some 4, .mov (.c (.b true)), none⟩]) (.ret))) (.skip))))) ((.seq (.ops [⟨some 76, .mov (.mv 9), none⟩, ⟨some 77, .call (.f 16) [.mv 76], none⟩, ⟨some 75, .mov (.t 77), none⟩, ⟨some 78, .extract (.t 75) 0, none⟩, ⟨some 79, .extract (.t 75) 1, none⟩, ⟨some 11, .mov (.t 78), none⟩, ⟨some 12, .mov (.t 79), none⟩]) ((.seq ((.seq (.ops [⟨some 80, .mov (.t 12), none⟩, ⟨some 81, .bi .lenL [.t 80], none⟩, ⟨some 82, .bin .neq .num (.t 81) (.c (.i .i64 0)), none⟩, ⟨some 83, .mov (.t 82), none⟩, ⟨some 84, .mov (.t 11), some (83, false)⟩, ⟨some 85, .bi .lenL [.t 84], some (83, false)⟩, ⟨some 86, .mov (.t 6), some (83, false)⟩, ⟨some 87, .bi .lenL [.t 86], some (83, false)⟩, ⟨some 88, .bin .neq .num (.t 85) (.t 87), some (83, false)⟩, ⟨some 89, .pick (.t 83) (.c (.b true)) (.t 88), none⟩]) ((.cond (.t 89) ((.seq (.ops [⟨some 4, .mov (.c (.b false)), none⟩]) (.ret))) (.skip))))) ((.seq ((.seq (.ops [⟨some 13, .mov (.c (.i .i64 0)), none⟩]) ((.block 2 [] (yz))))) (qbr))))))))
def ji : Fn := ⟨2, [.t 4], true, (.seq (.ops [⟨some 4, .mov (.c (.b false)), none⟩]) ((.seq ((.seq (.ops [⟨some 14, .call (.f 11) [], none⟩, ⟨some 15, .un .not (.t 14), none⟩]) ((.cond (.t 15) ((.seq (.ops [⟨some 4, .mov (.c (.b false)), none⟩]) (.ret))) (.skip))))) ((.seq ((.seq (.ops [⟨some 16, .mov (.t 0), none⟩, ⟨some 17, .bi .lenL [.t 16], none⟩, ⟨some 18, .bin .gtr .num (.t 17) (.c (.i .i64 20)), none⟩, ⟨some 19, .mov (.t 18), none⟩, ⟨some 20, .mov (.t 1), some (19, false)⟩, ⟨some 21, .bi .lenL [.t 20], some (19, false)⟩, ⟨some 22, .bin .gtr .num (.t 21) (.c (.i .i64 60)), some (19, false)⟩, ⟨some 23, .pick (.t 19) (.c (.b true)) (.t 22), none⟩, ⟨some 24, .mov (.t 23), none⟩, ⟨some 25, .mov (.t 1), some (24, false)⟩, ⟨some 26, .bi .lenL [.t 25], some (24, false)⟩, ⟨some 27, .bin .eql .num (.t 26) (.c (.i .i64 0)), some (24, false)⟩, ⟨some 28, .pick (.t 24) (.c (.b true)) (.t 27), none⟩]) ((.cond (.t 28) ((.seq (.ops [⟨some 4, .mov (.c (.b true)), none⟩]) (.ret))) (.skip))))) ((.seq (.ops [⟨some 29, .mov (.mv 0), none⟩, ⟨some 30, .call (.f 12) [.mv 29, (.c (.b false))], none⟩, ⟨some 5, .mov (.mv 30), none⟩]) ((.seq (.ops [⟨some 32, .mov (.t 5), none⟩, ⟨some 33, .call (.f 15) [.t 32], none⟩, ⟨some 31, .mov (.t 33), none⟩, ⟨some 34, .extract (.t 31) 0, none⟩, ⟨some 35, .extract (.t 31) 1, none⟩, ⟨some 36, .extract (.t 31) 2, none⟩, ⟨some 6, .mov (.t 34), none⟩, ⟨some 7, .mov (.t 35), none⟩, ⟨some 8, .mov (.t 36), none⟩]) ((.seq ((.seq (.ops [⟨some 37, .mov (.t 8), none⟩, ⟨some 38, .bin .neq .num (.t 37) (.c (.i .i64 0)), none⟩]) ((.cond (.t 38) ((.seq (.ops [⟨some 4, .mov (.c (.b true)), none⟩]) (.ret))) (.skip))))) ((.seq (.ops [⟨some 9, .mov (.c (.s [])), none⟩]) ((.seq ((.seq (.ops [⟨some 10, .mov (.c (.i .i64 0)), none⟩]) ((.block 0 [6, 9] (yA))))) (qbt)))))))))))))))), none, none⟩
def qe7 : Fn := ⟨0, [.t 0], true, (.seq (.ops [⟨some 0, .mov (.c (.b false)), none⟩]) ((.seq (.ops [⟨some 7, .call (.f 16) [(.c (.s [77, 79, 68, 85, 76, 69, 32, 120, 32, 40, 42, 32, 121, 32, 42, 41, 32, 48, 70, 70, 72]))], none⟩,
 ⟨some 6, .mov (.t 7), none⟩,
 ⟨some 8, .extract (.t 6) 0, none⟩,
 ⟨some 9, .extract (.t 6) 1, none⟩,
 ⟨some 1, .mov (.t 8), none⟩,
 ⟨some 2, .mov (.t 9), none⟩]) ((.seq (.ops [⟨some 11, .call (.f 16) [(.c (.s [63]))], none⟩,
 ⟨some 10, .mov (.t 11), none⟩,
 ⟨some 12, .extract (.t 10) 0, none⟩,
 ⟨some 13, .extract (.t 10) 1, none⟩,
 ⟨some 3, .mov (.t 12), none⟩,
 ⟨some 4, .mov (.t 13), none⟩]) ((.seq (.ops [⟨some 14, .call (.f 17) [], none⟩,
 ⟨some 5, .mov (.mv 14), none⟩]) ((.seq (.ops [⟨some 15, .mov (.t 1), none⟩,
 ⟨some 16, .bi .lenL [.t 15], none⟩,
 ⟨some 17, .bin .eql .num (.t 16) (.c (.i .i64 4)), none⟩,
 ⟨some 18, .mov (.t 17), none⟩,
 ⟨some 19, .mov (.t 2), some (18, true)⟩,
 ⟨some 20, .bi .lenL [.t 19], some (18, true)⟩,
 ⟨some 21, .bin .eql .num (.t 20) (.c (.i .i64 0)), some (18, true)⟩,
 ⟨some 22, .pick (.t 18) (.t 21) (.c (.b false)), none⟩,
 ⟨some 23, .mov (.t 22), none⟩,
 ⟨some 24, .mov (.t 1), some (23, true)⟩,
 ⟨some 25, .indexAddr (.t 24) (.c (.i .i64 0)) 5 none, some (23, true)⟩,
 ⟨some 26, .fieldAddr (.t 25) 0 ⟨1, false⟩, some (23, true)⟩,
 ⟨some 27, .load false none ⟨1, false⟩ (.t 26), some (23, true)⟩,
 ⟨some 28, .bin .eql .num (.t 27) (.c (.i .i64 6)), some (23, true)⟩,
 ⟨some 29, .pick (.t 23) (.t 28) (.c (.b false)), none⟩,
 ⟨some 30, .mov (.t 29), none⟩,
 ⟨some 31, .mov (.t 1), some (30, true)⟩,
 ⟨some 32, .indexAddr (.t 31) (.c (.i .i64 1)) 5 none, some (30, true)⟩,
 ⟨some 33, .fieldAddr (.t 32) 3 ⟨1, false⟩, some (30, true)⟩,
 ⟨some 34, .load false none ⟨1, false⟩ (.t 33), some (30, true)⟩,
 ⟨some 35, .bin .eql .num (.t 34) (.c (.s [120])), some (30, true)⟩,
 ⟨some 36, .pick (.t 30) (.t 35) (.c (.b false)), none⟩,
 ⟨some 37, .mov (.t 36), none⟩,
 ⟨some 38, .mov (.t 1), some (37, true)⟩,
 ⟨some 39, .indexAddr (.t 38) (.c (.i .i64 2)) 5 none, some (37, true)⟩,
 ⟨some 40, .fieldAddr (.t 39) 4 ⟨1, false⟩, some (37, true)⟩,
 ⟨some 41, .load false none ⟨1, false⟩ (.t 40), some (37, true)⟩,
 ⟨some 42, .bin .eql .num (.t 41) (.c (.i .i32 255)), some (37, true)⟩,
 ⟨some 43, .pick (.t 37) (.t 42) (.c (.b false)), none⟩,
 ⟨some 44, .mov (.t 43), none⟩,
 ⟨some 45, .mov (.t 1), some (44, true)⟩,
 ⟨some 46, .indexAddr (.t 45) (.c (.i .i64 3)) 5 none, some (44, true)⟩,
 ⟨some 47, .fieldAddr (.t 46) 0 ⟨1, false⟩, some (44, true)⟩,
 ⟨some 48, .load false none ⟨1, false⟩ (.t 47), some (44, true)⟩,
 ⟨some 49, .bin .eql .num (.t 48) (.c (.i .i64 0)), some (44, true)⟩,
 ⟨some 50, .pick (.t 44) (.t 49) (.c (.b false)), none⟩,
 ⟨some 51, .mov (.t 50), none⟩,
 ⟨some 52, .mov (.t 4), some (51, true)⟩,
 ⟨some 53, .bi .lenL [.t 52], some (51, true)⟩,
 ⟨some 54, .bin .eql .num (.t 53) (.c (.i .i64 1)), some (51, true)⟩,
 ⟨some 55, .pick (.t 51) (.t 54) (.c (.b false)), none⟩,
 ⟨some 56, .mov (.t 55), none⟩,
 ⟨some 57, .mov (.t 4), some (56, true)⟩,
 ⟨some 58, .indexAddr (.t 57) (.c (.i .i64 0)) 2 none, some (56, true)⟩,
 ⟨some 59, .fieldAddr (.t 58) 0 ⟨1, false⟩, some (56, true)⟩,
 ⟨some 60, .load false none ⟨1, false⟩ (.t 59), some (56, true)⟩,
 ⟨some 61, .bin .eql .num (.t 60) (.c (.i .i64 0)), some (56, true)⟩,
 ⟨some 62, .pick (.t 56) (.t 61) (.c (.b false)), none⟩,
 ⟨some 63, .mov (.t 62), none⟩,
 ⟨some 64, .mov (.t 4), some (63, true)⟩,
 ⟨some 65, .indexAddr (.t 64) (.c (.i .i64 0)) 2 none, some (63, true)⟩,
 ⟨some 66, .fieldAddr (.t 65) 1 ⟨1, false⟩, some (63, true)⟩,
 ⟨some 67, .load false none ⟨1, false⟩ (.t 66), some (63, true)⟩,
 ⟨some 68, .bin .eql .num (.t 67) (.c (.i .i64 30)), some (63, true)⟩,
 ⟨some 69, .pick (.t 63) (.t 68) (.c (.b false)), none⟩,
 ⟨some 70, .mov (.t 69), none⟩,
 ⟨some 71, .mov (.t 5), some (70, true)⟩,
 ⟨some 72, .bi .lenL [.t 71], some (70, true)⟩,
 ⟨some 73, .bin .eql .num (.t 72) (.c (.i .i64 33)), some (70, true)⟩,
 ⟨some 74, .pick (.t 70) (.t 73) (.c (.b false)), none⟩,
 ⟨some 0, .mov (.t 74), none⟩]) (.ret)))))))))), none, none⟩
def qcV : Fn := ⟨2, [.t 4], true, (.seq (.ops [⟨some 4, .mov (.c (.s [])), none⟩]) ((.seq (.ops [⟨some 7, .mov (.t 0), none⟩,
 ⟨some 8, .build [.nil, (.i .i64 0), (.i .i64 0)] [(0, 1, (.t 7)), (2, 1, (.c (.i .i64 4)))], none⟩,
 ⟨some 9, .box false (.t 8), none⟩,
 ⟨some 5, .mov (.t 9), none⟩]) ((.seq (.ops [⟨some 6, .mov (.c (.s [77, 79, 68, 85, 76, 69, 32, 77, 59, 32, 73, 77, 80, 79, 82, 84, 32, 73, 110, 44, 32, 79, 117, 116])), none⟩]) ((.seq ((.seq (.ops [⟨some 10, .mov (.t 1), none⟩]) ((.cond (.t 10) (.ops [⟨some 11, .mov (.t 6), none⟩,
 ⟨some 12, .bin .add .num (.t 11) (.c (.s [44, 32, 76])), none⟩,
 ⟨some 6, .mov (.t 12), none⟩]) (.skip))))) ((.seq (.ops [⟨some 13, .mov (.t 6), none⟩,
 ⟨some 14, .bin .add .num (.t 13) (.c (.s [59, 32, 40, 42, 32, 109, 97, 100, 101, 32, 111, 102, 32, 110, 117, 109, 98, 101, 114, 115, 32, 42, 41, 10, 67, 79, 78, 83, 84, 32, 107, 42, 32, 61, 32, 55, 59, 32, 119, 111, 114, 100, 32, 61, 32, 34, 97, 98, 99, 34, 59, 32, 97, 108, 108, 42, 32, 61, 32, 123, 48, 32, 46, 46, 32, 51, 49, 125, 59, 10])), none⟩,
 ⟨some 6, .mov (.t 14), none⟩]) ((.seq (.ops [⟨some 15, .mov (.t 6), none⟩,
 ⟨some 16, .bin .add .num (.t 15) (.c (.s [84, 89, 80, 69, 32, 82, 42, 32, 61, 32, 82, 69, 67, 79, 82, 68, 32, 120, 44, 32, 121, 58, 32, 73, 78, 84, 69, 71, 69, 82, 59, 32, 110, 101, 120, 116, 58, 32, 80, 79, 73, 78, 84, 69, 82, 32, 84, 79, 32, 82, 32, 69, 78, 68, 59, 32, 83, 32, 61, 32, 82, 69, 67, 79, 82, 68, 32, 40, 82, 41, 32, 122, 58, 32, 67, 72, 65, 82, 32, 69, 78, 68, 59, 32, 65, 42, 32, 61, 32, 65, 82, 82, 65, 89, 32, 52, 32, 79, 70, 32, 73, 78, 84, 69, 71, 69, 82, 59, 32, 80, 82, 32, 61, 32, 80, 79, 73, 78, 84, 69, 82, 32, 84, 79, 32, 82, 59, 10])), none⟩,
 ⟨some 6, .mov (.t 16), none⟩]) ((.seq (.ops [⟨some 17, .mov (.t 6), none⟩,
 ⟨some 18, .bin .add .num (.t 17) (.c (.s [86, 65, 82, 32, 105, 44, 32, 106, 44, 32, 110, 42, 58, 32, 73, 78, 84, 69, 71, 69, 82, 59, 32, 98, 58, 32, 66, 79, 79, 76, 69, 65, 78, 59, 32, 99, 58, 32, 67, 72, 65, 82, 59, 32, 115, 58, 32, 83, 69, 84, 59, 32, 97, 44, 32, 100, 58, 32, 65, 59, 32, 116, 58, 32, 65, 82, 82, 65, 89, 32, 54, 32, 79, 70, 32, 67, 72, 65, 82, 59, 32, 112, 44, 32, 113, 58, 32, 80, 82, 59, 32, 117, 58, 32, 80, 79, 73, 78, 84, 69, 82, 32, 84, 79, 32, 83, 59, 32, 114, 58, 32, 82, 59, 32, 101, 58, 32, 65, 82, 82, 65, 89, 32, 50, 32, 79, 70, 32, 65, 82, 82, 65, 89, 32, 51, 32, 79, 70, 32, 73, 78, 84, 69, 71, 69, 82, 59, 10])), none⟩,
 ⟨some 6, .mov (.t 18), none⟩]) ((.seq (.ops [⟨some 19, .mov (.t 6), none⟩,
 ⟨some 20, .bin .add .num (.t 19) (.c (.s [80, 82, 79, 67, 69, 68, 85, 82, 69, 32, 102, 42, 32, 40, 120, 44, 32, 121, 58, 32, 73, 78, 84, 69, 71, 69, 82, 41, 58, 32, 73, 78, 84, 69, 71, 69, 82, 59, 32, 86, 65, 82, 32, 122, 58, 32, 73, 78, 84, 69, 71, 69, 82, 59, 32, 66, 69, 71, 73, 78, 32, 122, 32, 58, 61, 32, 120, 59, 32, 73, 70, 32, 121, 32, 62, 32, 48, 32, 84, 72, 69, 78, 32, 122, 32, 58, 61, 32, 120, 32, 43, 32, 102, 40, 120, 32, 45, 32, 49, 44, 32, 121, 32, 45, 32, 49, 41, 32, 69, 78, 68, 32, 82, 69, 84, 85, 82, 78, 32, 122, 32, 69, 78, 68, 32, 102, 59, 10])), none⟩,
 ⟨some 6, .mov (.t 20), none⟩]) ((.seq (.ops [⟨some 21, .mov (.t 6), none⟩,
 ⟨some 22, .bin .add .num (.t 21) (.c (.s [80, 82, 79, 67, 69, 68, 85, 82, 69, 32, 103, 32, 40, 86, 65, 82, 32, 120, 58, 32, 73, 78, 84, 69, 71, 69, 82, 59, 32, 121, 58, 32, 73, 78, 84, 69, 71, 69, 82, 41, 59, 32, 66, 69, 71, 73, 78, 32, 73, 78, 67, 40, 120, 44, 32, 121, 41, 59, 32, 79, 117, 116, 46, 73, 110, 116, 40, 120, 41, 59, 32, 79, 117, 116, 46, 67, 104, 97, 114, 40, 34, 32, 34, 41, 32, 69, 78, 68, 32, 103, 59, 10])), none⟩,
 ⟨some 6, .mov (.t 22), none⟩]) ((.seq (.ops [⟨some 23, .mov (.t 6), none⟩,
 ⟨some 24, .bin .add .num (.t 23) (.c (.s [80, 82, 79, 67, 69, 68, 85, 82, 69, 32, 104, 32, 40, 86, 65, 82, 32, 118, 58, 32, 65, 41, 59, 32, 86, 65, 82, 32, 119, 58, 32, 65, 59, 32, 66, 69, 71, 73, 78, 32, 119, 32, 58, 61, 32, 118, 59, 32, 118, 91, 49, 93, 32, 58, 61, 32, 118, 91, 48, 93, 32, 43, 32, 49, 59, 32, 97, 91, 50, 93, 32, 58, 61, 32, 118, 91, 49, 93, 32, 43, 32, 119, 91, 51, 93, 32, 69, 78, 68, 32, 104, 59, 10])), none⟩,
 ⟨some 6, .mov (.t 24), none⟩]) ((.seq (.ops [⟨some 25, .mov (.t 6), none⟩,
 ⟨some 26, .bin .add .num (.t 25) (.c (.s [80, 82, 79, 67, 69, 68, 85, 82, 69, 32, 111, 32, 40, 120, 58, 32, 80, 82, 41, 58, 32, 66, 79, 79, 76, 69, 65, 78, 59, 32, 86, 65, 82, 32, 119, 58, 32, 66, 79, 79, 76, 69, 65, 78, 59, 32, 66, 69, 71, 73, 78, 32, 119, 32, 58, 61, 32, 120, 32, 35, 32, 78, 73, 76, 32, 82, 69, 84, 85, 82, 78, 32, 119, 32, 38, 32, 40, 120, 46, 120, 32, 62, 61, 32, 48, 41, 32, 69, 78, 68, 32, 111, 59, 10])), none⟩,
 ⟨some 6, .mov (.t 26), none⟩]) ((.seq (.ops [⟨some 27, .mov (.t 6), none⟩,
 ⟨some 28, .bin .add .num (.t 27) (.c (.s [66, 69, 71, 73, 78, 32, 110, 32, 58, 61, 32, 57, 59, 32])), none⟩,
 ⟨some 6, .mov (.t 28), none⟩]) ((.seq ((.seq (.ops [⟨some 29, .mov (.t 1), none⟩]) ((.cond (.t 29) (.ops [⟨some 30, .mov (.t 6), none⟩,
 ⟨some 31, .bin .add .num (.t 30) (.c (.s [76, 46, 116, 101, 108, 108, 40, 110, 41, 59, 32, 105, 32, 58, 61, 32, 76, 46, 116, 119, 105, 99, 101, 40, 106, 41, 32, 43, 32, 76, 46, 115, 101, 118, 101, 110, 32, 43, 32, 76, 46, 99, 111, 117, 110, 116, 59, 32])), none⟩,
 ⟨some 6, .mov (.t 31), none⟩]) (.skip))))) ((.seq (.ops [⟨some 32, .mov (.t 6), none⟩,
 ⟨some 33, .mov (.mv 5), none⟩,
 ⟨some 34, .call (.f 23) [.mv 33, (.c (.i .i64 9))], none⟩,
 ⟨some 35, .bin .add .num (.t 32) (.t 34), none⟩,
 ⟨some 36, .bin .add .num (.t 35) (.c (.s [32, 69, 78, 68, 32, 77, 46, 10])), none⟩,
 ⟨some 4, .mov (.t 36), none⟩]) (.ret)))))))))))))))))))))))))))), none, none⟩
def yT : C := (.block 1 [0, 5, 6] ((.seq (.ops [⟨some 15, .mov (.t 0), none⟩,
 ⟨some 16, .mov (.mv 6), none⟩,
 ⟨some 17, .call (.f 25) [.t 15, (.mv 16)], none⟩,
 ⟨some 14, .mov (.t 17), none⟩,
 ⟨some 18, .extract (.t 14) 0, none⟩,
 ⟨some 19, .extract (.t 14) 1, none⟩,
 ⟨some 7, .mov (.t 18), none⟩,
 ⟨some 8, .mov (.t 19), none⟩]) ((.seq ((.seq (.ops [⟨some 20, .mov (.t 8), none⟩,
 ⟨some 21, .un .not (.t 20), none⟩]) ((.cond (.t 21) ((.seq (.ops [⟨some 22, .mov (.t 7), none⟩,
 ⟨some 2, .mov (.c .nil), none⟩,
 ⟨some 3, .mov (.t 22), none⟩,
 ⟨some 4, .mov (.c (.i .i64 30)), none⟩]) (.ret))) (.skip))))) ((.seq ((.seq (.ops [⟨some 23, .mov (.t 7), none⟩,
 ⟨some 24, .mov (.t 0), none⟩,
 ⟨some 25, .bi .lenS [.t 24], none⟩,
 ⟨some 26, .bin .geq .num (.t 23) (.t 25), none⟩]) ((.cond (.t 26) ((.seq (.ops [⟨some 27, .mov (.mv 5), none⟩,
 ⟨some 28, .mov (.t 0), none⟩,
 ⟨some 29, .bi .lenS [.t 28], none⟩,
 ⟨some 30, .mov (.t 0), none⟩,
 ⟨some 31, .bi .lenS [.t 30], none⟩,
 ⟨some 32, .build [(.i .i64 0), (.i .i64 0), (.i .i64 0), (.s []), (.i .i32 0)] [(1, 1, (.t 29)), (2, 1, (.t 31))], none⟩,
 ⟨some 33, .buildSlice (.agg [(.i .i64 0), (.i .i64 0), (.i .i64 0), (.s []), (.i .i32 0)]) 1 [(0, (.t 32))], none⟩,
 ⟨some 34, .bi (.append 5 48) [.mv 27, (.t 33)], none⟩,
 ⟨some 2, .mov (.mv 34), none⟩,
 ⟨some 3, .mov (.c (.i .i64 0)), none⟩,
 ⟨some 4, .mov (.c (.i .i64 0)), none⟩]) (.ret))) (.skip))))) ((.seq (.ops [⟨some 36, .mov (.t 0), none⟩,
 ⟨some 37, .mov (.t 7), none⟩,
 ⟨some 38, .call (.f 26) [.t 36, (.t 37)], none⟩,
 ⟨some 35, .mov (.t 38), none⟩,
 ⟨some 39, .extract (.t 35) 0, none⟩,
 ⟨some 40, .extract (.t 35) 1, none⟩,
 ⟨some 9, .alloc true [(.i .i64 0), (.i .i64 0), (.i .i64 0), (.s []), (.i .i32 0)], none⟩,
 ⟨none, .store (some 9) ⟨5, true⟩ (.t 9) (.t 39), none⟩,
 ⟨some 10, .mov (.t 40), none⟩]) ((.seq ((.seq (.ops [⟨some 41, .mov (.t 10), none⟩,
 ⟨some 42, .bin .neq .num (.t 41) (.c (.i .i64 0)), none⟩]) ((.cond (.t 42) ((.seq (.ops [⟨some 43, .mov (.t 7), none⟩,
 ⟨some 44, .mov (.t 10), none⟩,
 ⟨some 2, .mov (.c .nil), none⟩,
 ⟨some 3, .mov (.t 43), none⟩,
 ⟨some 4, .mov (.t 44), none⟩]) (.ret))) (.skip))))) ((.seq (.ops [⟨some 45, .mov (.mv 5), none⟩,
 ⟨some 46, .load false (some 9) ⟨5, true⟩ (.t 9), none⟩,
 ⟨some 47, .buildSlice (.agg [(.i .i64 0), (.i .i64 0), (.i .i64 0), (.s []), (.i .i32 0)]) 1 [(0, (.t 46))], none⟩,
 ⟨some 48, .bi (.append 5 48) [.mv 45, (.t 47)], none⟩,
 ⟨some 5, .mov (.mv 48), none⟩]) (.ops [⟨some 49, .fieldAddr (.t 9) 2 ⟨1, false⟩, none⟩,
 ⟨some 50, .load false (some 9) ⟨1, false⟩ (.t 49), none⟩,
 ⟨some 6, .mov (.t 50), none⟩]))))))))))))))
def qaL : C := .loop [0, 5, 6] yT
noncomputable def qbW (pg : Pg) (v0 v5 v6 : V) (H : List Obj) (lo : Nat) : Option (Ex × St) := exL pg qaL ⟨[(0, v0), (5, v5), (6, v6)], H, lo⟩
theorem qcd {pg : Pg} {e : Env} {H : List Obj} {lo : Nat} : exL pg qaL ⟨e, H, lo⟩ = qbW pg (kA (get 0 e)) (kA (get 5 e)) (kA (get 6 e)) H lo := qaz
theorem qfO {pg : Pg} {v0 v5 v6 : V} {H : List Obj} {lo : Nat} : qbW pg v0 v5 v6 H lo = yO pg (exL pg yT ⟨[(0, kA v0), (5, kA v5), (6, kA v6)], H, lo⟩) qaL := by
  unfold qbW qaL; rw [yr]; simp only [ql, qn, qD, qF, Nat.reduceEqDiff]
def qa1 : Fn := ⟨1, [.t 2, (.t 3), (.t 4)], false, (.seq (.ops [⟨some 2, .mov (.c .nil), none⟩, ⟨some 3, .mov (.c (.i .i64 0)), none⟩, ⟨some 4, .mov (.c (.i .i64 0)), none⟩]) ((.seq ((.seq (.ops [⟨some 11, .mov (.t 0), none⟩, ⟨some 12, .bi .lenS [.t 11], none⟩, ⟨some 13, .bin .gtr .num (.t 12) (.c (.i .i64 20000)), none⟩]) ((.cond (.t 13) ((.seq (.ops [⟨some 2, .mov (.c .nil), none⟩, ⟨some 3, .mov (.c (.i .i64 20000)), none⟩, ⟨some 4, .mov (.c (.i .i64 34)), none⟩]) (.ret))) (.skip))))) ((.seq (.ops [⟨some 5, .mov (.c .nil), none⟩]) ((.seq (.ops [⟨some 6, .mov (.c (.i .i64 0)), none⟩]) ((.block 0 [2, 3, 4] (qaL)))))))))), none, none⟩
def qcD : C := (.block 1 [2, 3, 4] ((.seq (.ops [⟨some 15, .mov (.t 4), none⟩, ⟨some 16, .call (.f 28) [.t 15], none⟩, ⟨some 5, .alloc true [(.i .i64 0), (.i .i64 0), (.i .i64 0), (.s []), (.i .i32 0)], none⟩, ⟨none, .store (some 5) ⟨5, true⟩ (.t 5) (.mv 16), none⟩]) ((.seq (.ops [⟨some 17, .load true none ⟨1, false⟩ (.t 2), none⟩, ⟨some 18, .load false (some 5) ⟨5, true⟩ (.t 5), none⟩, ⟨some 19, .buildSlice (.agg [(.i .i64 0), (.i .i64 0), (.i .i64 0), (.s []), (.i .i32 0)]) 1 [(0, (.t 18))], none⟩, ⟨some 20, .bi (.append 5 48) [.mv 17, (.t 19)], none⟩, ⟨none, .store none ⟨1, false⟩ (.t 2) (.mv 20), none⟩]) ((.seq (.ops [⟨some 21, .fieldAddr (.t 5) 0 ⟨1, false⟩, none⟩, ⟨some 22, .load false (some 5) ⟨1, false⟩ (.t 21), none⟩, ⟨some 23, .bin .eql .num (.t 22) (.c (.i .i64 0)), none⟩]) ((.cond (.t 23) ((.seq (.ops [⟨some 24, .load false none ⟨1, false⟩ (.t 2), none⟩, ⟨none, .store none ⟨1, false⟩ (.t 2) (.t 24), none⟩, ⟨none, .store none ⟨1, false⟩ (.t 3) (.c .nil), none⟩]) (.ret))) (.skip))))))))))
def qcC : C := .loop [2, 3, 4] qcD
noncomputable def qel (pg : Pg) (v2 v3 v4 : V) (H : List Obj) (lo : Nat) : Option (Ex × St) := exL pg qcC ⟨[(2, v2), (3, v3), (4, v4)], H, lo⟩
theorem qfR {pg : Pg} {e : Env} {H : List Obj} {lo : Nat} : exL pg qcC ⟨e, H, lo⟩ = qel pg (kA (get 2 e)) (kA (get 3 e)) (kA (get 4 e)) H lo := qaz
theorem qiS {pg : Pg} {v2 v3 v4 : V} {H : List Obj} {lo : Nat} : qel pg v2 v3 v4 H lo = yO pg (exL pg qcD ⟨[(2, kA v2), (3, kA v3), (4, kA v4)], H, lo⟩) qcC := by
  unfold qel qcC; rw [yr]; simp only [ql, qn, qD, qF, Nat.reduceEqDiff]
def qf3 : C := (.seq (.skip) ((.seq (.ops [⟨some 12, .mov (.t 0), none⟩, ⟨some 13, .build [(.s []), (.i .i64 0)] [(0, 1, (.t 12))], none⟩, ⟨some 14, .box false (.t 13), none⟩, ⟨some 4, .mov (.t 14), none⟩]) ((.block 0 [2, 3] (qcC))))))
def f_scan_All : Fn := ⟨1, [(.cell 2 ⟨1, false⟩), (.cell 3 ⟨1, false⟩)], false, (.seq (.ops [⟨some 2, .alloc false [.nil], none⟩, ⟨some 3, .alloc false [.nil], none⟩]) ((.seq ((.seq (.ops [⟨some 6, .mov (.t 0), none⟩, ⟨some 7, .bi .lenS [.t 6], none⟩, ⟨some 8, .bin .gtr .num (.t 7) (.c (.i .i64 20000)), none⟩]) ((.cond (.t 8) ((.seq (.ops [⟨some 9, .build [(.i .i64 0), (.i .i64 0)] [(0, 1, (.c (.i .i64 20000))), (1, 1, (.c (.i .i64 34)))], none⟩, ⟨some 10, .buildSlice (.agg [(.i .i64 0), (.i .i64 0)]) 1 [(0, (.t 9))], none⟩, ⟨none, .store none ⟨1, false⟩ (.t 2) (.c .nil), none⟩, ⟨none, .store none ⟨1, false⟩ (.t 3) (.mv 10), none⟩]) (.ret))) (.skip))))) (.ops [⟨some 11, .mkFn 27 [] [.t 2, (.t 3)], none⟩])))), some (11, qf3), none⟩
def qgf : Fn := ⟨0, [.t 0], true, (.seq (.ops [⟨some 0, .mov (.c .nil), none⟩]) ((.seq (.ops [⟨some 1, .call (.f 29) [(.c (.s [65, 82, 82, 65, 89, 32, 66, 69, 71, 73, 78, 32, 66, 89, 32, 67, 65, 83, 69, 32, 67, 79, 78, 83, 84, 32, 68, 73, 86, 32, 68, 79, 32, 69, 76, 83, 69, 32, 69, 76, 83, 73, 70, 32, 69, 78, 68, 32, 70, 65, 76, 83, 69, 32, 70, 79, 82, 32, 73, 70, 32, 73, 77, 80, 79, 82, 84, 32, 73, 78, 32, 73, 83, 32, 77, 79, 68, 32, 77, 79, 68, 85, 76, 69, 32, 78, 73, 76, 32, 79, 70, 32, 79, 82, 32, 80, 79, 73, 78, 84, 69, 82, 32, 80, 82, 79, 67, 69, 68, 85, 82, 69, 32, 82, 69, 67, 79, 82, 68, 32, 82, 69, 80, 69, 65, 84, 32, 82, 69, 84, 85, 82, 78, 32, 84, 72, 69, 78, 32, 84, 79, 32, 84, 82, 85, 69, 32, 84, 89, 80, 69, 32, 85, 78, 84, 73, 76, 32, 86, 65, 82, 32, 87, 72, 73, 76, 69]))], none⟩, ⟨some 0, .mov (.mv 1), none⟩]) (.ret)))), none, none⟩
def qbB : Fn := ⟨0, [.t 0], true, (.seq (.ops [⟨some 0, .mov (.c .nil), none⟩]) ((.seq (.ops [⟨some 1, .buildSlice (.s []) 33 [(0, (.c (.s [65, 82, 82, 65, 89]))), (1, (.c (.s [66, 69, 71, 73, 78]))), (2, (.c (.s [66, 89]))), (3, (.c (.s [67, 65, 83, 69]))), (4, (.c (.s [67, 79, 78, 83, 84]))), (5, (.c (.s [68, 73, 86]))), (6, (.c (.s [68, 79]))), (7, (.c (.s [69, 76, 83, 69]))), (8, (.c (.s [69, 76, 83, 73, 70]))), (9, (.c (.s [69, 78, 68]))), (10, (.c (.s [70, 65, 76, 83, 69]))), (11, (.c (.s [70, 79, 82]))), (12, (.c (.s [73, 70]))), (13, (.c (.s [73, 77, 80, 79, 82, 84]))), (14, (.c (.s [73, 78]))), (15, (.c (.s [73, 83]))), (16, (.c (.s [77, 79, 68]))), (17, (.c (.s [77, 79, 68, 85, 76, 69]))), (18, (.c (.s [78, 73, 76]))), (19, (.c (.s [79, 70]))), (20, (.c (.s [79, 82]))), (21, (.c (.s [80, 79, 73, 78, 84, 69, 82]))), (22, (.c (.s [80, 82, 79, 67, 69, 68, 85, 82, 69]))), (23, (.c (.s [82, 69, 67, 79, 82, 68]))), (24, (.c (.s [82, 69, 80, 69, 65, 84]))), (25, (.c (.s [82, 69, 84, 85, 82, 78]))), (26, (.c (.s [84, 72, 69, 78]))), (27, (.c (.s [84, 79]))), (28, (.c (.s [84, 82, 85, 69]))), (29, (.c (.s [84, 89, 80, 69]))), (30, (.c (.s [85, 78, 84, 73, 76]))), (31, (.c (.s [86, 65, 82]))), (32, (.c (.s [87, 72, 73, 76, 69])))], none⟩, ⟨some 0, .mov (.mv 1), none⟩]) (.ret)))), none, none⟩
def yX : C := (.seq ((.seq (.ops [⟨some 6, .mov (.t 4), none⟩, ⟨some 7, .mov (.t 3), none⟩, ⟨some 8, .bi .lenL [.t 7], none⟩, ⟨some 9, .bin .lss .num (.t 6) (.t 8), none⟩]) ((.cond (.t 9) (.skip) (.exit 0))))) ((.seq ((.block 1 [0, 3, 4] ((.seq (.ops [⟨some 12, .mov (.t 3), none⟩, ⟨some 13, .mov (.t 4), none⟩, ⟨some 14, .indexAddr (.t 12) (.t 13) 1 none, none⟩, ⟨some 15, .load false none ⟨1, false⟩ (.t 14), none⟩, ⟨some 16, .mov (.t 0), none⟩, ⟨some 17, .bin .eql .num (.t 15) (.t 16), none⟩]) ((.cond (.t 17) ((.seq (.ops [⟨some 2, .mov (.c (.b true)), none⟩]) (.ret))) (.skip))))))) (.ops [⟨some 10, .mov (.t 4), none⟩, ⟨some 11, .bin .add .num (.t 10) (.c (.i .i64 1)), none⟩, ⟨some 4, .mov (.t 11), none⟩]))))
def yV : C := .loop [0, 3, 4] yX
noncomputable def qaZ (pg : Pg) (v0 v3 v4 : V) (H : List Obj) (lo : Nat) : Option (Ex × St) := exL pg yV ⟨[(0, v0), (3, v3), (4, v4)], H, lo⟩
theorem qcK {pg : Pg} {e : Env} {H : List Obj} {lo : Nat} : exL pg yV ⟨e, H, lo⟩ = qaZ pg (kA (get 0 e)) (kA (get 3 e)) (kA (get 4 e)) H lo := qaz
theorem qcR {pg : Pg} {v0 v3 v4 : V} {H : List Obj} {lo : Nat} : qaZ pg v0 v3 v4 H lo = yO pg (exL pg yX ⟨[(0, kA v0), (3, kA v3), (4, kA v4)], H, lo⟩) yV := by
  unfold qaZ yV; rw [yr]; simp only [ql, qn, qD, qF, Nat.reduceEqDiff]
def qaY : C := (.seq (.ops [⟨some 2, .mov (.c (.b false)), none⟩]) (.ret))
def qbU : Fn := ⟨1, [.t 2], true, (.seq (.ops [⟨some 2, .mov (.c (.b false)), none⟩]) ((.seq (.ops [⟨some 5, .call (.f 18) [], none⟩, ⟨some 3, .mov (.mv 5), none⟩]) ((.seq ((.seq (.ops [⟨some 4, .mov (.c (.i .i64 0)), none⟩]) ((.block 0 [] (yV))))) (qaY)))))), none, none⟩
def yW : C := (.seq ((.seq (.ops [⟨some 11, .mov (.t 6), none⟩, ⟨some 12, .bin .gtr .num (.t 11) (.c (.i .i64 0)), none⟩]) ((.cond (.t 12) (.skip) (.exit 0))))) ((.seq ((.block 1 [0, 5, 6] ((.seq ((.seq (.ops [⟨some 15, .mov (.t 5), none⟩, ⟨some 16, .bin .neq .num (.t 15) (.c (.s [])), none⟩]) ((.cond (.t 16) (.ops [⟨some 17, .mov (.t 5), none⟩, ⟨some 18, .bin .add .num (.t 17) (.c (.s [59, 32])), none⟩, ⟨some 5, .mov (.t 18), none⟩]) (.skip))))) (.ops [⟨some 19, .mov (.t 5), none⟩, ⟨some 20, .mov (.t 0), none⟩, ⟨some 21, .call (.f 33) [.t 20], none⟩, ⟨some 22, .bin .add .num (.t 19) (.t 21), none⟩, ⟨some 5, .mov (.t 22), none⟩]))))) (.ops [⟨some 13, .mov (.t 6), none⟩, ⟨some 14, .bin .sub .num (.t 13) (.c (.i .i64 1)), none⟩, ⟨some 6, .mov (.t 14), none⟩]))))
def yZ : C := .loop [0, 5, 6] yW
noncomputable def qa0 (pg : Pg) (v0 v5 v6 : V) (H : List Obj) (lo : Nat) : Option (Ex × St) := exL pg yZ ⟨[(0, v0), (5, v5), (6, v6)], H, lo⟩
theorem qbz {pg : Pg} {e : Env} {H : List Obj} {lo : Nat} : exL pg yZ ⟨e, H, lo⟩ = qa0 pg (kA (get 0 e)) (kA (get 5 e)) (kA (get 6 e)) H lo := qaz
theorem qbo {pg : Pg} {v0 v5 v6 : V} {H : List Obj} {lo : Nat} : qa0 pg v0 v5 v6 H lo = yO pg (exL pg yW ⟨[(0, kA v0), (5, kA v5), (6, kA v6)], H, lo⟩) yZ := by
  unfold qa0 yZ; rw [yr]; simp only [ql, qn, qD, qF, Nat.reduceEqDiff]
def qdn : C := (.seq (.ops [⟨some 23, .mov (.t 5), none⟩, ⟨some 4, .mov (.t 23), none⟩]) (.ret))
def qbS : Fn := ⟨2, [.t 4], true, (.seq (.ops [⟨some 4, .mov (.c (.s [])), none⟩]) ((.seq (.ops [⟨some 5, .mov (.c (.s [])), none⟩]) ((.seq ((.seq (.ops [⟨some 7, .mov (.t 0), none⟩, ⟨some 8, .mov (.mv 1), none⟩, ⟨some 9, .call (.f 32) [.t 7, (.mv 8)], none⟩, ⟨some 10, .bin .add .num (.t 9) (.c (.i .i64 1)), none⟩, ⟨some 6, .mov (.t 10), none⟩]) ((.block 0 [5] (yZ))))) (qdn)))))), none, none⟩
def qaK : C := (.seq ((.seq (.ops [⟨some 8, .mov (.t 1), none⟩, ⟨some 9, .mov (.t 0), none⟩, ⟨some 10, .bi .lenS [.t 9], none⟩, ⟨some 11, .bin .lss .num (.t 8) (.t 10), none⟩, ⟨some 12, .mov (.t 11), none⟩, ⟨some 13, .mov (.t 0), some (12, true)⟩, ⟨some 14, .mov (.t 1), some (12, true)⟩, ⟨some 15, .index (.t 13) (.t 14), some (12, true)⟩, ⟨some 16, .call (.f 34) [.t 15], some (12, true)⟩, ⟨some 17, .pick (.t 12) (.t 16) (.c (.b false)), none⟩]) ((.cond (.t 17) (.skip) (.exit 2))))) ((.block 3 [0, 1] (.ops [⟨some 18, .mov (.t 1), none⟩, ⟨some 19, .bin .add .num (.t 18) (.c (.i .i64 1)), none⟩, ⟨some 1, .mov (.t 19), none⟩]))))
def qaP : C := .loop [0, 1] qaK
noncomputable def qbQ (pg : Pg) (v0 v1 : V) (H : List Obj) (lo : Nat) : Option (Ex × St) := exL pg qaP ⟨[(0, v0), (1, v1)], H, lo⟩
theorem j0 {pg : Pg} {e : Env} {H : List Obj} {lo : Nat} : exL pg qaP ⟨e, H, lo⟩ = qbQ pg (kA (get 0 e)) (kA (get 1 e)) H lo := qaz
theorem qdw {pg : Pg} {v0 v1 : V} {H : List Obj} {lo : Nat} : qbQ pg v0 v1 H lo = yO pg (exL pg qaK ⟨[(0, kA v0), (1, kA v1)], H, lo⟩) qaP := by
  unfold qbQ qaP; rw [yr]; simp only [ql, qn, qD, qF, Nat.reduceEqDiff]
def ju : C := (.block 5 [0, 1, 6, 7] ((.seq ((.block 6 [0, 1, 6, 7] ((.seq (.ops [⟨some 43, .mov (.t 1), none⟩,
 ⟨some 44, .bin .add .num (.t 43) (.c (.i .i64 1)), none⟩,
 ⟨some 45, .mov (.t 0), none⟩,
 ⟨some 46, .bi .lenS [.t 45], none⟩,
 ⟨some 47, .bin .geq .num (.t 44) (.t 46), none⟩,
 ⟨some 42, .mov (.t 47), none⟩]) ((.cond (.t 42) ((.seq (.ops [⟨some 48, .mov (.t 6), none⟩,
 ⟨some 4, .mov (.t 48), none⟩,
 ⟨some 5, .mov (.c (.b false)), none⟩]) (.ret))) ((.seq (.ops [⟨some 50, .mov (.t 0), none⟩,
 ⟨some 51, .mov (.t 1), none⟩,
 ⟨some 52, .index (.t 50) (.t 51), none⟩,
 ⟨some 53, .bin .eql .num (.t 52) (.c (.i .u8 40)), none⟩,
 ⟨some 54, .mov (.t 53), none⟩,
 ⟨some 55, .mov (.t 0), some (54, true)⟩,
 ⟨some 56, .mov (.t 1), some (54, true)⟩,
 ⟨some 57, .bin .add .num (.t 56) (.c (.i .i64 1)), some (54, true)⟩,
 ⟨some 58, .index (.t 55) (.t 57), some (54, true)⟩,
 ⟨some 59, .bin .eql .num (.t 58) (.c (.i .u8 42)), some (54, true)⟩,
 ⟨some 60, .pick (.t 54) (.t 59) (.c (.b false)), none⟩,
 ⟨some 49, .mov (.t 60), none⟩]) ((.cond (.t 49) ((.seq (.ops [⟨some 61, .mov (.t 7), none⟩,
 ⟨some 62, .bin .add .num (.t 61) (.c (.i .i64 1)), none⟩,
 ⟨some 7, .mov (.t 62), none⟩]) (.ops [⟨some 63, .mov (.t 1), none⟩,
 ⟨some 64, .bin .add .num (.t 63) (.c (.i .i64 2)), none⟩,
 ⟨some 1, .mov (.t 64), none⟩]))) ((.seq (.ops [⟨some 66, .mov (.t 0), none⟩,
 ⟨some 67, .mov (.t 1), none⟩,
 ⟨some 68, .index (.t 66) (.t 67), none⟩,
 ⟨some 69, .bin .eql .num (.t 68) (.c (.i .u8 42)), none⟩,
 ⟨some 70, .mov (.t 69), none⟩,
 ⟨some 71, .mov (.t 0), some (70, true)⟩,
 ⟨some 72, .mov (.t 1), some (70, true)⟩,
 ⟨some 73, .bin .add .num (.t 72) (.c (.i .i64 1)), some (70, true)⟩,
 ⟨some 74, .index (.t 71) (.t 73), some (70, true)⟩,
 ⟨some 75, .bin .eql .num (.t 74) (.c (.i .u8 41)), some (70, true)⟩,
 ⟨some 76, .pick (.t 70) (.t 75) (.c (.b false)), none⟩,
 ⟨some 65, .mov (.t 76), none⟩]) ((.cond (.t 65) ((.seq (.ops [⟨some 77, .mov (.t 7), none⟩,
 ⟨some 78, .bin .sub .num (.t 77) (.c (.i .i64 1)), none⟩,
 ⟨some 7, .mov (.t 78), none⟩]) (.ops [⟨some 79, .mov (.t 1), none⟩,
 ⟨some 80, .bin .add .num (.t 79) (.c (.i .i64 2)), none⟩,
 ⟨some 1, .mov (.t 80), none⟩]))) (.ops [⟨some 40, .mov (.t 1), none⟩,
 ⟨some 41, .bin .add .num (.t 40) (.c (.i .i64 1)), none⟩,
 ⟨some 1, .mov (.t 41), none⟩]))))))))))))))) ((.seq (.ops [⟨some 81, .mov (.t 7), none⟩,
 ⟨some 82, .bin .eql .num (.t 81) (.c (.i .i64 0)), none⟩]) ((.cond (.t 82) (.exit 4) (.skip))))))))
def qaQ : C := .loop [0, 1, 6, 7] ju
noncomputable def zZ (pg : Pg) (v0 v1 v6 v7 : V) (H : List Obj) (lo : Nat) : Option (Ex × St) := exL pg qaQ ⟨[(0, v0), (1, v1), (6, v6), (7, v7)], H, lo⟩
theorem jL {pg : Pg} {e : Env} {H : List Obj} {lo : Nat} : exL pg qaQ ⟨e, H, lo⟩ = zZ pg (kA (get 0 e)) (kA (get 1 e)) (kA (get 6 e)) (kA (get 7 e)) H lo := qaz
theorem jZ {pg : Pg} {v0 v1 v6 v7 : V} {H : List Obj} {lo : Nat} : zZ pg v0 v1 v6 v7 H lo = yO pg (exL pg ju ⟨[(0, kA v0), (1, kA v1), (6, kA v6), (7, kA v7)], H, lo⟩) qaQ := by
  unfold zZ qaQ; rw [yr]; simp only [ql, qn, qD, qF, Nat.reduceEqDiff]
def yC : C := (.seq ((.seq (.ops [⟨some 20, .mov (.t 1), none⟩, ⟨some 21, .bin .add .num (.t 20) (.c (.i .i64 1)), none⟩, ⟨some 22, .mov (.t 0), none⟩, ⟨some 23, .bi .lenS [.t 22], none⟩, ⟨some 24, .bin .geq .num (.t 21) (.t 23), none⟩, ⟨some 25, .mov (.t 24), none⟩, ⟨some 26, .mov (.t 0), some (25, false)⟩, ⟨some 27, .mov (.t 1), some (25, false)⟩, ⟨some 28, .index (.t 26) (.t 27), some (25, false)⟩, ⟨some 29, .bin .neq .num (.t 28) (.c (.i .u8 40)), some (25, false)⟩, ⟨some 30, .pick (.t 25) (.c (.b true)) (.t 29), none⟩, ⟨some 31, .mov (.t 30), none⟩, ⟨some 32, .mov (.t 0), some (31, false)⟩, ⟨some 33, .mov (.t 1), some (31, false)⟩, ⟨some 34, .bin .add .num (.t 33) (.c (.i .i64 1)), some (31, false)⟩, ⟨some 35, .index (.t 32) (.t 34), some (31, false)⟩, ⟨some 36, .bin .neq .num (.t 35) (.c (.i .u8 42)), some (31, false)⟩, ⟨some 37, .pick (.t 31) (.c (.b true)) (.t 36), none⟩]) ((.cond (.t 37) ((.seq (.ops [⟨some 38, .mov (.t 1), none⟩, ⟨some 4, .mov (.t 38), none⟩, ⟨some 5, .mov (.c (.b true)), none⟩]) (.ret))) (.skip))))) ((.seq (.ops [⟨some 39, .mov (.t 1), none⟩, ⟨some 6, .mov (.t 39), none⟩, ⟨some 7, .mov (.c (.i .i64 0)), none⟩]) ((.block 4 [0, 1] (qaQ))))))
def yb : C := (.block 1 [0, 1] ((.seq ((.block 2 [0, 1] (qaP))) (yC))))
def qaM : C := .loop [0, 1] yb
noncomputable def qbM (pg : Pg) (v0 v1 : V) (H : List Obj) (lo : Nat) : Option (Ex × St) := exL pg qaM ⟨[(0, v0), (1, v1)], H, lo⟩
theorem qdu {pg : Pg} {e : Env} {H : List Obj} {lo : Nat} : exL pg qaM ⟨e, H, lo⟩ = qbM pg (kA (get 0 e)) (kA (get 1 e)) H lo := qaz
theorem qdx {pg : Pg} {v0 v1 : V} {H : List Obj} {lo : Nat} : qbM pg v0 v1 H lo = yO pg (exL pg yb ⟨[(0, kA v0), (1, kA v1)], H, lo⟩) qaM := by
  unfold qbM qaM; rw [yr]; simp only [ql, qn, qD, qF, Nat.reduceEqDiff]
def qcG : Fn := ⟨2, [.t 4, (.t 5)], false, (.seq (.ops [⟨some 4, .mov (.c (.i .i64 0)), none⟩, ⟨some 5, .mov (.c (.b false)), none⟩]) ((.block 0 [4, 5] (qaM)))), none, none⟩
def yH : C := (.seq ((.seq (.ops [⟨some 17, .mov (.t 7), none⟩, ⟨some 18, .mov (.t 0), none⟩, ⟨some 19, .bi .lenS [.t 18], none⟩, ⟨some 20, .bin .lss .num (.t 17) (.t 19), none⟩, ⟨some 21, .mov (.t 20), none⟩, ⟨some 22, .mov (.t 0), some (21, true)⟩, ⟨some 23, .mov (.t 7), some (21, true)⟩, ⟨some 24, .index (.t 22) (.t 23), some (21, true)⟩, ⟨some 25, .call (.f 35) [.t 24], some (21, true)⟩, ⟨some 26, .mov (.mv 25), some (21, true)⟩, ⟨some 27, .mov (.t 0), some (26, false)⟩, ⟨some 28, .mov (.t 7), some (26, false)⟩, ⟨some 29, .index (.t 27) (.t 28), some (26, false)⟩, ⟨some 30, .call (.f 36) [.t 29], some (26, false)⟩, ⟨some 31, .pick (.t 26) (.c (.b true)) (.t 30), some (21, true)⟩, ⟨some 32, .pick (.t 21) (.t 31) (.c (.b false)), none⟩]) ((.cond (.t 32) (.skip) (.exit 1))))) ((.block 2 [0, 1, 4, 7] (.ops [⟨some 33, .mov (.t 7), none⟩, ⟨some 34, .bin .add .num (.t 33) (.c (.i .i64 1)), none⟩, ⟨some 7, .mov (.t 34), none⟩]))))
def qag : C := .loop [0, 1, 4, 7] yH
noncomputable def qbe (pg : Pg) (v0 v1 v4 v7 : V) (H : List Obj) (lo : Nat) : Option (Ex × St) := exL pg qag ⟨[(0, v0), (1, v1), (4, v4), (7, v7)], H, lo⟩
theorem yI {pg : Pg} {e : Env} {H : List Obj} {lo : Nat} : exL pg qag ⟨e, H, lo⟩ = qbe pg (kA (get 0 e)) (kA (get 1 e)) (kA (get 4 e)) (kA (get 7 e)) H lo := qaz
theorem qcY {pg : Pg} {v0 v1 v4 v7 : V} {H : List Obj} {lo : Nat} : qbe pg v0 v1 v4 v7 H lo = yO pg (exL pg yH ⟨[(0, kA v0), (1, kA v1), (4, kA v4), (7, kA v7)], H, lo⟩) qag := by
  unfold qbe qag; rw [yr]; simp only [ql, qn, qD, qF, Nat.reduceEqDiff]
def qbd : C := (.seq ((.seq (.ops [⟨some 35, .mov (.t 7), none⟩, ⟨some 36, .mov (.t 1), none⟩, ⟨some 37, .bin .sub .num (.t 35) (.t 36), none⟩, ⟨some 38, .bin .gtr .num (.t 37) (.c (.i .i64 32)), none⟩]) ((.cond (.t 38) ((.seq (.ops [⟨some 39, .build [(.i .i64 0), (.i .i64 0), (.i .i64 0), (.s []), (.i .i32 0)] [], none⟩, ⟨none, .store (some 4) ⟨5, true⟩ (.t 4) (.t 39), none⟩, ⟨some 5, .mov (.c (.i .i64 34)), none⟩]) (.ret))) (.skip))))) ((.seq (.ops [⟨some 40, .mov (.t 1), none⟩, ⟨some 41, .mov (.t 7), none⟩, ⟨some 42, .mov (.t 0), none⟩, ⟨some 43, .mov (.t 1), none⟩, ⟨some 44, .mov (.t 7), none⟩, ⟨some 45, .sliceS (.t 42) (some (.t 43)) (some (.t 44)), none⟩, ⟨some 46, .build [(.i .i64 0), (.i .i64 0), (.i .i64 0), (.s []), (.i .i32 0)] [(0, 1, (.c (.i .i64 1))), (1, 1, (.t 40)), (2, 1, (.t 41)), (3, 1, (.t 45))], none⟩, ⟨some 8, .alloc true [(.i .i64 0), (.i .i64 0), (.i .i64 0), (.s []), (.i .i32 0)], none⟩, ⟨none, .store (some 8) ⟨5, true⟩ (.t 8) (.t 46), none⟩]) ((.seq ((.seq (.ops [⟨some 47, .fieldAddr (.t 8) 3 ⟨1, false⟩, none⟩, ⟨some 48, .load false (some 8) ⟨1, false⟩ (.t 47), none⟩, ⟨some 49, .call (.f 19) [.t 48], none⟩]) ((.cond (.t 49) (.ops [⟨some 50, .fieldAddr (.t 8) 0 ⟨1, false⟩, none⟩, ⟨none, .store (some 8) ⟨1, false⟩ (.t 50) (.c (.i .i64 6)), none⟩]) (.skip))))) ((.seq (.ops [⟨some 51, .load false (some 8) ⟨5, true⟩ (.t 8), none⟩, ⟨none, .store (some 4) ⟨5, true⟩ (.t 4) (.t 51), none⟩, ⟨some 5, .mov (.c (.i .i64 0)), none⟩]) (.ret))))))))
def jB : C := (.seq ((.seq (.ops [⟨some 68, .mov (.t 1), none⟩,
 ⟨some 69, .bin .add .num (.t 68) (.c (.i .i64 1)), none⟩,
 ⟨some 70, .mov (.t 0), none⟩,
 ⟨some 71, .bi .lenS [.t 70], none⟩,
 ⟨some 72, .bin .lss .num (.t 69) (.t 71), none⟩]) ((.cond (.t 72) ((.seq (.ops [⟨some 73, .mov (.t 0), none⟩,
 ⟨some 74, .mov (.t 1), none⟩,
 ⟨some 75, .mov (.t 1), none⟩,
 ⟨some 76, .bin .add .num (.t 75) (.c (.i .i64 2)), none⟩,
 ⟨some 77, .sliceS (.t 73) (some (.t 74)) (some (.t 76)), none⟩,
 ⟨some 9, .mov (.t 77), none⟩]) ((.seq (.ops [⟨some 78, .mov (.t 9), none⟩]) ((.block 3 [0, 1, 4, 6] ((.seq ((.seq (.ops [⟨some 80, .bin .eql .num (.t 78) (.c (.s [60, 61])), none⟩,
 ⟨some 79, .mov (.t 80), none⟩]) ((.cond (.t 79) (.skip) ((.seq (.ops [⟨some 81, .bin .eql .num (.t 78) (.c (.s [62, 61])), none⟩,
 ⟨some 79, .mov (.t 81), none⟩]) ((.cond (.t 79) (.skip) ((.seq (.ops [⟨some 82, .bin .eql .num (.t 78) (.c (.s [58, 61])), none⟩,
 ⟨some 79, .mov (.t 82), none⟩]) ((.cond (.t 79) (.skip) (.ops [⟨some 83, .bin .eql .num (.t 78) (.c (.s [46, 46])), none⟩,
 ⟨some 79, .mov (.t 83), none⟩]))))))))))))) ((.cond (.t 79) ((.seq (.ops [⟨some 84, .mov (.t 1), none⟩,
 ⟨some 85, .mov (.t 1), none⟩,
 ⟨some 86, .bin .add .num (.t 85) (.c (.i .i64 2)), none⟩,
 ⟨some 87, .mov (.t 9), none⟩,
 ⟨some 88, .build [(.i .i64 0), (.i .i64 0), (.i .i64 0), (.s []), (.i .i32 0)] [(0, 1, (.c (.i .i64 5))), (1, 1, (.t 84)), (2, 1, (.t 86)), (3, 1, (.t 87))], none⟩,
 ⟨none, .store (some 4) ⟨5, true⟩ (.t 4) (.t 88), none⟩,
 ⟨some 5, .mov (.c (.i .i64 0)), none⟩]) (.ret))) (.skip))))))))))) (.skip))))) ((.seq ((.seq (.ops [⟨some 89, .mov (.mv 6), none⟩,
 ⟨some 90, .call (.f 39) [(.c (.s [43, 45, 42, 47, 38, 126, 61, 35, 60, 62, 46, 44, 59, 58, 40, 41, 91, 93, 123, 125, 94, 124])), (.mv 89)], none⟩]) ((.cond (.t 90) ((.seq (.ops [⟨some 91, .mov (.t 1), none⟩,
 ⟨some 92, .mov (.t 1), none⟩,
 ⟨some 93, .bin .add .num (.t 92) (.c (.i .i64 1)), none⟩,
 ⟨some 94, .mov (.t 0), none⟩,
 ⟨some 95, .mov (.t 1), none⟩,
 ⟨some 96, .mov (.t 1), none⟩,
 ⟨some 97, .bin .add .num (.t 96) (.c (.i .i64 1)), none⟩,
 ⟨some 98, .sliceS (.t 94) (some (.t 95)) (some (.t 97)), none⟩,
 ⟨some 99, .build [(.i .i64 0), (.i .i64 0), (.i .i64 0), (.s []), (.i .i32 0)] [(0, 1, (.c (.i .i64 5))), (1, 1, (.t 91)), (2, 1, (.t 93)), (3, 1, (.t 98))], none⟩,
 ⟨none, .store (some 4) ⟨5, true⟩ (.t 4) (.t 99), none⟩,
 ⟨some 5, .mov (.c (.i .i64 0)), none⟩]) (.ret))) (.skip))))) ((.seq (.ops [⟨some 100, .build [(.i .i64 0), (.i .i64 0), (.i .i64 0), (.s []), (.i .i32 0)] [], none⟩,
 ⟨none, .store (some 4) ⟨5, true⟩ (.t 4) (.t 100), none⟩,
 ⟨some 5, .mov (.c (.i .i64 30)), none⟩]) (.ret))))))
def f_waferref11_symbol : Fn := ⟨2, [(.cell 4 ⟨5, true⟩), (.t 5)], false, (.seq (.ops [⟨some 4, .alloc true [(.i .i64 0), (.i .i64 0), (.i .i64 0), (.s []), (.i .i32 0)], none⟩, ⟨some 5, .mov (.c (.i .i64 0)), none⟩]) ((.seq (.ops [⟨some 10, .mov (.t 0), none⟩, ⟨some 11, .mov (.t 1), none⟩, ⟨some 12, .index (.t 10) (.t 11), none⟩, ⟨some 6, .mov (.t 12), none⟩]) ((.seq ((.block 0 [0, 1, 4, 6] ((.seq (.ops [⟨some 14, .mov (.t 6), none⟩, ⟨some 15, .call (.f 35) [.t 14], none⟩, ⟨some 13, .mov (.mv 15), none⟩]) ((.cond (.t 13) ((.seq (.ops [⟨some 16, .mov (.t 1), none⟩, ⟨some 7, .mov (.t 16), none⟩]) ((.seq ((.block 1 [0, 1, 4, 7] (qag))) (qbd))))) ((.seq (.ops [⟨some 53, .mov (.t 6), none⟩, ⟨some 54, .call (.f 36) [.t 53], none⟩, ⟨some 52, .mov (.mv 54), none⟩]) ((.cond (.t 52) ((.seq (.ops [⟨some 55, .mov (.mv 0), none⟩, ⟨some 56, .mov (.mv 1), none⟩, ⟨some 57, .call (.f 37) [.mv 55, (.mv 56)], none⟩, ⟨some 58, .extract (.t 57) 0, none⟩, ⟨some 59, .extract (.t 57) 1, none⟩, ⟨none, .store (some 4) ⟨5, true⟩ (.t 4) (.t 58), none⟩, ⟨some 5, .mov (.t 59), none⟩]) (.ret))) ((.seq (.ops [⟨some 61, .mov (.t 6), none⟩, ⟨some 62, .bin .eql .num (.t 61) (.c (.i .u8 34)), none⟩, ⟨some 60, .mov (.t 62), none⟩]) ((.cond (.t 60) ((.seq (.ops [⟨some 63, .mov (.mv 0), none⟩, ⟨some 64, .mov (.mv 1), none⟩, ⟨some 65, .call (.f 38) [.mv 63, (.mv 64)], none⟩, ⟨some 66, .extract (.t 65) 0, none⟩, ⟨some 67, .extract (.t 65) 1, none⟩, ⟨none, .store (some 4) ⟨5, true⟩ (.t 4) (.t 66), none⟩, ⟨some 5, .mov (.t 67), none⟩]) (.ret))) (.skip))))))))))))))) (jB)))))), none, none⟩
def f_scan_All_1 : Fn := ⟨2, [], false, (.seq (.ops [⟨some 2, .mov (.t 5), none⟩]) ((.seq (.ops [⟨some 6, .mov (.t 2), none⟩, ⟨some 7, .bin .neq .iface (.t 6) (.c .ni), none⟩]) ((.cond (.t 7) ((.seq (.ops [⟨some 9, .mov (.t 2), none⟩, ⟨some 10, .assertOk 66 (.agg [(.i .i64 0), (.i .i64 0)]) (.t 9), none⟩, ⟨some 8, .mov (.t 10), none⟩, ⟨some 11, .extract (.t 8) 0, none⟩, ⟨some 12, .extract (.t 8) 1, none⟩, ⟨some 3, .alloc true [(.i .i64 0), (.i .i64 0)], none⟩, ⟨none, .store (some 3) ⟨2, true⟩ (.t 3) (.t 11), none⟩, ⟨some 4, .mov (.t 12), none⟩]) ((.seq ((.seq (.ops [⟨some 13, .mov (.t 4), none⟩, ⟨some 14, .un .not (.t 13), none⟩]) ((.cond (.t 14) (.ops [⟨some 15, .mov (.t 2), none⟩, ⟨none, .panic (.t 15), none⟩]) (.skip))))) (.opsD [(⟨some 16, .fieldAddr (.t 3) 0 ⟨2, true⟩, none⟩, false, []), (⟨some 17, .load false (some 3) ⟨2, true⟩ (.t 16), none⟩, false, []), (⟨some 18, .buildSlice (.agg [(.i .i64 0), (.i .i64 0)]) 1 [(0, (.t 17))], none⟩, false, []), (⟨none, .store none ⟨1, false⟩ (.t 0) (.c .nil), none⟩, true, []), (⟨none, .store none ⟨1, false⟩ (.t 1) (.mv 18), none⟩, true, [])]))))) (.skip)))))), none, (some 5)⟩
def f_scan_scanner_next : Fn := ⟨1, [(.cell 2 ⟨5, true⟩)], true, (.seq (.ops [⟨some 2, .alloc true [(.i .i64 0), (.i .i64 0), (.i .i64 0), (.s []), (.i .i32 0)], none⟩]) ((.seq (.ops [⟨some 5, .mov (.t 0), none⟩,
 ⟨some 6, .call (.f 40) [.t 5], none⟩]) ((.seq (.ops [⟨some 7, .mov (.t 0), none⟩,
 ⟨some 8, .nilCheck (.t 7), none⟩,
 ⟨some 9, .fieldAddr (.t 8) 1 ⟨1, false⟩, none⟩,
 ⟨some 10, .load false none ⟨1, false⟩ (.t 9), none⟩,
 ⟨some 3, .mov (.t 10), none⟩]) ((.seq (.ops [⟨some 4, .alloc true [(.i .i64 0), (.i .i64 0), (.i .i64 0), (.s []), (.i .i32 0)], none⟩]) ((.seq ((.block 0 [0, 2, 3, 4] ((.seq (.opsD [(⟨some 14, .mov (.t 0), none⟩, false, []), (⟨some 15, .nilCheck (.t 14), none⟩, false, []), (⟨some 16, .fieldAddr (.t 15) 1 ⟨1, false⟩, none⟩, false, []), (⟨some 17, .load false none ⟨1, false⟩ (.t 16), none⟩, false, []), (⟨some 18, .mov (.t 0), none⟩, false, []), (⟨some 19, .nilCheck (.t 18), none⟩, false, []), (⟨some 20, .fieldAddr (.t 19) 0 ⟨1, false⟩, none⟩, false, []), (⟨some 21, .load false none ⟨1, false⟩ (.t 20), none⟩, false, []), (⟨some 22, .bi .lenS [.t 21], none⟩, false, []), (⟨some 23, .bin .eql .num (.t 17) (.t 22), none⟩, true, []), (⟨some 13, .mov (.t 23), none⟩, true, [])]) ((.cond (.t 13) (.ops [⟨some 24, .build [(.i .i64 0), (.i .i64 0), (.i .i64 0), (.s []), (.i .i32 0)] [(0, 1, (.c (.i .i64 0)))], none⟩,
 ⟨none, .store (some 4) ⟨5, true⟩ (.t 4) (.t 24), none⟩]) ((.seq (.opsD [(⟨some 26, .mov (.t 0), none⟩, false, []), (⟨some 27, .nilCheck (.t 26), none⟩, false, []), (⟨some 28, .fieldAddr (.t 27) 0 ⟨1, false⟩, none⟩, false, []), (⟨some 29, .load false none ⟨1, false⟩ (.t 28), none⟩, false, []), (⟨some 30, .mov (.t 0), none⟩, false, []), (⟨some 31, .nilCheck (.t 30), none⟩, false, []), (⟨some 32, .fieldAddr (.t 31) 1 ⟨1, false⟩, none⟩, false, []), (⟨some 33, .load false none ⟨1, false⟩ (.t 32), none⟩, false, []), (⟨some 34, .index (.t 29) (.t 33), none⟩, true, []), (⟨some 35, .call (.f 41) [.t 34], none⟩, true, []), (⟨some 25, .mov (.mv 35), none⟩, true, [])]) ((.cond (.t 25) (.ops [⟨some 36, .mov (.t 0), none⟩,
 ⟨some 37, .call (.f 42) [.t 36], none⟩,
 ⟨none, .store (some 4) ⟨5, true⟩ (.t 4) (.mv 37), none⟩]) ((.seq (.opsD [(⟨some 39, .mov (.t 0), none⟩, false, []), (⟨some 40, .nilCheck (.t 39), none⟩, false, []), (⟨some 41, .fieldAddr (.t 40) 0 ⟨1, false⟩, none⟩, false, []), (⟨some 42, .load false none ⟨1, false⟩ (.t 41), none⟩, false, []), (⟨some 43, .mov (.t 0), none⟩, false, []), (⟨some 44, .nilCheck (.t 43), none⟩, false, []), (⟨some 45, .fieldAddr (.t 44) 1 ⟨1, false⟩, none⟩, false, []), (⟨some 46, .load false none ⟨1, false⟩ (.t 45), none⟩, false, []), (⟨some 47, .index (.t 42) (.t 46), none⟩, true, []), (⟨some 48, .call (.f 43) [.t 47], none⟩, true, []), (⟨some 38, .mov (.mv 48), none⟩, true, [])]) ((.cond (.t 38) (.ops [⟨some 49, .mov (.t 0), none⟩,
 ⟨some 50, .call (.f 44) [.t 49], none⟩,
 ⟨none, .store (some 4) ⟨5, true⟩ (.t 4) (.mv 50), none⟩]) ((.seq (.ops [⟨some 52, .mov (.t 0), none⟩,
 ⟨some 53, .call (.f 45) [.t 52, (.c (.s [34]))], none⟩,
 ⟨some 51, .mov (.mv 53), none⟩]) ((.cond (.t 51) (.ops [⟨some 54, .mov (.t 0), none⟩,
 ⟨some 55, .call (.f 46) [.t 54], none⟩,
 ⟨none, .store (some 4) ⟨5, true⟩ (.t 4) (.mv 55), none⟩]) (.ops [⟨some 11, .mov (.t 0), none⟩,
 ⟨some 12, .call (.f 47) [.t 11], none⟩,
 ⟨none, .store (some 4) ⟨5, true⟩ (.t 4) (.mv 12), none⟩]))))))))))))))))))) ((.seq (.opsD [(⟨some 56, .mov (.t 3), none⟩, false, []), (⟨some 57, .mov (.t 0), none⟩, false, []), (⟨some 58, .nilCheck (.t 57), none⟩, false, []), (⟨some 59, .fieldAddr (.t 58) 1 ⟨1, false⟩, none⟩, false, []), (⟨some 60, .load false none ⟨1, false⟩ (.t 59), none⟩, false, []), (⟨some 61, .fieldAddr (.t 4) 1 ⟨1, false⟩, none⟩, false, []), (⟨none, .store (some 4) ⟨1, false⟩ (.t 61) (.t 56), none⟩, false, []), (⟨some 62, .fieldAddr (.t 4) 2 ⟨1, false⟩, none⟩, true, []), (⟨none, .store (some 4) ⟨1, false⟩ (.t 62) (.t 60), none⟩, true, [])]) ((.seq (.ops [⟨some 63, .load false (some 4) ⟨5, true⟩ (.t 4), none⟩,
 ⟨none, .store (some 2) ⟨5, true⟩ (.t 2) (.t 63), none⟩]) (.ret)))))))))))))), none, none⟩
def qez : C := (.seq ((.seq (.ops [⟨some 13, .mov (.t 6), none⟩, ⟨some 14, .mov (.t 0), none⟩, ⟨some 15, .bi .lenS [.t 14], none⟩, ⟨some 16, .bin .lss .num (.t 13) (.t 15), none⟩]) ((.cond (.t 16) (.skip) (.exit 0))))) ((.seq ((.block 1 [0, 3, 4, 5, 6] ((.seq (.ops [⟨some 19, .mov (.t 0), none⟩, ⟨some 20, .mov (.t 6), none⟩, ⟨some 21, .index (.t 19) (.t 20), none⟩, ⟨some 7, .mov (.t 21), none⟩]) ((.seq (.ops [⟨some 22, .mov (.t 5), none⟩, ⟨some 23, .mov (.t 7), none⟩, ⟨some 24, .bin .or .num (.t 22) (.t 23), none⟩, ⟨some 5, .mov (.t 24), none⟩]) ((.seq (.ops [⟨some 25, .mov (.t 7), none⟩, ⟨some 26, .indexAddr (.g 0 (glD 0)) (.t 25) 1 (some 256), none⟩, ⟨some 27, .load false none ⟨1, false⟩ (.t 26), none⟩, ⟨some 28, .conv .i64 (.t 27), none⟩, ⟨some 8, .mov (.mv 28), none⟩]) ((.seq (.ops [⟨some 29, .mov (.t 3), none⟩, ⟨some 30, .mov (.t 4), none⟩, ⟨some 31, .mov (.t 8), none⟩, ⟨some 32, .un .xor (.t 31), none⟩, ⟨some 33, .bin .and .num (.t 30) (.t 32), none⟩, ⟨some 34, .bin .add .num (.t 29) (.t 33), none⟩, ⟨some 3, .mov (.t 34), none⟩]) (.ops [⟨some 35, .mov (.t 8), none⟩, ⟨some 4, .mov (.t 35), none⟩]))))))))))) (.ops [⟨some 17, .mov (.t 6), none⟩, ⟨some 18, .bin .add .num (.t 17) (.c (.i .i64 1)), none⟩, ⟨some 6, .mov (.t 18), none⟩]))))
def qa4 : C := .loop [0, 3, 4, 5, 6] qez
noncomputable def qc6 (pg : Pg) (v0 v3 v4 v5 v6 : V) (H : List Obj) (lo : Nat) : Option (Ex × St) := exL pg qa4 ⟨[(0, v0), (3, v3), (4, v4), (5, v5), (6, v6)], H, lo⟩
theorem qmB {pg : Pg} {e : Env} {H : List Obj} {lo : Nat} : exL pg qa4 ⟨e, H, lo⟩ = qc6 pg (kA (get 0 e)) (kA (get 3 e)) (kA (get 4 e)) (kA (get 5 e)) (kA (get 6 e)) H lo := qaz
theorem ql4 {pg : Pg} {v0 v3 v4 v5 v6 : V} {H : List Obj} {lo : Nat} : qc6 pg v0 v3 v4 v5 v6 H lo = yO pg (exL pg qez ⟨[(0, kA v0), (3, kA v3), (4, kA v4), (5, kA v5), (6, kA v6)], H, lo⟩) qa4 := by
  unfold qc6 qa4; rw [yr]; simp only [ql, qn, qD, qF, Nat.reduceEqDiff]
def qew : C := (.seq ((.seq (.ops [⟨some 42, .mov (.t 12), none⟩, ⟨some 43, .mov (.t 0), none⟩, ⟨some 44, .bi .lenS [.t 43], none⟩, ⟨some 45, .bin .lss .num (.t 42) (.t 44), none⟩, ⟨some 46, .mov (.t 45), none⟩, ⟨some 47, .mov (.t 0), some (46, true)⟩, ⟨some 48, .mov (.t 12), some (46, true)⟩, ⟨some 49, .index (.t 47) (.t 48), some (46, true)⟩, ⟨some 50, .indexAddr (.g 0 (glD 0)) (.t 49) 1 (some 256), some (46, true)⟩, ⟨some 51, .load false none ⟨1, false⟩ (.t 50), some (46, true)⟩, ⟨some 52, .bin .neq .num (.t 51) (.c (.i .u8 0)), some (46, true)⟩, ⟨some 53, .pick (.t 46) (.t 52) (.c (.b false)), none⟩]) ((.cond (.t 53) (.skip) (.exit 2))))) ((.block 3 [0, 9, 10, 12] (.ops [⟨some 54, .mov (.t 12), none⟩, ⟨some 55, .bin .add .num (.t 54) (.c (.i .i64 1)), none⟩, ⟨some 12, .mov (.t 55), none⟩]))))
def qbb : C := .loop [0, 9, 10, 12] qew
noncomputable def qc1 (pg : Pg) (v0 v9 v10 v12 : V) (H : List Obj) (lo : Nat) : Option (Ex × St) := exL pg qbb ⟨[(0, v0), (9, v9), (10, v10), (12, v12)], H, lo⟩
theorem qlZ {pg : Pg} {e : Env} {H : List Obj} {lo : Nat} : exL pg qbb ⟨e, H, lo⟩ = qc1 pg (kA (get 0 e)) (kA (get 9 e)) (kA (get 10 e)) (kA (get 12 e)) H lo := qaz
theorem qmn {pg : Pg} {v0 v9 v10 v12 : V} {H : List Obj} {lo : Nat} : qc1 pg v0 v9 v10 v12 H lo = yO pg (exL pg qew ⟨[(0, kA v0), (9, kA v9), (10, kA v10), (12, kA v12)], H, lo⟩) qbb := by
  unfold qc1 qbb; rw [yr]; simp only [ql, qn, qD, qF, Nat.reduceEqDiff]
def qeA : C := (.seq ((.seq (.ops [⟨some 80, .mov (.t 12), none⟩, ⟨some 81, .mov (.t 0), none⟩, ⟨some 82, .bi .lenS [.t 81], none⟩, ⟨some 83, .bin .lss .num (.t 80) (.t 82), none⟩, ⟨some 84, .mov (.t 83), none⟩, ⟨some 85, .mov (.t 0), some (84, true)⟩, ⟨some 86, .mov (.t 12), some (84, true)⟩, ⟨some 87, .index (.t 85) (.t 86), some (84, true)⟩, ⟨some 88, .indexAddr (.g 0 (glD 0)) (.t 87) 1 (some 256), some (84, true)⟩, ⟨some 89, .load false none ⟨1, false⟩ (.t 88), some (84, true)⟩, ⟨some 90, .bin .neq .num (.t 89) (.c (.i .u8 0)), some (84, true)⟩, ⟨some 91, .pick (.t 84) (.t 90) (.c (.b false)), none⟩]) ((.cond (.t 91) (.skip) (.exit 6))))) ((.block 7 [0, 9, 10, 12] (.ops [⟨some 92, .mov (.t 12), none⟩, ⟨some 93, .bin .add .num (.t 92) (.c (.i .i64 1)), none⟩, ⟨some 12, .mov (.t 93), none⟩]))))
def qba : C := .loop [0, 9, 10, 12] qeA
noncomputable def qc3 (pg : Pg) (v0 v9 v10 v12 : V) (H : List Obj) (lo : Nat) : Option (Ex × St) := exL pg qba ⟨[(0, v0), (9, v9), (10, v10), (12, v12)], H, lo⟩
theorem qlT {pg : Pg} {e : Env} {H : List Obj} {lo : Nat} : exL pg qba ⟨e, H, lo⟩ = qc3 pg (kA (get 0 e)) (kA (get 9 e)) (kA (get 10 e)) (kA (get 12 e)) H lo := qaz
theorem qlQ {pg : Pg} {v0 v9 v10 v12 : V} {H : List Obj} {lo : Nat} : qc3 pg v0 v9 v10 v12 H lo = yO pg (exL pg qeA ⟨[(0, kA v0), (9, kA v9), (10, kA v10), (12, kA v12)], H, lo⟩) qba := by
  unfold qc3 qba; rw [yr]; simp only [ql, qn, qD, qF, Nat.reduceEqDiff]
def qhf : C := .ops [⟨some 94, .mov (.t 12), none⟩, ⟨some 11, .mov (.t 94), none⟩]
def qeB : C := (.seq ((.seq (.ops [⟨some 57, .mov (.t 12), none⟩, ⟨some 58, .mov (.t 0), none⟩, ⟨some 59, .bi .lenS [.t 58], none⟩, ⟨some 60, .bin .lss .num (.t 57) (.t 59), none⟩]) ((.cond (.t 60) (.skip) (.exit 4))))) ((.block 5 [0, 9, 10, 11, 12] ((.seq ((.seq (.ops [⟨some 61, .mov (.t 0), none⟩, ⟨some 62, .mov (.t 12), none⟩, ⟨some 63, .index (.t 61) (.t 62), none⟩, ⟨some 64, .indexAddr (.g 0 (glD 0)) (.t 63) 1 (some 256), none⟩, ⟨some 65, .load false none ⟨1, false⟩ (.t 64), none⟩, ⟨some 66, .bin .eql .num (.t 65) (.c (.i .u8 0)), none⟩]) ((.cond (.t 66) ((.seq (.ops [⟨some 67, .mov (.t 12), none⟩, ⟨some 68, .bin .add .num (.t 67) (.c (.i .i64 1)), none⟩, ⟨some 12, .mov (.t 68), none⟩]) (.exit 5))) (.skip))))) ((.seq (.ops [⟨some 69, .mov (.t 9), none⟩, ⟨some 70, .mov (.t 10), none⟩, ⟨some 71, .mov (.t 0), none⟩, ⟨some 72, .mov (.t 11), none⟩, ⟨some 73, .mov (.t 12), none⟩, ⟨some 74, .sliceS (.t 71) (some (.t 72)) (some (.t 73)), none⟩, ⟨some 75, .indexAddr (.t 69) (.t 70) 1 none, none⟩, ⟨none, .store none ⟨1, false⟩ (.t 75) (.t 74), none⟩]) ((.seq (.ops [⟨some 76, .mov (.t 10), none⟩, ⟨some 77, .bin .add .num (.t 76) (.c (.i .i64 1)), none⟩, ⟨some 10, .mov (.t 77), none⟩]) ((.seq (.ops [⟨some 78, .mov (.t 12), none⟩, ⟨some 79, .bin .add .num (.t 78) (.c (.i .i64 1)), none⟩, ⟨some 12, .mov (.t 79), none⟩]) ((.seq ((.block 6 [0, 9, 10, 12] (qba))) (qhf))))))))))))))
def qa9 : C := .loop [0, 9, 10, 11, 12] qeB
noncomputable def qc2 (pg : Pg) (v0 v9 v10 v11 v12 : V) (H : List Obj) (lo : Nat) : Option (Ex × St) := exL pg qa9 ⟨[(0, v0), (9, v9), (10, v10), (11, v11), (12, v12)], H, lo⟩
theorem qmv {pg : Pg} {e : Env} {H : List Obj} {lo : Nat} : exL pg qa9 ⟨e, H, lo⟩ = qc2 pg (kA (get 0 e)) (kA (get 9 e)) (kA (get 10 e)) (kA (get 11 e)) (kA (get 12 e)) H lo := qaz
theorem ql5 {pg : Pg} {v0 v9 v10 v11 v12 : V} {H : List Obj} {lo : Nat} : qc2 pg v0 v9 v10 v11 v12 H lo = yO pg (exL pg qeB ⟨[(0, kA v0), (9, kA v9), (10, kA v10), (11, kA v11), (12, kA v12)], H, lo⟩) qa9 := by
  unfold qc2 qa9; rw [yr]; simp only [ql, qn, qD, qF, Nat.reduceEqDiff]
def qhj : C := (.seq ((.seq (.ops [⟨some 95, .mov (.t 11), none⟩, ⟨some 96, .mov (.t 0), none⟩, ⟨some 97, .bi .lenS [.t 96], none⟩, ⟨some 98, .bin .lss .num (.t 95) (.t 97), none⟩]) ((.cond (.t 98) (.ops [⟨some 99, .mov (.t 9), none⟩, ⟨some 100, .mov (.t 10), none⟩, ⟨some 101, .mov (.t 0), none⟩, ⟨some 102, .mov (.t 11), none⟩, ⟨some 103, .sliceS (.t 101) (some (.t 102)) none, none⟩, ⟨some 104, .indexAddr (.t 99) (.t 100) 1 none, none⟩, ⟨none, .store none ⟨1, false⟩ (.t 104) (.t 103), none⟩]) (.skip))))) ((.seq (.ops [⟨some 105, .mov (.t 9), none⟩, ⟨some 2, .mov (.t 105), none⟩]) (.ret))))
def qhg : C := (.seq (.ops [⟨some 56, .mov (.t 12), none⟩, ⟨some 11, .mov (.t 56), none⟩]) ((.seq ((.block 4 [0, 9, 10, 11] (qa9))) (qhj))))
def qhh : C := (.seq ((.seq (.ops [⟨some 36, .mov (.t 5), none⟩, ⟨some 37, .bin .geq .num (.t 36) (.c (.i .u8 128)), none⟩]) ((.cond (.t 37) ((.seq (.ops [⟨some 38, .mov (.mv 0), none⟩, ⟨some 39, .call (.f 48) [.mv 38, (.f 49)], none⟩, ⟨some 2, .mov (.mv 39), none⟩]) (.ret))) (.skip))))) ((.seq (.ops [⟨some 40, .mov (.t 3), none⟩, ⟨some 41, .mkSlice (.s []) (.t 40) (.t 40), none⟩, ⟨some 9, .mov (.mv 41), none⟩]) ((.seq (.ops [⟨some 10, .mov (.c (.i .i64 0)), none⟩]) ((.seq (.ops [⟨some 11, .mov (.c (.i .i64 0)), none⟩]) ((.seq (.ops [⟨some 12, .mov (.c (.i .i64 0)), none⟩]) ((.seq ((.block 2 [0, 9, 10, 12] (qbb))) (qhg))))))))))))
def qfH : Fn := ⟨1, [.t 2], true, (.seq (.ops [⟨some 2, .mov (.c .nil), none⟩]) ((.seq (.ops [⟨some 3, .mov (.c (.i .i64 0)), none⟩]) ((.seq (.ops [⟨some 4, .mov (.c (.i .i64 1)), none⟩]) ((.seq (.ops [⟨some 5, .mov (.c (.i .u8 0)), none⟩]) ((.seq ((.seq (.ops [⟨some 6, .mov (.c (.i .i64 0)), none⟩]) ((.block 0 [0, 3, 5] (qa4))))) (qhh)))))))))), none, none⟩
def yS : Fn := ⟨2, [.t 4], true, (.seq (.ops [⟨some 4, .mov (.c (.i .i64 0)), none⟩]) ((.seq ((.seq (.opsD [(⟨some 6, .mov (.t 0), none⟩, false, []), (⟨some 7, .nilCheck (.t 6), none⟩, false, []), (⟨some 8, .fieldAddr (.t 7) 1 ⟨1, false⟩, none⟩, false, []), (⟨some 9, .load false none ⟨1, false⟩ (.t 8), none⟩, false, []), (⟨some 10, .mov (.t 0), none⟩, false, []), (⟨some 11, .nilCheck (.t 10), none⟩, false, []), (⟨some 12, .fieldAddr (.t 11) 0 ⟨1, false⟩, none⟩, false, []), (⟨some 13, .load false none ⟨1, false⟩ (.t 12), none⟩, false, []), (⟨some 14, .bi .lenL [.t 13], none⟩, false, []), (⟨some 15, .bin .geq .num (.t 9) (.t 14), none⟩, true, [])]) ((.cond (.t 15) ((.seq (.ops [⟨some 4, .mov (.c (.i .i64 0)), none⟩]) (.ret))) (.skip))))) ((.seq (.opsD [(⟨some 16, .mov (.t 0), none⟩, false, []), (⟨some 17, .nilCheck (.t 16), none⟩, false, []), (⟨some 18, .fieldAddr (.t 17) 0 ⟨1, false⟩, none⟩, false, []), (⟨some 19, .load false none ⟨1, false⟩ (.t 18), none⟩, false, []), (⟨some 20, .mov (.t 0), none⟩, false, []), (⟨some 21, .nilCheck (.t 20), none⟩, false, []), (⟨some 22, .fieldAddr (.t 21) 1 ⟨1, false⟩, none⟩, false, []), (⟨some 23, .load false none ⟨1, false⟩ (.t 22), none⟩, false, []), (⟨some 24, .indexAddr (.t 19) (.t 23) 1 none, none⟩, false, []), (⟨some 25, .load false none ⟨1, false⟩ (.t 24), none⟩, false, []), (⟨some 26, .conv .i64 (.t 25), none⟩, false, []), (⟨some 27, .mov (.t 1), none⟩, false, []), (⟨some 28, .bin .rem .num (.t 26) (.t 27), none⟩, true, []), (⟨some 5, .mov (.t 28), none⟩, true, [])]) ((.seq (.ops [⟨some 29, .mov (.t 0), none⟩,
 ⟨some 30, .nilCheck (.t 29), none⟩,
 ⟨some 31, .fieldAddr (.t 30) 1 ⟨1, false⟩, none⟩,
 ⟨some 32, .load false none ⟨1, false⟩ (.t 31), none⟩,
 ⟨some 33, .bin .add .num (.t 32) (.c (.i .i64 1)), none⟩,
 ⟨some 34, .nilCheck (.t 29), none⟩,
 ⟨some 35, .fieldAddr (.t 34) 1 ⟨1, false⟩, none⟩,
 ⟨none, .store none ⟨1, false⟩ (.t 35) (.t 33), none⟩]) ((.seq (.ops [⟨some 36, .mov (.t 5), none⟩,
 ⟨some 4, .mov (.t 36), none⟩]) (.ret)))))))))), none, none⟩
def ku : Fn := ⟨1, [.t 2], true, (.seq (.ops [⟨some 2, .mov (.c (.s [])), none⟩]) ((.seq ((.seq (.ops [⟨some 4, .mov (.t 0), none⟩,
 ⟨some 5, .nilCheck (.t 4), none⟩,
 ⟨some 6, .fieldAddr (.t 5) 2 ⟨1, false⟩, none⟩,
 ⟨some 7, .load false none ⟨1, false⟩ (.t 6), none⟩,
 ⟨some 8, .bin .leq .num (.t 7) (.c (.i .i64 0)), none⟩]) ((.cond (.t 8) ((.seq (.ops [⟨some 9, .mov (.mv 0), none⟩,
 ⟨some 10, .call (.f 54) [.mv 9], none⟩,
 ⟨some 2, .mov (.mv 10), none⟩]) (.ret))) (.skip))))) ((.seq (.ops [⟨some 11, .mov (.t 0), none⟩,
 ⟨some 12, .nilCheck (.t 11), none⟩,
 ⟨some 13, .fieldAddr (.t 12) 2 ⟨1, false⟩, none⟩,
 ⟨some 14, .load false none ⟨1, false⟩ (.t 13), none⟩,
 ⟨some 15, .bin .sub .num (.t 14) (.c (.i .i64 1)), none⟩,
 ⟨some 16, .nilCheck (.t 11), none⟩,
 ⟨some 17, .fieldAddr (.t 16) 2 ⟨1, false⟩, none⟩,
 ⟨none, .store none ⟨1, false⟩ (.t 17) (.t 15), none⟩]) ((.seq (.ops [⟨some 3, .mov (.c (.s [])), none⟩]) ((.seq ((.seq (.ops [⟨some 18, .mov (.t 0), none⟩,
 ⟨some 19, .call (.f 32) [.t 18, (.c (.i .i64 16))], none⟩]) ((.block 0 [0, 3] ((.seq (.ops [⟨some 23, .bin .eql .num (.t 19) (.c (.i .i64 0)), none⟩,
 ⟨some 22, .mov (.t 23), none⟩]) ((.cond (.t 22) (.ops [⟨some 24, .mov (.t 0), none⟩,
 ⟨some 25, .call (.f 55) [.t 24], none⟩,
 ⟨some 26, .bin .add .num (.c (.s [73, 70, 32])) (.t 25), none⟩,
 ⟨some 27, .bin .add .num (.t 26) (.c (.s [32, 84, 72, 69, 78, 32])), none⟩,
 ⟨some 28, .mov (.t 0), none⟩,
 ⟨some 29, .call (.f 23) [.t 28, (.c (.i .i64 3))], none⟩,
 ⟨some 30, .bin .add .num (.t 27) (.t 29), none⟩,
 ⟨some 31, .bin .add .num (.t 30) (.c (.s [32, 69, 78, 68])), none⟩,
 ⟨some 3, .mov (.t 31), none⟩]) ((.seq (.ops [⟨some 33, .bin .eql .num (.t 19) (.c (.i .i64 1)), none⟩,
 ⟨some 32, .mov (.t 33), none⟩]) ((.cond (.t 32) (.ops [⟨some 34, .mov (.t 0), none⟩,
 ⟨some 35, .call (.f 55) [.t 34], none⟩,
 ⟨some 36, .bin .add .num (.c (.s [73, 70, 32])) (.t 35), none⟩,
 ⟨some 37, .bin .add .num (.t 36) (.c (.s [32, 84, 72, 69, 78, 32])), none⟩,
 ⟨some 38, .mov (.t 0), none⟩,
 ⟨some 39, .call (.f 23) [.t 38, (.c (.i .i64 2))], none⟩,
 ⟨some 40, .bin .add .num (.t 37) (.t 39), none⟩,
 ⟨some 41, .bin .add .num (.t 40) (.c (.s [32, 69, 76, 83, 73, 70, 32])), none⟩,
 ⟨some 42, .mov (.t 0), none⟩,
 ⟨some 43, .call (.f 55) [.t 42], none⟩,
 ⟨some 44, .bin .add .num (.t 41) (.t 43), none⟩,
 ⟨some 45, .bin .add .num (.t 44) (.c (.s [32, 84, 72, 69, 78, 32])), none⟩,
 ⟨some 46, .mov (.t 0), none⟩,
 ⟨some 47, .call (.f 23) [.t 46, (.c (.i .i64 2))], none⟩,
 ⟨some 48, .bin .add .num (.t 45) (.t 47), none⟩,
 ⟨some 49, .bin .add .num (.t 48) (.c (.s [32, 69, 76, 83, 69, 32])), none⟩,
 ⟨some 50, .mov (.t 0), none⟩,
 ⟨some 51, .call (.f 23) [.t 50, (.c (.i .i64 2))], none⟩,
 ⟨some 52, .bin .add .num (.t 49) (.t 51), none⟩,
 ⟨some 53, .bin .add .num (.t 52) (.c (.s [32, 69, 78, 68])), none⟩,
 ⟨some 3, .mov (.t 53), none⟩]) ((.seq (.ops [⟨some 55, .bin .eql .num (.t 19) (.c (.i .i64 2)), none⟩,
 ⟨some 54, .mov (.t 55), none⟩]) ((.cond (.t 54) (.ops [⟨some 56, .mov (.t 0), none⟩,
 ⟨some 57, .call (.f 55) [.t 56], none⟩,
 ⟨some 58, .bin .add .num (.c (.s [87, 72, 73, 76, 69, 32, 40])) (.t 57), none⟩,
 ⟨some 59, .bin .add .num (.t 58) (.c (.s [41, 32, 38, 32, 40, 110, 32, 62, 32, 48, 41, 32, 68, 79, 32, 68, 69, 67, 40, 110, 41, 59, 32])), none⟩,
 ⟨some 60, .mov (.t 0), none⟩,
 ⟨some 61, .call (.f 23) [.t 60, (.c (.i .i64 2))], none⟩,
 ⟨some 62, .bin .add .num (.t 59) (.t 61), none⟩,
 ⟨some 63, .bin .add .num (.t 62) (.c (.s [32, 69, 78, 68])), none⟩,
 ⟨some 3, .mov (.t 63), none⟩]) ((.seq (.ops [⟨some 65, .bin .eql .num (.t 19) (.c (.i .i64 3)), none⟩,
 ⟨some 64, .mov (.t 65), none⟩]) ((.cond (.t 64) (.ops [⟨some 66, .mov (.t 0), none⟩,
 ⟨some 67, .call (.f 23) [.t 66, (.c (.i .i64 2))], none⟩,
 ⟨some 68, .bin .add .num (.c (.s [82, 69, 80, 69, 65, 84, 32, 73, 78, 67, 40, 106, 41, 59, 32])) (.t 67), none⟩,
 ⟨some 69, .bin .add .num (.t 68) (.c (.s [32, 85, 78, 84, 73, 76, 32, 40, 106, 32, 62, 32, 53, 41, 32, 79, 82, 32, 40])), none⟩,
 ⟨some 70, .mov (.t 0), none⟩,
 ⟨some 71, .call (.f 55) [.t 70], none⟩,
 ⟨some 72, .bin .add .num (.t 69) (.t 71), none⟩,
 ⟨some 73, .bin .add .num (.t 72) (.c (.s [41])), none⟩,
 ⟨some 3, .mov (.t 73), none⟩]) ((.seq (.ops [⟨some 75, .bin .eql .num (.t 19) (.c (.i .i64 4)), none⟩,
 ⟨some 74, .mov (.t 75), none⟩]) ((.cond (.t 74) (.opsD [(⟨some 76, .buildSlice (.s []) 3 [(0, (.c (.s [51]))), (1, (.c (.s [106, 32, 77, 79, 68, 32, 53]))), (2, (.c (.s [53])))], none⟩, false, []), (⟨some 77, .mov (.t 0), none⟩, false, []), (⟨some 78, .call (.f 32) [.t 77, (.c (.i .i64 3))], none⟩, true, []), (⟨some 79, .indexAddr (.t 76) (.t 78) 1 none, none⟩, false, []), (⟨some 80, .loadC ⟨1, false⟩ (.t 79), none⟩, false, []), (⟨some 81, .bin .add .num (.c (.s [70, 79, 82, 32, 105, 32, 58, 61, 32, 48, 32, 84, 79, 32])) (.t 80), none⟩, false, []), (⟨some 82, .bin .add .num (.t 81) (.c (.s [32, 68, 79, 32])), none⟩, false, []), (⟨some 83, .mov (.t 0), none⟩, false, []), (⟨some 84, .call (.f 23) [.t 83, (.c (.i .i64 2))], none⟩, true, []), (⟨some 85, .bin .add .num (.t 82) (.t 84), none⟩, true, []), (⟨some 86, .bin .add .num (.t 85) (.c (.s [32, 69, 78, 68])), none⟩, true, []), (⟨some 3, .mov (.t 86), none⟩, true, [])]) ((.seq (.ops [⟨some 88, .bin .eql .num (.t 19) (.c (.i .i64 5)), none⟩,
 ⟨some 87, .mov (.t 88), none⟩]) ((.cond (.t 87) (.ops [⟨some 89, .mov (.t 0), none⟩,
 ⟨some 90, .call (.f 23) [.t 89, (.c (.i .i64 2))], none⟩,
 ⟨some 91, .bin .add .num (.c (.s [70, 79, 82, 32, 106, 32, 58, 61, 32, 54, 32, 84, 79, 32, 49, 32, 66, 89, 32, 45, 50, 32, 68, 79, 32])) (.t 90), none⟩,
 ⟨some 92, .bin .add .num (.t 91) (.c (.s [32, 69, 78, 68])), none⟩,
 ⟨some 3, .mov (.t 92), none⟩]) ((.seq (.ops [⟨some 94, .bin .eql .num (.t 19) (.c (.i .i64 6)), none⟩,
 ⟨some 93, .mov (.t 94), none⟩]) ((.cond (.t 93) (.ops [⟨some 95, .mov (.t 0), none⟩,
 ⟨some 96, .call (.f 56) [.t 95], none⟩,
 ⟨some 97, .bin .add .num (.c (.s [67, 65, 83, 69, 32])) (.t 96), none⟩,
 ⟨some 98, .bin .add .num (.t 97) (.c (.s [32, 77, 79, 68, 32, 53, 32, 79, 70, 32, 48, 58, 32])), none⟩,
 ⟨some 99, .mov (.t 0), none⟩,
 ⟨some 100, .call (.f 23) [.t 99, (.c (.i .i64 2))], none⟩,
 ⟨some 101, .bin .add .num (.t 98) (.t 100), none⟩,
 ⟨some 102, .bin .add .num (.t 101) (.c (.s [32, 124, 32, 49, 32, 46, 46, 32, 50, 44, 32, 52, 58, 32])), none⟩,
 ⟨some 103, .mov (.t 0), none⟩,
 ⟨some 104, .call (.f 23) [.t 103, (.c (.i .i64 2))], none⟩,
 ⟨some 105, .bin .add .num (.t 102) (.t 104), none⟩,
 ⟨some 106, .bin .add .num (.t 105) (.c (.s [32, 124, 32, 51, 58, 32])), none⟩,
 ⟨some 107, .mov (.t 0), none⟩,
 ⟨some 108, .call (.f 54) [.t 107], none⟩,
 ⟨some 109, .bin .add .num (.t 106) (.t 108), none⟩,
 ⟨some 110, .bin .add .num (.t 109) (.c (.s [32, 69, 78, 68])), none⟩,
 ⟨some 3, .mov (.t 110), none⟩]) ((.seq (.ops [⟨some 112, .bin .eql .num (.t 19) (.c (.i .i64 7)), none⟩,
 ⟨some 111, .mov (.t 112), none⟩]) ((.cond (.t 111) (.ops [⟨some 113, .mov (.t 0), none⟩,
 ⟨some 114, .call (.f 54) [.t 113], none⟩,
 ⟨some 115, .bin .add .num (.c (.s [67, 65, 83, 69, 32, 99, 32, 79, 70, 32, 34, 97, 34, 32, 46, 46, 32, 34, 122, 34, 58, 32])) (.t 114), none⟩,
 ⟨some 116, .bin .add .num (.t 115) (.c (.s [32, 124, 32, 48, 88, 58, 32])), none⟩,
 ⟨some 117, .mov (.t 0), none⟩,
 ⟨some 118, .call (.f 54) [.t 117], none⟩,
 ⟨some 119, .bin .add .num (.t 116) (.t 118), none⟩,
 ⟨some 120, .bin .add .num (.t 119) (.c (.s [32, 124, 32, 34, 48, 34, 58, 32, 99, 32, 58, 61, 32, 34, 113, 34, 32, 69, 78, 68])), none⟩,
 ⟨some 3, .mov (.t 120), none⟩]) ((.seq (.ops [⟨some 122, .bin .eql .num (.t 19) (.c (.i .i64 8)), none⟩,
 ⟨some 121, .mov (.t 122), none⟩]) ((.cond (.t 121) (.ops [⟨some 3, .mov (.c (.s [87, 72, 73, 76, 69, 32, 106, 32, 60, 32, 48, 32, 68, 79, 32, 73, 78, 67, 40, 106, 41, 32, 69, 76, 83, 73, 70, 32, 106, 32, 62, 32, 57, 32, 68, 79, 32, 68, 69, 67, 40, 106, 44, 32, 51, 41, 32, 69, 78, 68])), none⟩]) (.ops [⟨some 20, .mov (.t 0), none⟩,
 ⟨some 21, .call (.f 54) [.t 20], none⟩,
 ⟨some 3, .mov (.mv 21), none⟩]))))))))))))))))))))))))))))))))))))))))) ((.seq (.ops [⟨some 123, .mov (.t 0), none⟩,
 ⟨some 124, .nilCheck (.t 123), none⟩,
 ⟨some 125, .fieldAddr (.t 124) 2 ⟨1, false⟩, none⟩,
 ⟨some 126, .load false none ⟨1, false⟩ (.t 125), none⟩,
 ⟨some 127, .bin .add .num (.t 126) (.c (.i .i64 1)), none⟩,
 ⟨some 128, .nilCheck (.t 123), none⟩,
 ⟨some 129, .fieldAddr (.t 128) 2 ⟨1, false⟩, none⟩,
 ⟨none, .store none ⟨1, false⟩ (.t 129) (.t 127), none⟩]) ((.seq (.ops [⟨some 130, .mov (.t 3), none⟩,
 ⟨some 2, .mov (.t 130), none⟩]) (.ret)))))))))))))), none, none⟩
def qcv : Fn := ⟨1, [.t 2], true, (.seq (.ops [⟨some 2, .mov (.c (.b false)), none⟩]) ((.seq (.ops [⟨some 3, .mov (.t 0), none⟩, ⟨some 4, .bin .eql .num (.t 3) (.c (.i .u8 9)), none⟩, ⟨some 5, .mov (.t 4), none⟩, ⟨some 6, .mov (.t 0), some (5, false)⟩, ⟨some 7, .bin .eql .num (.t 6) (.c (.i .u8 10)), some (5, false)⟩, ⟨some 8, .pick (.t 5) (.c (.b true)) (.t 7), none⟩, ⟨some 9, .mov (.t 8), none⟩, ⟨some 10, .mov (.t 0), some (9, false)⟩, ⟨some 11, .bin .eql .num (.t 10) (.c (.i .u8 13)), some (9, false)⟩, ⟨some 12, .pick (.t 9) (.c (.b true)) (.t 11), none⟩, ⟨some 13, .mov (.t 12), none⟩, ⟨some 14, .mov (.t 0), some (13, false)⟩, ⟨some 15, .bin .eql .num (.t 14) (.c (.i .u8 32)), some (13, false)⟩, ⟨some 16, .pick (.t 13) (.c (.b true)) (.t 15), none⟩, ⟨some 2, .mov (.t 16), none⟩]) (.ret)))), none, none⟩
def qca : Fn := ⟨1, [.t 2], true, (.seq (.ops [⟨some 2, .mov (.c (.b false)), none⟩]) ((.seq (.ops [⟨some 3, .mov (.t 0), none⟩, ⟨some 4, .bin .geq .num (.t 3) (.c (.i .u8 97)), none⟩, ⟨some 5, .mov (.t 4), none⟩, ⟨some 6, .mov (.t 0), some (5, true)⟩, ⟨some 7, .bin .leq .num (.t 6) (.c (.i .u8 122)), some (5, true)⟩, ⟨some 8, .pick (.t 5) (.t 7) (.c (.b false)), none⟩, ⟨some 9, .mov (.t 8), none⟩, ⟨some 10, .mov (.t 0), some (9, false)⟩, ⟨some 11, .bin .geq .num (.t 10) (.c (.i .u8 65)), some (9, false)⟩, ⟨some 12, .mov (.t 11), some (9, false)⟩, ⟨some 13, .mov (.t 0), some (12, true)⟩, ⟨some 14, .bin .leq .num (.t 13) (.c (.i .u8 90)), some (12, true)⟩, ⟨some 15, .pick (.t 12) (.t 14) (.c (.b false)), some (9, false)⟩, ⟨some 16, .pick (.t 9) (.c (.b true)) (.t 15), none⟩, ⟨some 2, .mov (.t 16), none⟩]) (.ret)))), none, none⟩
def qcw : Fn := ⟨1, [.t 2], true, (.seq (.ops [⟨some 2, .mov (.c (.b false)), none⟩]) ((.seq (.ops [⟨some 3, .mov (.t 0), none⟩, ⟨some 4, .bin .geq .num (.t 3) (.c (.i .u8 48)), none⟩, ⟨some 5, .mov (.t 4), none⟩, ⟨some 6, .mov (.t 0), some (5, true)⟩, ⟨some 7, .bin .leq .num (.t 6) (.c (.i .u8 57)), some (5, true)⟩, ⟨some 8, .pick (.t 5) (.t 7) (.c (.b false)), none⟩, ⟨some 2, .mov (.t 8), none⟩]) (.ret)))), none, none⟩
def yF : C := (.seq ((.seq (.ops [⟨some 13, .mov (.t 6), none⟩, ⟨some 14, .mov (.t 0), none⟩, ⟨some 15, .bi .lenS [.t 14], none⟩, ⟨some 16, .bin .lss .num (.t 13) (.t 15), none⟩, ⟨some 17, .mov (.t 16), none⟩, ⟨some 18, .mov (.t 0), some (17, true)⟩, ⟨some 19, .mov (.t 6), some (17, true)⟩, ⟨some 20, .index (.t 18) (.t 19), some (17, true)⟩, ⟨some 21, .call (.f 57) [.t 20], some (17, true)⟩, ⟨some 22, .bin .geq .num (.t 21) (.c (.i .i64 0)), some (17, true)⟩, ⟨some 23, .pick (.t 17) (.t 22) (.c (.b false)), none⟩]) ((.cond (.t 23) (.skip) (.exit 0))))) ((.block 1 [0, 1, 4, 6, 7, 8, 9] ((.seq (.ops [⟨some 24, .mov (.t 0), none⟩, ⟨some 25, .mov (.t 6), none⟩, ⟨some 26, .index (.t 24) (.t 25), none⟩, ⟨some 27, .call (.f 57) [.t 26], none⟩, ⟨some 28, .conv .u64 (.t 27), none⟩, ⟨some 10, .mov (.mv 28), none⟩]) ((.seq (.ops [⟨some 29, .mov (.t 7), none⟩, ⟨some 30, .mov (.t 29), none⟩, ⟨some 31, .mov (.t 10), some (30, true)⟩, ⟨some 32, .bin .lss .num (.t 31) (.c (.i .u64 10)), some (30, true)⟩, ⟨some 33, .pick (.t 30) (.t 32) (.c (.b false)), none⟩, ⟨some 7, .mov (.t 33), none⟩]) ((.seq (.ops [⟨some 34, .mov (.t 8), none⟩, ⟨some 35, .bin .mul .num (.c (.i .u64 16)) (.t 34), none⟩, ⟨some 36, .mov (.t 10), none⟩, ⟨some 37, .bin .add .num (.t 35) (.t 36), none⟩, ⟨some 38, .bi .min [.t 37, (.c (.i .u64 1099511627776))], none⟩, ⟨some 8, .mov (.t 38), none⟩]) ((.seq (.ops [⟨some 39, .mov (.t 9), none⟩, ⟨some 40, .bin .mul .num (.c (.i .u64 10)) (.t 39), none⟩, ⟨some 41, .mov (.t 10), none⟩, ⟨some 42, .bin .add .num (.t 40) (.t 41), none⟩, ⟨some 43, .bi .min [.t 42, (.c (.i .u64 1099511627776))], none⟩, ⟨some 9, .mov (.t 43), none⟩]) (.ops [⟨some 44, .mov (.t 6), none⟩, ⟨some 45, .bin .add .num (.t 44) (.c (.i .i64 1)), none⟩, ⟨some 6, .mov (.t 45), none⟩]))))))))))))
def qah : C := .loop [0, 1, 4, 6, 7, 8, 9] yF
noncomputable def qbi (pg : Pg) (v0 v1 v4 v6 v7 v8 v9 : V) (H : List Obj) (lo : Nat) : Option (Ex × St) := exL pg qah ⟨[(0, v0), (1, v1), (4, v4), (6, v6), (7, v7), (8, v8), (9, v9)], H, lo⟩
theorem zI {pg : Pg} {e : Env} {H : List Obj} {lo : Nat} : exL pg qah ⟨e, H, lo⟩ = qbi pg (kA (get 0 e)) (kA (get 1 e)) (kA (get 4 e)) (kA (get 6 e)) (kA (get 7 e)) (kA (get 8 e)) (kA (get 9 e)) H lo := qaz
theorem qc0 {pg : Pg} {v0 v1 v4 v6 v7 v8 v9 : V} {H : List Obj} {lo : Nat} : qbi pg v0 v1 v4 v6 v7 v8 v9 H lo = yO pg (exL pg yF ⟨[(0, kA v0), (1, kA v1), (4, kA v4), (6, kA v6), (7, kA v7), (8, kA v8), (9, kA v9)], H, lo⟩) qah := by
  unfold qbi qah; rw [yr]; simp only [ql, qn, qD, qF, Nat.reduceEqDiff]
def jd : C := (.seq (.ops [⟨some 46, .mov (.t 1), none⟩,
 ⟨some 47, .mov (.t 6), none⟩,
 ⟨some 48, .build [(.i .i64 0), (.i .i64 0), (.i .i64 0), (.s []), (.i .i32 0)] [(0, 1, (.c (.i .i64 2))), (1, 1, (.t 46)), (2, 1, (.t 47))], none⟩,
 ⟨some 11, .alloc true [(.i .i64 0), (.i .i64 0), (.i .i64 0), (.s []), (.i .i32 0)], none⟩,
 ⟨none, .store (some 11) ⟨5, true⟩ (.t 11) (.t 48), none⟩]) ((.seq ((.seq (.ops [⟨some 49, .mov (.t 6), none⟩,
 ⟨some 50, .mov (.t 0), none⟩,
 ⟨some 51, .bi .lenS [.t 50], none⟩,
 ⟨some 52, .bin .lss .num (.t 49) (.t 51), none⟩,
 ⟨some 53, .mov (.t 52), none⟩,
 ⟨some 54, .mov (.t 0), some (53, true)⟩,
 ⟨some 55, .mov (.t 6), some (53, true)⟩,
 ⟨some 56, .index (.t 54) (.t 55), some (53, true)⟩,
 ⟨some 57, .bin .eql .num (.t 56) (.c (.i .u8 72)), some (53, true)⟩,
 ⟨some 58, .mov (.t 57), some (53, true)⟩,
 ⟨some 59, .mov (.t 0), some (58, false)⟩,
 ⟨some 60, .mov (.t 6), some (58, false)⟩,
 ⟨some 61, .index (.t 59) (.t 60), some (58, false)⟩,
 ⟨some 62, .bin .eql .num (.t 61) (.c (.i .u8 88)), some (58, false)⟩,
 ⟨some 63, .pick (.t 58) (.c (.b true)) (.t 62), some (53, true)⟩,
 ⟨some 64, .pick (.t 53) (.t 63) (.c (.b false)), none⟩]) ((.cond (.t 64) ((.seq (.ops [⟨some 65, .mov (.t 6), none⟩,
 ⟨some 66, .bin .add .num (.t 65) (.c (.i .i64 1)), none⟩,
 ⟨some 67, .fieldAddr (.t 11) 2 ⟨1, false⟩, none⟩,
 ⟨none, .store (some 11) ⟨1, false⟩ (.t 67) (.t 66), none⟩]) ((.seq (.ops [⟨some 68, .mov (.t 8), none⟩,
 ⟨some 69, .conv .u32 (.t 68), none⟩,
 ⟨some 70, .conv .i32 (.t 69), none⟩,
 ⟨some 71, .fieldAddr (.t 11) 4 ⟨1, false⟩, none⟩,
 ⟨none, .store (some 11) ⟨1, false⟩ (.t 71) (.mv 70), none⟩]) ((.seq ((.seq (.ops [⟨some 72, .mov (.t 0), none⟩,
 ⟨some 73, .mov (.t 6), none⟩,
 ⟨some 74, .index (.t 72) (.t 73), none⟩,
 ⟨some 75, .bin .eql .num (.t 74) (.c (.i .u8 88)), none⟩]) ((.cond (.t 75) ((.seq (.ops [⟨some 76, .fieldAddr (.t 11) 0 ⟨1, false⟩, none⟩,
 ⟨none, .store (some 11) ⟨1, false⟩ (.t 76) (.c (.i .i64 3)), none⟩]) ((.seq (.ops [⟨some 77, .mov (.t 8), none⟩,
 ⟨some 78, .bin .gtr .num (.t 77) (.c (.i .u64 255)), none⟩]) ((.cond (.t 78) ((.seq (.ops [⟨some 79, .build [(.i .i64 0), (.i .i64 0), (.i .i64 0), (.s []), (.i .i32 0)] [], none⟩,
 ⟨none, .store (some 4) ⟨5, true⟩ (.t 4) (.t 79), none⟩,
 ⟨some 5, .mov (.c (.i .i64 30)), none⟩]) (.ret))) (.skip))))))) (.skip))))) ((.seq ((.seq (.ops [⟨some 80, .mov (.t 8), none⟩,
 ⟨some 81, .bin .gtr .num (.t 80) (.c (.i .u64 4294967295)), none⟩]) ((.cond (.t 81) ((.seq (.ops [⟨some 82, .build [(.i .i64 0), (.i .i64 0), (.i .i64 0), (.s []), (.i .i32 0)] [], none⟩,
 ⟨none, .store (some 4) ⟨5, true⟩ (.t 4) (.t 82), none⟩,
 ⟨some 5, .mov (.c (.i .i64 30)), none⟩]) (.ret))) (.skip))))) ((.seq (.ops [⟨some 83, .load false (some 11) ⟨5, true⟩ (.t 11), none⟩,
 ⟨none, .store (some 4) ⟨5, true⟩ (.t 4) (.t 83), none⟩,
 ⟨some 5, .mov (.c (.i .i64 0)), none⟩]) (.ret))))))))))) (.skip))))) ((.seq ((.seq (.ops [⟨some 84, .mov (.t 7), none⟩,
 ⟨some 85, .un .not (.t 84), none⟩,
 ⟨some 86, .mov (.t 85), none⟩,
 ⟨some 87, .mov (.t 9), some (86, false)⟩,
 ⟨some 88, .bin .gtr .num (.t 87) (.c (.i .u64 2147483647)), some (86, false)⟩,
 ⟨some 89, .pick (.t 86) (.c (.b true)) (.t 88), none⟩]) ((.cond (.t 89) ((.seq (.ops [⟨some 90, .build [(.i .i64 0), (.i .i64 0), (.i .i64 0), (.s []), (.i .i32 0)] [], none⟩,
 ⟨none, .store (some 4) ⟨5, true⟩ (.t 4) (.t 90), none⟩,
 ⟨some 5, .mov (.c (.i .i64 30)), none⟩]) (.ret))) (.skip))))) ((.seq (.ops [⟨some 91, .mov (.t 9), none⟩,
 ⟨some 92, .conv .i32 (.t 91), none⟩,
 ⟨some 93, .fieldAddr (.t 11) 4 ⟨1, false⟩, none⟩,
 ⟨none, .store (some 11) ⟨1, false⟩ (.t 93) (.mv 92), none⟩]) ((.seq (.ops [⟨some 94, .load false (some 11) ⟨5, true⟩ (.t 11), none⟩,
 ⟨none, .store (some 4) ⟨5, true⟩ (.t 4) (.t 94), none⟩,
 ⟨some 5, .mov (.c (.i .i64 0)), none⟩]) (.ret))))))))))
def f_waferref11_number : Fn := ⟨2, [(.cell 4 ⟨5, true⟩), (.t 5)], false, (.seq (.ops [⟨some 4, .alloc true [(.i .i64 0), (.i .i64 0), (.i .i64 0), (.s []), (.i .i32 0)], none⟩, ⟨some 5, .mov (.c (.i .i64 0)), none⟩]) ((.seq (.ops [⟨some 12, .mov (.t 1), none⟩, ⟨some 6, .mov (.t 12), none⟩]) ((.seq (.ops [⟨some 7, .mov (.c (.b true)), none⟩]) ((.seq (.ops [⟨some 8, .mov (.c (.i .u64 0)), none⟩, ⟨some 9, .mov (.c (.i .u64 0)), none⟩]) ((.seq ((.block 0 [0, 1, 4, 6, 7, 8, 9] (qah))) (jd)))))))))), none, none⟩
def yG : C := (.seq ((.seq (.ops [⟨some 9, .mov (.t 6), none⟩, ⟨some 10, .mov (.t 0), none⟩, ⟨some 11, .bi .lenS [.t 10], none⟩, ⟨some 12, .bin .lss .num (.t 9) (.t 11), none⟩, ⟨some 13, .mov (.t 12), none⟩, ⟨some 14, .mov (.t 0), some (13, true)⟩, ⟨some 15, .mov (.t 6), some (13, true)⟩, ⟨some 16, .index (.t 14) (.t 15), some (13, true)⟩, ⟨some 17, .bin .neq .num (.t 16) (.c (.i .u8 34)), some (13, true)⟩, ⟨some 18, .pick (.t 13) (.t 17) (.c (.b false)), none⟩, ⟨some 19, .mov (.t 18), none⟩, ⟨some 20, .mov (.t 0), some (19, true)⟩, ⟨some 21, .mov (.t 6), some (19, true)⟩, ⟨some 22, .index (.t 20) (.t 21), some (19, true)⟩, ⟨some 23, .bin .geq .num (.t 22) (.c (.i .u8 32)), some (19, true)⟩, ⟨some 24, .pick (.t 19) (.t 23) (.c (.b false)), none⟩]) ((.cond (.t 24) (.skip) (.exit 0))))) ((.block 1 [0, 1, 4, 6] (.ops [⟨some 25, .mov (.t 6), none⟩, ⟨some 26, .bin .add .num (.t 25) (.c (.i .i64 1)), none⟩, ⟨some 6, .mov (.t 26), none⟩]))))
def qan : C := .loop [0, 1, 4, 6] yG
noncomputable def qbg (pg : Pg) (v0 v1 v4 v6 : V) (H : List Obj) (lo : Nat) : Option (Ex × St) := exL pg qan ⟨[(0, v0), (1, v1), (4, v4), (6, v6)], H, lo⟩
theorem yJ {pg : Pg} {e : Env} {H : List Obj} {lo : Nat} : exL pg qan ⟨e, H, lo⟩ = qbg pg (kA (get 0 e)) (kA (get 1 e)) (kA (get 4 e)) (kA (get 6 e)) H lo := qaz
theorem qcZ {pg : Pg} {v0 v1 v4 v6 : V} {H : List Obj} {lo : Nat} : qbg pg v0 v1 v4 v6 H lo = yO pg (exL pg yG ⟨[(0, kA v0), (1, kA v1), (4, kA v4), (6, kA v6)], H, lo⟩) qan := by
  unfold qbg qan; rw [yr]; simp only [ql, qn, qD, qF, Nat.reduceEqDiff]
def qaq : C := (.seq ((.seq (.ops [⟨some 27, .mov (.t 6), none⟩, ⟨some 28, .mov (.t 0), none⟩, ⟨some 29, .bi .lenS [.t 28], none⟩, ⟨some 30, .bin .geq .num (.t 27) (.t 29), none⟩, ⟨some 31, .mov (.t 30), none⟩, ⟨some 32, .mov (.t 0), some (31, false)⟩, ⟨some 33, .mov (.t 6), some (31, false)⟩, ⟨some 34, .index (.t 32) (.t 33), some (31, false)⟩, ⟨some 35, .bin .neq .num (.t 34) (.c (.i .u8 34)), some (31, false)⟩, ⟨some 36, .pick (.t 31) (.c (.b true)) (.t 35), none⟩]) ((.cond (.t 36) ((.seq (.ops [⟨some 37, .build [(.i .i64 0), (.i .i64 0), (.i .i64 0), (.s []), (.i .i32 0)] [], none⟩, ⟨none, .store (some 4) ⟨5, true⟩ (.t 4) (.t 37), none⟩, ⟨some 5, .mov (.c (.i .i64 30)), none⟩]) (.ret))) (.skip))))) ((.seq ((.seq (.ops [⟨some 38, .mov (.t 6), none⟩, ⟨some 39, .mov (.t 1), none⟩, ⟨some 40, .bin .sub .num (.t 38) (.t 39), none⟩, ⟨some 41, .bin .sub .num (.t 40) (.c (.i .i64 1)), none⟩, ⟨some 42, .bin .gtr .num (.t 41) (.c (.i .i64 120)), none⟩]) ((.cond (.t 42) ((.seq (.ops [⟨some 43, .build [(.i .i64 0), (.i .i64 0), (.i .i64 0), (.s []), (.i .i32 0)] [], none⟩, ⟨none, .store (some 4) ⟨5, true⟩ (.t 4) (.t 43), none⟩, ⟨some 5, .mov (.c (.i .i64 34)), none⟩]) (.ret))) (.skip))))) ((.seq (.ops [⟨some 44, .mov (.t 1), none⟩, ⟨some 45, .mov (.t 6), none⟩, ⟨some 46, .bin .add .num (.t 45) (.c (.i .i64 1)), none⟩, ⟨some 47, .mov (.t 0), none⟩, ⟨some 48, .mov (.t 1), none⟩, ⟨some 49, .bin .add .num (.t 48) (.c (.i .i64 1)), none⟩, ⟨some 50, .mov (.t 6), none⟩, ⟨some 51, .sliceS (.t 47) (some (.t 49)) (some (.t 50)), none⟩, ⟨some 52, .build [(.i .i64 0), (.i .i64 0), (.i .i64 0), (.s []), (.i .i32 0)] [(0, 1, (.c (.i .i64 4))), (1, 1, (.t 44)), (2, 1, (.t 46)), (3, 1, (.t 51))], none⟩, ⟨none, .store (some 4) ⟨5, true⟩ (.t 4) (.t 52), none⟩, ⟨some 5, .mov (.c (.i .i64 0)), none⟩]) (.ret))))))
def yL : Fn := ⟨2, [(.cell 4 ⟨5, true⟩), (.t 5)], false, (.seq (.ops [⟨some 4, .alloc true [(.i .i64 0), (.i .i64 0), (.i .i64 0), (.s []), (.i .i32 0)], none⟩, ⟨some 5, .mov (.c (.i .i64 0)), none⟩]) ((.seq (.ops [⟨some 7, .mov (.t 1), none⟩, ⟨some 8, .bin .add .num (.t 7) (.c (.i .i64 1)), none⟩, ⟨some 6, .mov (.t 8), none⟩]) ((.seq ((.block 0 [0, 1, 4, 6] (qan))) (qaq)))))), none, none⟩
def qa7 : C := (.seq ((.seq (.ops [⟨some 6, .mov (.t 5), none⟩, ⟨some 7, .mov (.t 0), none⟩, ⟨some 8, .bi .lenS [.t 7], none⟩, ⟨some 9, .bin .lss .num (.t 6) (.t 8), none⟩]) ((.cond (.t 9) (.skip) (.exit 0))))) ((.seq ((.block 1 [0, 1, 5] ((.seq (.ops [⟨some 12, .mov (.t 0), none⟩, ⟨some 13, .mov (.t 5), none⟩, ⟨some 14, .index (.t 12) (.t 13), none⟩, ⟨some 15, .mov (.t 1), none⟩, ⟨some 16, .bin .eql .num (.t 14) (.t 15), none⟩]) ((.cond (.t 16) ((.seq (.ops [⟨some 4, .mov (.c (.b true)), none⟩]) (.ret))) (.skip))))))) (.ops [⟨some 10, .mov (.t 5), none⟩, ⟨some 11, .bin .add .num (.t 10) (.c (.i .i64 1)), none⟩, ⟨some 5, .mov (.t 11), none⟩]))))
def qa8 : C := .loop [0, 1, 5] qa7
noncomputable def qb7 (pg : Pg) (v0 v1 v5 : V) (H : List Obj) (lo : Nat) : Option (Ex × St) := exL pg qa8 ⟨[(0, v0), (1, v1), (5, v5)], H, lo⟩
theorem qdJ {pg : Pg} {e : Env} {H : List Obj} {lo : Nat} : exL pg qa8 ⟨e, H, lo⟩ = qb7 pg (kA (get 0 e)) (kA (get 1 e)) (kA (get 5 e)) H lo := qaz
theorem qdG {pg : Pg} {v0 v1 v5 : V} {H : List Obj} {lo : Nat} : qb7 pg v0 v1 v5 H lo = yO pg (exL pg qa7 ⟨[(0, kA v0), (1, kA v1), (5, kA v5)], H, lo⟩) qa8 := by
  unfold qb7 qa8; rw [yr]; simp only [ql, qn, qD, qF, Nat.reduceEqDiff]
def qb9 : C := (.seq (.ops [⟨some 4, .mov (.c (.b false)), none⟩]) (.ret))
def qcU : Fn := ⟨2, [.t 4], true, (.seq (.ops [⟨some 4, .mov (.c (.b false)), none⟩]) ((.seq ((.seq (.ops [⟨some 5, .mov (.c (.i .i64 0)), none⟩]) ((.block 0 [] (qa8))))) (qb9)))), none, none⟩
def jq : C := (.seq ((.seq (.opsD [(⟨some 8, .mov (.t 0), none⟩, false, []), (⟨some 9, .nilCheck (.t 8), none⟩, false, []), (⟨some 10, .fieldAddr (.t 9) 1 ⟨1, false⟩, none⟩, false, []), (⟨some 11, .load false none ⟨1, false⟩ (.t 10), none⟩, false, []), (⟨some 12, .mov (.t 0), none⟩, false, []), (⟨some 13, .nilCheck (.t 12), none⟩, false, []), (⟨some 14, .fieldAddr (.t 13) 0 ⟨1, false⟩, none⟩, false, []), (⟨some 15, .load false none ⟨1, false⟩ (.t 14), none⟩, false, []), (⟨some 16, .bi .lenS [.t 15], none⟩, false, []), (⟨some 17, .bin .lss .num (.t 11) (.t 16), none⟩, true, [])]) ((.cond (.t 17) (.skip) (.exit 0))))) ((.block 1 [0, 2, 3] ((.block 2 [0, 2, 3] ((.seq (.ops [⟨some 19, .mov (.t 0), none⟩,
 ⟨some 20, .call (.f 45) [.t 19, (.c (.s [40, 42]))], none⟩,
 ⟨some 18, .mov (.mv 20), none⟩]) ((.cond (.t 18) ((.seq ((.seq (.ops [⟨some 21, .mov (.t 3), none⟩,
 ⟨some 22, .bin .eql .num (.t 21) (.c (.i .i64 0)), none⟩]) ((.cond (.t 22) (.ops [⟨some 23, .mov (.t 0), none⟩,
 ⟨some 24, .nilCheck (.t 23), none⟩,
 ⟨some 25, .fieldAddr (.t 24) 1 ⟨1, false⟩, none⟩,
 ⟨some 26, .load false none ⟨1, false⟩ (.t 25), none⟩,
 ⟨some 2, .mov (.t 26), none⟩]) (.skip))))) ((.seq (.ops [⟨some 27, .mov (.t 3), none⟩,
 ⟨some 28, .bin .add .num (.t 27) (.c (.i .i64 1)), none⟩,
 ⟨some 3, .mov (.t 28), none⟩]) (.ops [⟨some 29, .mov (.t 0), none⟩,
 ⟨some 30, .nilCheck (.t 29), none⟩,
 ⟨some 31, .fieldAddr (.t 30) 1 ⟨1, false⟩, none⟩,
 ⟨some 32, .load false none ⟨1, false⟩ (.t 31), none⟩,
 ⟨some 33, .bin .add .num (.t 32) (.c (.i .i64 2)), none⟩,
 ⟨some 34, .nilCheck (.t 29), none⟩,
 ⟨some 35, .fieldAddr (.t 34) 1 ⟨1, false⟩, none⟩,
 ⟨none, .store none ⟨1, false⟩ (.t 35) (.t 33), none⟩]))))) ((.seq (.ops [⟨some 37, .mov (.t 3), none⟩,
 ⟨some 38, .bin .gtr .num (.t 37) (.c (.i .i64 0)), none⟩,
 ⟨some 39, .mov (.t 38), none⟩,
 ⟨some 40, .mov (.t 0), some (39, true)⟩,
 ⟨some 41, .call (.f 45) [.t 40, (.c (.s [42, 41]))], some (39, true)⟩,
 ⟨some 42, .pick (.t 39) (.t 41) (.c (.b false)), none⟩,
 ⟨some 36, .mov (.t 42), none⟩]) ((.cond (.t 36) ((.seq (.ops [⟨some 43, .mov (.t 3), none⟩,
 ⟨some 44, .bin .sub .num (.t 43) (.c (.i .i64 1)), none⟩,
 ⟨some 3, .mov (.t 44), none⟩]) (.ops [⟨some 45, .mov (.t 0), none⟩,
 ⟨some 46, .nilCheck (.t 45), none⟩,
 ⟨some 47, .fieldAddr (.t 46) 1 ⟨1, false⟩, none⟩,
 ⟨some 48, .load false none ⟨1, false⟩ (.t 47), none⟩,
 ⟨some 49, .bin .add .num (.t 48) (.c (.i .i64 2)), none⟩,
 ⟨some 50, .nilCheck (.t 45), none⟩,
 ⟨some 51, .fieldAddr (.t 50) 1 ⟨1, false⟩, none⟩,
 ⟨none, .store none ⟨1, false⟩ (.t 51) (.t 49), none⟩]))) ((.seq (.opsD [(⟨some 53, .mov (.t 3), none⟩, true, []), (⟨some 54, .bin .gtr .num (.t 53) (.c (.i .i64 0)), none⟩, true, []), (⟨some 55, .mov (.t 54), none⟩, true, []), (⟨some 56, .mov (.t 0), some (55, false)⟩, false, []), (⟨some 57, .nilCheck (.t 56), some (55, false)⟩, false, []), (⟨some 58, .fieldAddr (.t 57) 0 ⟨1, false⟩, some (55, false)⟩, false, []), (⟨some 59, .load false none ⟨1, false⟩ (.t 58), some (55, false)⟩, false, []), (⟨some 60, .mov (.t 0), some (55, false)⟩, false, []), (⟨some 61, .nilCheck (.t 60), some (55, false)⟩, false, []), (⟨some 62, .fieldAddr (.t 61) 1 ⟨1, false⟩, some (55, false)⟩, false, []), (⟨some 63, .load false none ⟨1, false⟩ (.t 62), some (55, false)⟩, false, []), (⟨some 64, .index (.t 59) (.t 63), some (55, false)⟩, true, []), (⟨some 65, .call (.f 58) [(.c (.s [9, 10, 13, 32])), (.t 64)], some (55, false)⟩, true, []), (⟨some 66, .bin .geq .num (.t 65) (.c (.i .i64 0)), some (55, false)⟩, true, []), (⟨some 67, .pick (.t 55) (.c (.b true)) (.t 66), none⟩, true, []), (⟨some 52, .mov (.t 67), none⟩, true, [])]) ((.cond (.t 52) (.ops [⟨some 68, .mov (.t 0), none⟩,
 ⟨some 69, .nilCheck (.t 68), none⟩,
 ⟨some 70, .fieldAddr (.t 69) 1 ⟨1, false⟩, none⟩,
 ⟨some 71, .load false none ⟨1, false⟩ (.t 70), none⟩,
 ⟨some 72, .bin .add .num (.t 71) (.c (.i .i64 1)), none⟩,
 ⟨some 73, .nilCheck (.t 68), none⟩,
 ⟨some 74, .fieldAddr (.t 73) 1 ⟨1, false⟩, none⟩,
 ⟨none, .store none ⟨1, false⟩ (.t 74) (.t 72), none⟩]) (.ret))))))))))))))))))
def qaj : C := .loop [0, 2, 3] jq
noncomputable def yi (pg : Pg) (v0 v2 v3 : V) (H : List Obj) (lo : Nat) : Option (Ex × St) := exL pg qaj ⟨[(0, v0), (2, v2), (3, v3)], H, lo⟩
theorem jP {pg : Pg} {e : Env} {H : List Obj} {lo : Nat} : exL pg qaj ⟨e, H, lo⟩ = yi pg (kA (get 0 e)) (kA (get 2 e)) (kA (get 3 e)) H lo := qaz
theorem yK {pg : Pg} {v0 v2 v3 : V} {H : List Obj} {lo : Nat} : yi pg v0 v2 v3 H lo = yO pg (exL pg jq ⟨[(0, kA v0), (2, kA v2), (3, kA v3)], H, lo⟩) qaj := by
  unfold yi qaj; rw [yr]; simp only [ql, qn, qD, qF, Nat.reduceEqDiff]
def yg : C := (.seq (.ops [⟨some 75, .mov (.t 3), none⟩, ⟨some 76, .bin .gtr .num (.t 75) (.c (.i .i64 0)), none⟩]) ((.cond (.t 76) (.ops [⟨some 77, .mov (.mv 2), none⟩, ⟨some 78, .call (.f 59) [.mv 77, (.c (.i .i64 30))], none⟩]) (.skip))))
def qbc : Fn := ⟨1, [], false, (.seq (.ops [⟨some 4, .mov (.t 0), none⟩, ⟨some 5, .nilCheck (.t 4), none⟩, ⟨some 6, .fieldAddr (.t 5) 1 ⟨1, false⟩, none⟩, ⟨some 7, .load false none ⟨1, false⟩ (.t 6), none⟩, ⟨some 2, .mov (.t 7), none⟩, ⟨some 3, .mov (.c (.i .i64 0)), none⟩]) ((.seq ((.block 0 [2, 3] (qaj))) (yg)))), none, none⟩
def qeh : Fn := ⟨1, [.t 2], true, (.seq (.ops [⟨some 2, .mov (.c (.b false)), none⟩]) ((.seq (.ops [⟨some 3, .mov (.t 0), none⟩, ⟨some 4, .bin .geq .num (.t 3) (.c (.i .u8 97)), none⟩, ⟨some 5, .mov (.t 4), none⟩, ⟨some 6, .mov (.t 0), some (5, true)⟩, ⟨some 7, .bin .leq .num (.t 6) (.c (.i .u8 122)), some (5, true)⟩, ⟨some 8, .pick (.t 5) (.t 7) (.c (.b false)), none⟩, ⟨some 9, .mov (.t 8), none⟩, ⟨some 10, .mov (.t 0), some (9, false)⟩, ⟨some 11, .bin .geq .num (.t 10) (.c (.i .u8 65)), some (9, false)⟩, ⟨some 12, .mov (.t 11), some (9, false)⟩, ⟨some 13, .mov (.t 0), some (12, true)⟩, ⟨some 14, .bin .leq .num (.t 13) (.c (.i .u8 90)), some (12, true)⟩, ⟨some 15, .pick (.t 12) (.t 14) (.c (.b false)), some (9, false)⟩, ⟨some 16, .pick (.t 9) (.c (.b true)) (.t 15), none⟩, ⟨some 2, .mov (.t 16), none⟩]) (.ret)))), none, none⟩
def qat : Fn := ⟨1, [(.cell 2 ⟨5, true⟩)], true, (.seq (.ops [⟨some 2, .alloc true [(.i .i64 0), (.i .i64 0), (.i .i64 0), (.s []), (.i .i32 0)], none⟩]) ((.seq (.ops [⟨some 5, .mov (.t 0), none⟩, ⟨some 6, .nilCheck (.t 5), none⟩, ⟨some 7, .fieldAddr (.t 6) 1 ⟨1, false⟩, none⟩, ⟨some 8, .load false none ⟨1, false⟩ (.t 7), none⟩, ⟨some 3, .mov (.t 8), none⟩]) ((.seq (.ops [⟨some 9, .mov (.mv 0), none⟩, ⟨some 10, .call (.f 60) [.mv 9, (.f 61)], none⟩, ⟨some 4, .mov (.mv 10), none⟩]) ((.seq ((.block 0 [2, 4] ((.seq (.ops [⟨some 12, .mov (.t 4), none⟩, ⟨some 13, .bi .lenS [.t 12], none⟩, ⟨some 14, .bin .gtr .num (.t 13) (.c (.i .i64 32)), none⟩, ⟨some 11, .mov (.t 14), none⟩]) ((.cond (.t 11) (.ops [⟨some 15, .mov (.mv 3), none⟩, ⟨some 16, .call (.f 59) [.mv 15, (.c (.i .i64 34))], none⟩]) ((.seq (.ops [⟨some 18, .call (.f 17) [], none⟩, ⟨some 19, .mov (.t 4), none⟩, ⟨some 20, .call (.f 62) [.t 18, (.t 19)], none⟩, ⟨some 17, .mov (.mv 20), none⟩]) ((.cond (.t 17) ((.seq (.ops [⟨some 21, .mov (.t 4), none⟩, ⟨some 22, .build [(.i .i64 0), (.i .i64 0), (.i .i64 0), (.s []), (.i .i32 0)] [(0, 1, (.c (.i .i64 6))), (3, 1, (.t 21))], none⟩, ⟨none, .store (some 2) ⟨5, true⟩ (.t 2) (.t 22), none⟩]) (.ret))) (.skip))))))))))) ((.seq (.ops [⟨some 23, .mov (.t 4), none⟩, ⟨some 24, .build [(.i .i64 0), (.i .i64 0), (.i .i64 0), (.s []), (.i .i32 0)] [(0, 1, (.c (.i .i64 1))), (3, 1, (.t 23))], none⟩, ⟨none, .store (some 2) ⟨5, true⟩ (.t 2) (.t 24), none⟩]) (.ret)))))))))), none, none⟩
def qeS : Fn := ⟨1, [.t 2], true, (.seq (.ops [⟨some 2, .mov (.c (.b false)), none⟩]) ((.seq (.ops [⟨some 3, .mov (.t 0), none⟩, ⟨some 4, .bin .geq .num (.t 3) (.c (.i .u8 48)), none⟩, ⟨some 5, .mov (.t 4), none⟩, ⟨some 6, .mov (.t 0), some (5, true)⟩, ⟨some 7, .bin .leq .num (.t 6) (.c (.i .u8 57)), some (5, true)⟩, ⟨some 8, .pick (.t 5) (.t 7) (.c (.b false)), none⟩, ⟨some 2, .mov (.t 8), none⟩]) (.ret)))), none, none⟩
def jJ : Fn := ⟨1, [(.cell 2 ⟨5, true⟩)], true, (.seq (.ops [⟨some 2, .alloc true [(.i .i64 0), (.i .i64 0), (.i .i64 0), (.s []), (.i .i32 0)], none⟩]) ((.seq (.ops [⟨some 10, .mov (.t 0), none⟩,
 ⟨some 11, .nilCheck (.t 10), none⟩,
 ⟨some 12, .fieldAddr (.t 11) 1 ⟨1, false⟩, none⟩,
 ⟨some 13, .load false none ⟨1, false⟩ (.t 12), none⟩,
 ⟨some 3, .mov (.t 13), none⟩]) ((.seq (.ops [⟨some 14, .mov (.t 0), none⟩,
 ⟨some 15, .call (.f 60) [.t 14, (.f 63)], none⟩,
 ⟨some 4, .mov (.mv 15), none⟩]) ((.seq (.ops [⟨some 5, .mov (.c (.i .i64 2)), none⟩,
 ⟨some 6, .mov (.c (.i .i64 10)), none⟩,
 ⟨some 7, .mov (.c (.i .i64 31)), none⟩]) ((.seq ((.block 0 [2, 3, 4, 5, 6, 7] ((.seq (.ops [⟨some 17, .mov (.t 0), none⟩,
 ⟨some 18, .call (.f 45) [.t 17, (.c (.s [72]))], none⟩,
 ⟨some 16, .mov (.mv 18), none⟩]) ((.cond (.t 16) ((.seq (.ops [⟨some 6, .mov (.c (.i .i64 16)), none⟩,
 ⟨some 7, .mov (.c (.i .i64 32)), none⟩]) (.ops [⟨some 19, .mov (.t 0), none⟩,
 ⟨some 20, .nilCheck (.t 19), none⟩,
 ⟨some 21, .fieldAddr (.t 20) 1 ⟨1, false⟩, none⟩,
 ⟨some 22, .load false none ⟨1, false⟩ (.t 21), none⟩,
 ⟨some 23, .bin .add .num (.t 22) (.c (.i .i64 1)), none⟩,
 ⟨some 24, .nilCheck (.t 19), none⟩,
 ⟨some 25, .fieldAddr (.t 24) 1 ⟨1, false⟩, none⟩,
 ⟨none, .store none ⟨1, false⟩ (.t 25) (.t 23), none⟩]))) ((.seq (.ops [⟨some 27, .mov (.t 0), none⟩,
 ⟨some 28, .call (.f 45) [.t 27, (.c (.s [88]))], none⟩,
 ⟨some 26, .mov (.mv 28), none⟩]) ((.cond (.t 26) ((.seq (.ops [⟨some 5, .mov (.c (.i .i64 3)), none⟩,
 ⟨some 6, .mov (.c (.i .i64 16)), none⟩,
 ⟨some 7, .mov (.c (.i .i64 8)), none⟩]) (.ops [⟨some 29, .mov (.t 0), none⟩,
 ⟨some 30, .nilCheck (.t 29), none⟩,
 ⟨some 31, .fieldAddr (.t 30) 1 ⟨1, false⟩, none⟩,
 ⟨some 32, .load false none ⟨1, false⟩ (.t 31), none⟩,
 ⟨some 33, .bin .add .num (.t 32) (.c (.i .i64 1)), none⟩,
 ⟨some 34, .nilCheck (.t 29), none⟩,
 ⟨some 35, .fieldAddr (.t 34) 1 ⟨1, false⟩, none⟩,
 ⟨none, .store none ⟨1, false⟩ (.t 35) (.t 33), none⟩]))) (.skip))))))))))) ((.seq (.ops [⟨some 37, .mov (.mv 4), none⟩,
 ⟨some 38, .mov (.mv 6), none⟩,
 ⟨some 39, .mov (.mv 7), none⟩,
 ⟨some 40, .call (.f 64) [.mv 37, (.mv 38), (.mv 39)], none⟩,
 ⟨some 36, .mov (.t 40), none⟩,
 ⟨some 41, .extract (.t 36) 0, none⟩,
 ⟨some 42, .extract (.t 36) 1, none⟩,
 ⟨some 8, .mov (.t 41), none⟩,
 ⟨some 9, .mov (.t 42), none⟩]) ((.seq ((.seq (.ops [⟨some 43, .mov (.t 9), none⟩,
 ⟨some 44, .bin .neq .iface (.t 43) (.c .ni), none⟩]) ((.cond (.t 44) (.ops [⟨some 45, .mov (.mv 3), none⟩,
 ⟨some 46, .call (.f 59) [.mv 45, (.c (.i .i64 30))], none⟩]) (.skip))))) ((.seq (.ops [⟨some 47, .mov (.t 5), none⟩,
 ⟨some 48, .mov (.t 8), none⟩,
 ⟨some 49, .conv .u32 (.t 48), none⟩,
 ⟨some 50, .conv .i32 (.t 49), none⟩,
 ⟨some 51, .build [(.i .i64 0), (.i .i64 0), (.i .i64 0), (.s []), (.i .i32 0)] [(0, 1, (.t 47)), (4, 1, (.t 50))], none⟩,
 ⟨none, .store (some 2) ⟨5, true⟩ (.t 2) (.t 51), none⟩]) (.ret)))))))))))))))), none, none⟩
def qcn : Fn := ⟨2, [.t 4], true, (.seq (.ops [⟨some 4, .mov (.c (.b false)), none⟩]) ((.seq (.opsD [(⟨some 5, .mov (.t 0), none⟩, false, []), (⟨some 6, .nilCheck (.t 5), none⟩, false, []), (⟨some 7, .fieldAddr (.t 6) 0 ⟨1, false⟩, none⟩, false, []), (⟨some 8, .load false none ⟨1, false⟩ (.t 7), none⟩, false, []), (⟨some 9, .mov (.t 0), none⟩, false, []), (⟨some 10, .nilCheck (.t 9), none⟩, false, []), (⟨some 11, .fieldAddr (.t 10) 1 ⟨1, false⟩, none⟩, false, []), (⟨some 12, .load false none ⟨1, false⟩ (.t 11), none⟩, false, []), (⟨some 13, .sliceS (.t 8) (some (.t 12)) none, none⟩, false, []), (⟨some 14, .mov (.mv 1), none⟩, false, []), (⟨some 15, .call (.f 65) [.t 13, (.mv 14)], none⟩, true, []), (⟨some 4, .mov (.mv 15), none⟩, true, [])]) (.ret)))), none, none⟩
def qau : Fn := ⟨1, [(.cell 2 ⟨5, true⟩)], true, (.seq (.ops [⟨some 2, .alloc true [(.i .i64 0), (.i .i64 0), (.i .i64 0), (.s []), (.i .i32 0)], none⟩]) ((.seq (.ops [⟨some 5, .mov (.t 0), none⟩,
 ⟨some 6, .nilCheck (.t 5), none⟩,
 ⟨some 7, .fieldAddr (.t 6) 1 ⟨1, false⟩, none⟩,
 ⟨some 8, .load false none ⟨1, false⟩ (.t 7), none⟩,
 ⟨some 3, .mov (.t 8), none⟩]) ((.seq (.ops [⟨some 9, .mov (.t 0), none⟩,
 ⟨some 10, .nilCheck (.t 9), none⟩,
 ⟨some 11, .fieldAddr (.t 10) 1 ⟨1, false⟩, none⟩,
 ⟨some 12, .load false none ⟨1, false⟩ (.t 11), none⟩,
 ⟨some 13, .bin .add .num (.t 12) (.c (.i .i64 1)), none⟩,
 ⟨some 14, .nilCheck (.t 9), none⟩,
 ⟨some 15, .fieldAddr (.t 14) 1 ⟨1, false⟩, none⟩,
 ⟨none, .store none ⟨1, false⟩ (.t 15) (.t 13), none⟩]) ((.seq (.ops [⟨some 16, .mov (.t 0), none⟩,
 ⟨some 17, .call (.f 60) [.t 16, (.f 66)], none⟩,
 ⟨some 4, .mov (.mv 17), none⟩]) ((.seq ((.block 0 [0, 2, 4] ((.seq (.ops [⟨some 19, .mov (.t 0), none⟩,
 ⟨some 20, .call (.f 45) [.t 19, (.c (.s [34]))], none⟩,
 ⟨some 21, .un .not (.t 20), none⟩,
 ⟨some 18, .mov (.t 21), none⟩]) ((.cond (.t 18) (.ops [⟨some 22, .mov (.mv 3), none⟩,
 ⟨some 23, .call (.f 59) [.mv 22, (.c (.i .i64 30))], none⟩]) ((.seq (.ops [⟨some 25, .mov (.t 4), none⟩,
 ⟨some 26, .bi .lenS [.t 25], none⟩,
 ⟨some 27, .bin .gtr .num (.t 26) (.c (.i .i64 120)), none⟩,
 ⟨some 24, .mov (.t 27), none⟩]) ((.cond (.t 24) (.ops [⟨some 28, .mov (.mv 3), none⟩,
 ⟨some 29, .call (.f 59) [.mv 28, (.c (.i .i64 34))], none⟩]) (.skip))))))))))) ((.seq (.ops [⟨some 30, .mov (.t 0), none⟩,
 ⟨some 31, .nilCheck (.t 30), none⟩,
 ⟨some 32, .fieldAddr (.t 31) 1 ⟨1, false⟩, none⟩,
 ⟨some 33, .load false none ⟨1, false⟩ (.t 32), none⟩,
 ⟨some 34, .bin .add .num (.t 33) (.c (.i .i64 1)), none⟩,
 ⟨some 35, .nilCheck (.t 30), none⟩,
 ⟨some 36, .fieldAddr (.t 35) 1 ⟨1, false⟩, none⟩,
 ⟨none, .store none ⟨1, false⟩ (.t 36) (.t 34), none⟩]) ((.seq (.ops [⟨some 37, .mov (.t 4), none⟩,
 ⟨some 38, .build [(.i .i64 0), (.i .i64 0), (.i .i64 0), (.s []), (.i .i32 0)] [(0, 1, (.c (.i .i64 4))), (3, 1, (.t 37))], none⟩,
 ⟨none, .store (some 2) ⟨5, true⟩ (.t 2) (.t 38), none⟩]) (.ret)))))))))))))), none, none⟩
def jS : C := (.seq (.ops [⟨some 8, .bin .lss .num (.t 7) (.t 6), none⟩]) ((.seq ((.cond (.t 8) (.skip) (.exit 0))) ((.seq ((.block 1 [0, 2, 5, 6, 7] ((.seq (.ops [⟨some 9, .indexAddr (.t 5) (.t 7) 1 none, none⟩, ⟨some 10, .loadC ⟨1, false⟩ (.t 9), none⟩, ⟨some 4, .mov (.t 10), none⟩]) ((.seq (.ops [⟨some 11, .mov (.t 0), none⟩, ⟨some 12, .mov (.t 4), none⟩, ⟨some 13, .call (.f 45) [.t 11, (.t 12)], none⟩]) ((.cond (.t 13) ((.seq (.ops [⟨some 14, .mov (.t 0), none⟩, ⟨some 15, .nilCheck (.t 14), none⟩, ⟨some 16, .fieldAddr (.t 15) 1 ⟨1, false⟩, none⟩, ⟨some 17, .load false none ⟨1, false⟩ (.t 16), none⟩, ⟨some 18, .mov (.t 4), none⟩, ⟨some 19, .bi .lenS [.t 18], none⟩, ⟨some 20, .bin .add .num (.t 17) (.t 19), none⟩, ⟨some 21, .nilCheck (.t 14), none⟩, ⟨some 22, .fieldAddr (.t 21) 1 ⟨1, false⟩, none⟩, ⟨none, .store none ⟨1, false⟩ (.t 22) (.t 20), none⟩]) ((.seq (.ops [⟨some 23, .mov (.t 4), none⟩, ⟨some 24, .build [(.i .i64 0), (.i .i64 0), (.i .i64 0), (.s []), (.i .i32 0)] [(0, 1, (.c (.i .i64 5))), (3, 1, (.t 23))], none⟩, ⟨none, .store (some 2) ⟨5, true⟩ (.t 2) (.t 24), none⟩]) (.ret))))) (.skip))))))))) (.ops [⟨some 25, .bin .add .num (.t 7) (.c (.i .i64 1)), none⟩, ⟨some 7, .mov (.t 25), none⟩]))))))
def qak : C := .loop [0, 2, 5, 6, 7] jS
noncomputable def qcl (pg : Pg) (v0 v2 v5 v6 v7 : V) (H : List Obj) (lo : Nat) : Option (Ex × St) := exL pg qak ⟨[(0, v0), (2, v2), (5, v5), (6, v6), (7, v7)], H, lo⟩
theorem yf {pg : Pg} {e : Env} {H : List Obj} {lo : Nat} : exL pg qak ⟨e, H, lo⟩ = qcl pg (kA (get 0 e)) (kA (get 2 e)) (kA (get 5 e)) (kA (get 6 e)) (kA (get 7 e)) H lo := qaz
theorem ye {pg : Pg} {v0 v2 v5 v6 v7 : V} {H : List Obj} {lo : Nat} : qcl pg v0 v2 v5 v6 v7 H lo = yO pg (exL pg jS ⟨[(0, kA v0), (2, kA v2), (5, kA v5), (6, kA v6), (7, kA v7)], H, lo⟩) qak := by
  unfold qcl qak; rw [yr]; simp only [ql, qn, qD, qF, Nat.reduceEqDiff]
def qcq : C := (.seq ((.seq (.opsD [(⟨some 26, .mov (.t 0), none⟩, false, []), (⟨some 27, .nilCheck (.t 26), none⟩, false, []), (⟨some 28, .fieldAddr (.t 27) 0 ⟨1, false⟩, none⟩, false, []), (⟨some 29, .load false none ⟨1, false⟩ (.t 28), none⟩, false, []), (⟨some 30, .mov (.t 0), none⟩, false, []), (⟨some 31, .nilCheck (.t 30), none⟩, false, []), (⟨some 32, .fieldAddr (.t 31) 1 ⟨1, false⟩, none⟩, false, []), (⟨some 33, .load false none ⟨1, false⟩ (.t 32), none⟩, false, []), (⟨some 34, .index (.t 29) (.t 33), none⟩, true, []), (⟨some 35, .call (.f 58) [(.c (.s [43, 45, 42, 47, 38, 126, 61, 35, 60, 62, 46, 44, 59, 58, 40, 41, 91, 93, 123, 125, 94, 124])), (.t 34)], none⟩, true, []), (⟨some 36, .bin .lss .num (.t 35) (.c (.i .i64 0)), none⟩, true, [])]) ((.cond (.t 36) (.ops [⟨some 37, .mov (.t 0), none⟩,
 ⟨some 38, .nilCheck (.t 37), none⟩,
 ⟨some 39, .fieldAddr (.t 38) 1 ⟨1, false⟩, none⟩,
 ⟨some 40, .load false none ⟨1, false⟩ (.t 39), none⟩,
 ⟨some 41, .call (.f 59) [.t 40, (.c (.i .i64 30))], none⟩]) (.skip))))) ((.seq (.ops [⟨some 42, .mov (.t 0), none⟩,
 ⟨some 43, .nilCheck (.t 42), none⟩,
 ⟨some 44, .fieldAddr (.t 43) 1 ⟨1, false⟩, none⟩,
 ⟨some 45, .load false none ⟨1, false⟩ (.t 44), none⟩,
 ⟨some 46, .bin .add .num (.t 45) (.c (.i .i64 1)), none⟩,
 ⟨some 47, .nilCheck (.t 42), none⟩,
 ⟨some 48, .fieldAddr (.t 47) 1 ⟨1, false⟩, none⟩,
 ⟨none, .store none ⟨1, false⟩ (.t 48) (.t 46), none⟩]) ((.seq (.opsD [(⟨some 49, .mov (.t 0), none⟩, false, []), (⟨some 50, .nilCheck (.t 49), none⟩, false, []), (⟨some 51, .fieldAddr (.t 50) 0 ⟨1, false⟩, none⟩, false, []), (⟨some 52, .load false none ⟨1, false⟩ (.t 51), none⟩, false, []), (⟨some 53, .mov (.t 0), none⟩, false, []), (⟨some 54, .nilCheck (.t 53), none⟩, false, []), (⟨some 55, .fieldAddr (.t 54) 1 ⟨1, false⟩, none⟩, false, []), (⟨some 56, .load false none ⟨1, false⟩ (.t 55), none⟩, false, []), (⟨some 57, .bin .sub .num (.t 56) (.c (.i .i64 1)), none⟩, false, []), (⟨some 58, .mov (.t 0), none⟩, false, []), (⟨some 59, .nilCheck (.t 58), none⟩, false, []), (⟨some 60, .fieldAddr (.t 59) 1 ⟨1, false⟩, none⟩, false, []), (⟨some 61, .load false none ⟨1, false⟩ (.t 60), none⟩, false, []), (⟨some 62, .sliceS (.t 52) (some (.t 57)) (some (.t 61)), none⟩, true, []), (⟨some 63, .build [(.i .i64 0), (.i .i64 0), (.i .i64 0), (.s []), (.i .i32 0)] [(0, 1, (.c (.i .i64 5))), (3, 1, (.t 62))], none⟩, true, []), (⟨none, .store (some 2) ⟨5, true⟩ (.t 2) (.t 63), none⟩, true, [])]) (.ret))))))
def jX : Fn := ⟨1, [(.cell 2 ⟨5, true⟩)], true, (.seq (.ops [⟨some 2, .alloc true [(.i .i64 0), (.i .i64 0), (.i .i64 0), (.s []), (.i .i32 0)], none⟩]) ((.seq ((.seq (.ops [⟨some 5, .buildSlice (.s []) 4 [(0, (.c (.s [60, 61]))), (1, (.c (.s [62, 61]))), (2, (.c (.s [58, 61]))), (3, (.c (.s [46, 46])))], none⟩, ⟨some 6, .bi .lenL [.t 5], none⟩, ⟨some 7, .mov (.c (.i .i64 0)), none⟩]) ((.block 0 [0, 2] (qak))))) (qcq)))), none, none⟩
def qG : Fn := ⟨1, [.t 2], true, (.seq (.ops [⟨some 2, .mov (.c (.s [])), none⟩]) ((.seq ((.seq (.ops [⟨some 3, .mov (.t 0), none⟩,
 ⟨some 4, .call (.f 32) [.t 3, (.c (.i .i64 28))], none⟩]) ((.block 0 [0] ((.seq ((.seq (.ops [⟨some 6, .bin .eql .num (.t 4) (.c (.i .i64 0)), none⟩,
 ⟨some 5, .mov (.t 6), none⟩]) ((.cond (.t 5) (.skip) (.ops [⟨some 7, .bin .eql .num (.t 4) (.c (.i .i64 1)), none⟩,
 ⟨some 5, .mov (.t 7), none⟩]))))) ((.cond (.t 5) ((.seq (.ops [⟨some 8, .mov (.mv 0), none⟩,
 ⟨some 9, .call (.f 56) [.mv 8], none⟩,
 ⟨some 10, .bin .add .num (.c (.s [105, 32, 58, 61, 32])) (.t 9), none⟩,
 ⟨some 2, .mov (.t 10), none⟩]) (.ret))) ((.seq (.ops [⟨some 12, .bin .eql .num (.t 4) (.c (.i .i64 2)), none⟩,
 ⟨some 11, .mov (.t 12), none⟩]) ((.cond (.t 11) ((.seq (.ops [⟨some 13, .mov (.t 0), none⟩,
 ⟨some 14, .call (.f 69) [.t 13], none⟩,
 ⟨some 15, .bin .add .num (.t 14) (.c (.s [32, 58, 61, 32])), none⟩,
 ⟨some 16, .mov (.mv 0), none⟩,
 ⟨some 17, .call (.f 56) [.mv 16], none⟩,
 ⟨some 18, .bin .add .num (.t 15) (.t 17), none⟩,
 ⟨some 2, .mov (.t 18), none⟩]) (.ret))) ((.seq (.ops [⟨some 20, .bin .eql .num (.t 4) (.c (.i .i64 3)), none⟩,
 ⟨some 19, .mov (.t 20), none⟩]) ((.cond (.t 19) ((.seq (.ops [⟨some 21, .mov (.mv 0), none⟩,
 ⟨some 22, .call (.f 55) [.mv 21], none⟩,
 ⟨some 23, .bin .add .num (.c (.s [98, 32, 58, 61, 32])) (.t 22), none⟩,
 ⟨some 2, .mov (.t 23), none⟩]) (.ret))) ((.seq (.ops [⟨some 25, .bin .eql .num (.t 4) (.c (.i .i64 4)), none⟩,
 ⟨some 24, .mov (.t 25), none⟩]) ((.cond (.t 24) ((.seq (.ops [⟨some 26, .mov (.mv 0), none⟩,
 ⟨some 27, .call (.f 70) [.mv 26], none⟩,
 ⟨some 28, .bin .add .num (.c (.s [99, 32, 58, 61, 32])) (.t 27), none⟩,
 ⟨some 2, .mov (.t 28), none⟩]) (.ret))) ((.seq (.ops [⟨some 30, .bin .eql .num (.t 4) (.c (.i .i64 5)), none⟩,
 ⟨some 29, .mov (.t 30), none⟩]) ((.cond (.t 29) ((.seq (.ops [⟨some 31, .mov (.mv 0), none⟩,
 ⟨some 32, .call (.f 71) [.mv 31], none⟩,
 ⟨some 33, .bin .add .num (.c (.s [115, 32, 58, 61, 32])) (.t 32), none⟩,
 ⟨some 2, .mov (.t 33), none⟩]) (.ret))) ((.seq ((.seq (.ops [⟨some 35, .bin .eql .num (.t 4) (.c (.i .i64 6)), none⟩,
 ⟨some 34, .mov (.t 35), none⟩]) ((.cond (.t 34) (.skip) (.ops [⟨some 36, .bin .eql .num (.t 4) (.c (.i .i64 7)), none⟩,
 ⟨some 34, .mov (.t 36), none⟩]))))) ((.cond (.t 34) ((.seq (.ops [⟨some 37, .mov (.mv 0), none⟩,
 ⟨some 38, .call (.f 56) [.mv 37], none⟩,
 ⟨some 39, .bin .add .num (.c (.s [79, 117, 116, 46, 73, 110, 116, 40])) (.t 38), none⟩,
 ⟨some 40, .bin .add .num (.t 39) (.c (.s [41, 59, 32, 79, 117, 116, 46, 76, 110])), none⟩,
 ⟨some 2, .mov (.t 40), none⟩]) (.ret))) ((.seq (.ops [⟨some 42, .bin .eql .num (.t 4) (.c (.i .i64 8)), none⟩,
 ⟨some 41, .mov (.t 42), none⟩]) ((.cond (.t 41) ((.seq (.ops [⟨some 43, .mov (.mv 0), none⟩,
 ⟨some 44, .call (.f 70) [.mv 43], none⟩,
 ⟨some 45, .bin .add .num (.c (.s [79, 117, 116, 46, 67, 104, 97, 114, 40])) (.t 44), none⟩,
 ⟨some 46, .bin .add .num (.t 45) (.c (.s [41])), none⟩,
 ⟨some 2, .mov (.t 46), none⟩]) (.ret))) ((.seq (.ops [⟨some 48, .bin .eql .num (.t 4) (.c (.i .i64 9)), none⟩,
 ⟨some 47, .mov (.t 48), none⟩]) ((.cond (.t 47) ((.seq (.ops [⟨some 49, .buildSlice (.s []) 3 [(0, (.c (.s [34, 104, 101, 108, 108, 111, 34]))), (1, (.c (.s [116]))), (2, (.c (.s [34, 34])))], none⟩,
 ⟨some 50, .mov (.mv 0), none⟩,
 ⟨some 51, .call (.f 32) [.mv 50, (.c (.i .i64 3))], none⟩,
 ⟨some 52, .indexAddr (.t 49) (.t 51) 1 none, none⟩,
 ⟨some 53, .loadC ⟨1, false⟩ (.t 52), none⟩,
 ⟨some 54, .bin .add .num (.c (.s [79, 117, 116, 46, 83, 116, 114, 105, 110, 103, 40])) (.t 53), none⟩,
 ⟨some 55, .bin .add .num (.t 54) (.c (.s [41])), none⟩,
 ⟨some 2, .mov (.t 55), none⟩]) (.ret))) ((.seq (.ops [⟨some 57, .bin .eql .num (.t 4) (.c (.i .i64 10)), none⟩,
 ⟨some 56, .mov (.t 57), none⟩]) ((.cond (.t 56) ((.seq (.ops [⟨some 58, .buildSlice (.s []) 3 [(0, (.c (.s [34, 97, 98, 99, 100, 101, 34]))), (1, (.c (.s [34, 34]))), (2, (.c (.s [34, 120, 121, 34])))], none⟩,
 ⟨some 59, .mov (.mv 0), none⟩,
 ⟨some 60, .call (.f 32) [.mv 59, (.c (.i .i64 3))], none⟩,
 ⟨some 61, .indexAddr (.t 58) (.t 60) 1 none, none⟩,
 ⟨some 62, .loadC ⟨1, false⟩ (.t 61), none⟩,
 ⟨some 63, .bin .add .num (.c (.s [116, 32, 58, 61, 32])) (.t 62), none⟩,
 ⟨some 2, .mov (.t 63), none⟩]) (.ret))) ((.seq (.ops [⟨some 65, .bin .eql .num (.t 4) (.c (.i .i64 11)), none⟩,
 ⟨some 64, .mov (.t 65), none⟩]) ((.cond (.t 64) ((.seq (.ops [⟨some 66, .buildSlice (.s []) 5 [(0, (.c (.s [112]))), (1, (.c (.s [113]))), (2, (.c (.s [117]))), (3, (.c (.s [112, 46, 110, 101, 120, 116]))), (4, (.c (.s [114, 46, 110, 101, 120, 116])))], none⟩,
 ⟨some 67, .mov (.mv 0), none⟩,
 ⟨some 68, .call (.f 32) [.mv 67, (.c (.i .i64 5))], none⟩,
 ⟨some 69, .indexAddr (.t 66) (.t 68) 1 none, none⟩,
 ⟨some 70, .loadC ⟨1, false⟩ (.t 69), none⟩,
 ⟨some 71, .bin .add .num (.c (.s [78, 69, 87, 40])) (.t 70), none⟩,
 ⟨some 72, .bin .add .num (.t 71) (.c (.s [41])), none⟩,
 ⟨some 2, .mov (.t 72), none⟩]) (.ret))) ((.seq (.ops [⟨some 74, .bin .eql .num (.t 4) (.c (.i .i64 12)), none⟩,
 ⟨some 73, .mov (.t 74), none⟩]) ((.cond (.t 73) ((.seq (.ops [⟨some 75, .buildSlice (.s []) 7 [(0, (.c (.s [112, 32, 58, 61, 32, 113]))), (1, (.c (.s [113, 32, 58, 61, 32, 112]))), (2, (.c (.s [112, 32, 58, 61, 32, 117]))), (3, (.c (.s [113, 32, 58, 61, 32, 117]))), (4, (.c (.s [112, 32, 58, 61, 32, 78, 73, 76]))), (5, (.c (.s [114, 46, 110, 101, 120, 116, 32, 58, 61, 32, 112]))), (6, (.c (.s [117, 32, 58, 61, 32, 113, 40, 83, 41])))], none⟩,
 ⟨some 76, .mov (.mv 0), none⟩,
 ⟨some 77, .call (.f 32) [.mv 76, (.c (.i .i64 7))], none⟩,
 ⟨some 78, .indexAddr (.t 75) (.t 77) 1 none, none⟩,
 ⟨some 79, .loadC ⟨1, false⟩ (.t 78), none⟩,
 ⟨some 2, .mov (.t 79), none⟩]) (.ret))) ((.seq (.ops [⟨some 81, .bin .eql .num (.t 4) (.c (.i .i64 13)), none⟩,
 ⟨some 80, .mov (.t 81), none⟩]) ((.cond (.t 80) ((.seq (.opsD [(⟨some 82, .buildSlice (.s []) 5 [(0, (.c (.s [105]))), (1, (.c (.s [106]))), (2, (.c (.s [97, 91, 50, 93]))), (3, (.c (.s [114, 46, 120]))), (4, (.c (.s [112, 46, 121])))], none⟩, false, []), (⟨some 83, .mov (.t 0), none⟩, false, []), (⟨some 84, .call (.f 32) [.t 83, (.c (.i .i64 5))], none⟩, true, []), (⟨some 85, .indexAddr (.t 82) (.t 84) 1 none, none⟩, false, []), (⟨some 86, .loadC ⟨1, false⟩ (.t 85), none⟩, false, []), (⟨some 87, .bin .add .num (.c (.s [103, 40])) (.t 86), none⟩, false, []), (⟨some 88, .bin .add .num (.t 87) (.c (.s [44, 32])), none⟩, false, []), (⟨some 89, .mov (.t 0), none⟩, false, []), (⟨some 90, .call (.f 56) [.mv 89], none⟩, true, []), (⟨some 91, .bin .add .num (.t 88) (.t 90), none⟩, true, []), (⟨some 92, .bin .add .num (.t 91) (.c (.s [41])), none⟩, true, []), (⟨some 2, .mov (.t 92), none⟩, true, [])]) (.ret))) ((.seq (.ops [⟨some 94, .bin .eql .num (.t 4) (.c (.i .i64 14)), none⟩,
 ⟨some 93, .mov (.t 94), none⟩]) ((.cond (.t 93) ((.seq (.ops [⟨some 2, .mov (.c (.s [104, 40, 97, 41])), none⟩]) (.ret))) ((.seq (.ops [⟨some 96, .bin .eql .num (.t 4) (.c (.i .i64 15)), none⟩,
 ⟨some 95, .mov (.t 96), none⟩]) ((.cond (.t 95) ((.seq (.ops [⟨some 97, .mov (.t 0), none⟩,
 ⟨some 98, .call (.f 69) [.t 97], none⟩,
 ⟨some 99, .bin .add .num (.c (.s [73, 78, 67, 40])) (.t 98), none⟩,
 ⟨some 100, .bin .add .num (.t 99) (.c (.s [44, 32])), none⟩,
 ⟨some 101, .mov (.mv 0), none⟩,
 ⟨some 102, .call (.f 56) [.mv 101], none⟩,
 ⟨some 103, .bin .add .num (.t 100) (.t 102), none⟩,
 ⟨some 104, .bin .add .num (.t 103) (.c (.s [41])), none⟩,
 ⟨some 2, .mov (.t 104), none⟩]) (.ret))) ((.seq (.ops [⟨some 106, .bin .eql .num (.t 4) (.c (.i .i64 16)), none⟩,
 ⟨some 105, .mov (.t 106), none⟩]) ((.cond (.t 105) ((.seq (.ops [⟨some 107, .mov (.mv 0), none⟩,
 ⟨some 108, .call (.f 69) [.mv 107], none⟩,
 ⟨some 109, .bin .add .num (.c (.s [68, 69, 67, 40])) (.t 108), none⟩,
 ⟨some 110, .bin .add .num (.t 109) (.c (.s [41])), none⟩,
 ⟨some 2, .mov (.t 110), none⟩]) (.ret))) ((.seq (.ops [⟨some 112, .bin .eql .num (.t 4) (.c (.i .i64 17)), none⟩,
 ⟨some 111, .mov (.t 112), none⟩]) ((.cond (.t 111) ((.seq (.opsD [(⟨some 113, .buildSlice (.s []) 2 [(0, (.c (.s [73, 78, 67, 76]))), (1, (.c (.s [69, 88, 67, 76])))], none⟩, false, []), (⟨some 114, .mov (.t 0), none⟩, false, []), (⟨some 115, .call (.f 32) [.t 114, (.c (.i .i64 2))], none⟩, true, []), (⟨some 116, .indexAddr (.t 113) (.t 115) 1 none, none⟩, false, []), (⟨some 117, .loadC ⟨1, false⟩ (.t 116), none⟩, false, []), (⟨some 118, .bin .add .num (.t 117) (.c (.s [40, 115, 44, 32])), none⟩, false, []), (⟨some 119, .buildSlice (.s []) 3 [(0, (.c (.s [51]))), (1, (.c (.s [105, 32, 77, 79, 68, 32, 51, 50]))), (2, (.c (.s [106])))], none⟩, false, []), (⟨some 120, .mov (.t 0), none⟩, false, []), (⟨some 121, .call (.f 32) [.mv 120, (.c (.i .i64 3))], none⟩, true, []), (⟨some 122, .indexAddr (.t 119) (.t 121) 1 none, none⟩, false, []), (⟨some 123, .loadC ⟨1, false⟩ (.t 122), none⟩, false, []), (⟨some 124, .bin .add .num (.t 118) (.t 123), none⟩, true, []), (⟨some 125, .bin .add .num (.t 124) (.c (.s [41])), none⟩, true, []), (⟨some 2, .mov (.t 125), none⟩, true, [])]) (.ret))) ((.seq (.ops [⟨some 127, .bin .eql .num (.t 4) (.c (.i .i64 18)), none⟩,
 ⟨some 126, .mov (.t 127), none⟩]) ((.cond (.t 126) ((.seq (.ops [⟨some 128, .buildSlice (.s []) 3 [(0, (.c (.s [99]))), (1, (.c (.s [116, 91, 49, 93]))), (2, (.c (.s [117, 46, 122])))], none⟩,
 ⟨some 129, .mov (.mv 0), none⟩,
 ⟨some 130, .call (.f 32) [.mv 129, (.c (.i .i64 3))], none⟩,
 ⟨some 131, .indexAddr (.t 128) (.t 130) 1 none, none⟩,
 ⟨some 132, .loadC ⟨1, false⟩ (.t 131), none⟩,
 ⟨some 133, .bin .add .num (.c (.s [73, 110, 46, 67, 104, 97, 114, 40])) (.t 132), none⟩,
 ⟨some 134, .bin .add .num (.t 133) (.c (.s [41])), none⟩,
 ⟨some 2, .mov (.t 134), none⟩]) (.ret))) ((.seq (.ops [⟨some 136, .bin .eql .num (.t 4) (.c (.i .i64 19)), none⟩,
 ⟨some 135, .mov (.t 136), none⟩]) ((.cond (.t 135) ((.seq (.ops [⟨some 137, .mov (.mv 0), none⟩,
 ⟨some 138, .call (.f 55) [.mv 137], none⟩,
 ⟨some 139, .bin .add .num (.c (.s [65, 83, 83, 69, 82, 84, 40])) (.t 138), none⟩,
 ⟨some 140, .bin .add .num (.t 139) (.c (.s [41])), none⟩,
 ⟨some 2, .mov (.t 140), none⟩]) (.ret))) ((.seq (.ops [⟨some 142, .bin .eql .num (.t 4) (.c (.i .i64 20)), none⟩,
 ⟨some 141, .mov (.t 142), none⟩]) ((.cond (.t 141) ((.seq (.ops [⟨some 143, .buildSlice (.s []) 3 [(0, (.c (.s [114, 32, 58, 61, 32, 112, 94]))), (1, (.c (.s [112, 94, 32, 58, 61, 32, 114]))), (2, (.c (.s [113, 94, 32, 58, 61, 32, 112, 94])))], none⟩,
 ⟨some 144, .mov (.mv 0), none⟩,
 ⟨some 145, .call (.f 32) [.mv 144, (.c (.i .i64 3))], none⟩,
 ⟨some 146, .indexAddr (.t 143) (.t 145) 1 none, none⟩,
 ⟨some 147, .loadC ⟨1, false⟩ (.t 146), none⟩,
 ⟨some 2, .mov (.t 147), none⟩]) (.ret))) ((.seq (.ops [⟨some 149, .bin .eql .num (.t 4) (.c (.i .i64 21)), none⟩,
 ⟨some 148, .mov (.t 149), none⟩]) ((.cond (.t 148) ((.seq (.ops [⟨some 2, .mov (.c (.s [100, 32, 58, 61, 32, 97, 59, 32, 97, 91, 51, 93, 32, 58, 61, 32, 100, 91, 48, 93])), none⟩]) (.ret))) ((.seq (.ops [⟨some 151, .bin .eql .num (.t 4) (.c (.i .i64 22)), none⟩,
 ⟨some 150, .mov (.t 151), none⟩]) ((.cond (.t 150) ((.seq (.ops [⟨some 152, .mov (.mv 0), none⟩,
 ⟨some 153, .call (.f 56) [.mv 152], none⟩,
 ⟨some 154, .bin .add .num (.c (.s [101, 91, 105, 32, 77, 79, 68, 32, 50, 44, 32, 49, 93, 32, 58, 61, 32])) (.t 153), none⟩,
 ⟨some 2, .mov (.t 154), none⟩]) (.ret))) ((.seq (.ops [⟨some 156, .bin .eql .num (.t 4) (.c (.i .i64 23)), none⟩,
 ⟨some 155, .mov (.t 156), none⟩]) ((.cond (.t 155) ((.seq (.ops [⟨some 2, .mov (.c (.s [110, 32, 58, 61, 32, 110, 32, 43, 32, 49])), none⟩]) (.ret))) ((.seq (.ops [⟨some 158, .bin .eql .num (.t 4) (.c (.i .i64 24)), none⟩,
 ⟨some 157, .mov (.t 158), none⟩]) ((.cond (.t 157) ((.seq (.ops [⟨some 2, .mov (.c (.s [79, 117, 116, 46, 73, 110, 116, 40, 101, 91, 49, 93, 91, 106, 32, 77, 79, 68, 32, 51, 93, 41])), none⟩]) (.ret))) (.skip))))))))))))))))))))))))))))))))))))))))))))))))))))))))))))))))))))))))))))))))))))))))))))))))) ((.seq (.ops [⟨some 159, .mov (.mv 0), none⟩,
 ⟨some 160, .call (.f 72) [.mv 159], none⟩,
 ⟨some 161, .bin .add .num (.c (.s [106, 32, 58, 61, 32])) (.t 160), none⟩,
 ⟨some 2, .mov (.t 161), none⟩]) (.ret)))))), none, none⟩
def kC : Fn := ⟨1, [.t 2], true, (.seq (.ops [⟨some 2, .mov (.c (.s [])), none⟩]) ((.seq ((.seq (.ops [⟨some 4, .mov (.t 0), none⟩,
 ⟨some 5, .nilCheck (.t 4), none⟩,
 ⟨some 6, .fieldAddr (.t 5) 2 ⟨1, false⟩, none⟩,
 ⟨some 7, .load false none ⟨1, false⟩ (.t 6), none⟩,
 ⟨some 8, .bin .leq .num (.t 7) (.c (.i .i64 0)), none⟩]) ((.cond (.t 8) ((.seq (.ops [⟨some 9, .buildSlice (.s []) 3 [(0, (.c (.s [98]))), (1, (.c (.s [84, 82, 85, 69]))), (2, (.c (.s [105, 32, 60, 32, 110])))], none⟩,
 ⟨some 10, .mov (.mv 0), none⟩,
 ⟨some 11, .call (.f 32) [.mv 10, (.c (.i .i64 3))], none⟩,
 ⟨some 12, .indexAddr (.t 9) (.t 11) 1 none, none⟩,
 ⟨some 13, .loadC ⟨1, false⟩ (.t 12), none⟩,
 ⟨some 2, .mov (.t 13), none⟩]) (.ret))) (.skip))))) ((.seq (.ops [⟨some 14, .mov (.t 0), none⟩,
 ⟨some 15, .nilCheck (.t 14), none⟩,
 ⟨some 16, .fieldAddr (.t 15) 2 ⟨1, false⟩, none⟩,
 ⟨some 17, .load false none ⟨1, false⟩ (.t 16), none⟩,
 ⟨some 18, .bin .sub .num (.t 17) (.c (.i .i64 1)), none⟩,
 ⟨some 19, .nilCheck (.t 14), none⟩,
 ⟨some 20, .fieldAddr (.t 19) 2 ⟨1, false⟩, none⟩,
 ⟨none, .store none ⟨1, false⟩ (.t 20) (.t 18), none⟩]) ((.seq (.ops [⟨some 3, .mov (.c (.s [])), none⟩]) ((.seq ((.seq (.ops [⟨some 21, .mov (.t 0), none⟩,
 ⟨some 22, .call (.f 32) [.t 21, (.c (.i .i64 14))], none⟩]) ((.block 0 [0, 3] ((.seq (.ops [⟨some 30, .bin .eql .num (.t 22) (.c (.i .i64 0)), none⟩,
 ⟨some 29, .mov (.t 30), none⟩]) ((.cond (.t 29) (.ops [⟨some 3, .mov (.c (.s [98])), none⟩]) ((.seq (.ops [⟨some 32, .bin .eql .num (.t 22) (.c (.i .i64 1)), none⟩,
 ⟨some 31, .mov (.t 32), none⟩]) ((.cond (.t 31) (.opsD [(⟨some 33, .mov (.t 0), none⟩, false, []), (⟨some 34, .call (.f 56) [.t 33], none⟩, true, []), (⟨some 35, .buildSlice (.s []) 6 [(0, (.c (.s [32, 60, 32]))), (1, (.c (.s [32, 60, 61, 32]))), (2, (.c (.s [32, 62, 32]))), (3, (.c (.s [32, 62, 61, 32]))), (4, (.c (.s [32, 61, 32]))), (5, (.c (.s [32, 35, 32])))], none⟩, false, []), (⟨some 36, .mov (.t 0), none⟩, false, []), (⟨some 37, .call (.f 32) [.t 36, (.c (.i .i64 6))], none⟩, true, []), (⟨some 38, .indexAddr (.t 35) (.t 37) 1 none, none⟩, false, []), (⟨some 39, .loadC ⟨1, false⟩ (.t 38), none⟩, false, []), (⟨some 40, .bin .add .num (.t 34) (.t 39), none⟩, false, []), (⟨some 41, .mov (.t 0), none⟩, false, []), (⟨some 42, .call (.f 56) [.t 41], none⟩, true, []), (⟨some 43, .bin .add .num (.t 40) (.t 42), none⟩, true, []), (⟨some 3, .mov (.t 43), none⟩, true, [])]) ((.seq (.ops [⟨some 45, .bin .eql .num (.t 22) (.c (.i .i64 2)), none⟩,
 ⟨some 44, .mov (.t 45), none⟩]) ((.cond (.t 44) (.ops [⟨some 46, .mov (.t 0), none⟩,
 ⟨some 47, .call (.f 55) [.t 46], none⟩,
 ⟨some 48, .bin .add .num (.c (.s [40])) (.t 47), none⟩,
 ⟨some 49, .bin .add .num (.t 48) (.c (.s [41, 32, 38, 32, 40])), none⟩,
 ⟨some 50, .mov (.t 0), none⟩,
 ⟨some 51, .call (.f 55) [.t 50], none⟩,
 ⟨some 52, .bin .add .num (.t 49) (.t 51), none⟩,
 ⟨some 53, .bin .add .num (.t 52) (.c (.s [41])), none⟩,
 ⟨some 3, .mov (.t 53), none⟩]) ((.seq (.ops [⟨some 55, .bin .eql .num (.t 22) (.c (.i .i64 3)), none⟩,
 ⟨some 54, .mov (.t 55), none⟩]) ((.cond (.t 54) (.ops [⟨some 56, .mov (.t 0), none⟩,
 ⟨some 57, .call (.f 55) [.t 56], none⟩,
 ⟨some 58, .bin .add .num (.c (.s [40])) (.t 57), none⟩,
 ⟨some 59, .bin .add .num (.t 58) (.c (.s [41, 32, 79, 82, 32, 40])), none⟩,
 ⟨some 60, .mov (.t 0), none⟩,
 ⟨some 61, .call (.f 55) [.t 60], none⟩,
 ⟨some 62, .bin .add .num (.t 59) (.t 61), none⟩,
 ⟨some 63, .bin .add .num (.t 62) (.c (.s [41])), none⟩,
 ⟨some 3, .mov (.t 63), none⟩]) ((.seq (.ops [⟨some 65, .bin .eql .num (.t 22) (.c (.i .i64 4)), none⟩,
 ⟨some 64, .mov (.t 65), none⟩]) ((.cond (.t 64) (.ops [⟨some 66, .mov (.t 0), none⟩,
 ⟨some 67, .call (.f 55) [.t 66], none⟩,
 ⟨some 68, .bin .add .num (.c (.s [126, 40])) (.t 67), none⟩,
 ⟨some 69, .bin .add .num (.t 68) (.c (.s [41])), none⟩,
 ⟨some 3, .mov (.t 69), none⟩]) ((.seq (.ops [⟨some 71, .bin .eql .num (.t 22) (.c (.i .i64 5)), none⟩,
 ⟨some 70, .mov (.t 71), none⟩]) ((.cond (.t 70) (.ops [⟨some 72, .mov (.t 0), none⟩,
 ⟨some 73, .call (.f 56) [.t 72], none⟩,
 ⟨some 74, .bin .add .num (.t 73) (.c (.s [32, 73, 78, 32])), none⟩,
 ⟨some 75, .mov (.t 0), none⟩,
 ⟨some 76, .call (.f 71) [.t 75], none⟩,
 ⟨some 77, .bin .add .num (.t 74) (.t 76), none⟩,
 ⟨some 3, .mov (.t 77), none⟩]) ((.seq (.ops [⟨some 79, .bin .eql .num (.t 22) (.c (.i .i64 6)), none⟩,
 ⟨some 78, .mov (.t 79), none⟩]) ((.cond (.t 78) (.ops [⟨some 80, .mov (.t 0), none⟩,
 ⟨some 81, .call (.f 56) [.t 80], none⟩,
 ⟨some 82, .bin .add .num (.c (.s [79, 68, 68, 40])) (.t 81), none⟩,
 ⟨some 83, .bin .add .num (.t 82) (.c (.s [41])), none⟩,
 ⟨some 3, .mov (.t 83), none⟩]) ((.seq (.ops [⟨some 85, .bin .eql .num (.t 22) (.c (.i .i64 7)), none⟩,
 ⟨some 84, .mov (.t 85), none⟩]) ((.cond (.t 84) (.ops [⟨some 86, .buildSlice (.s []) 5 [(0, (.c (.s [112, 32, 61, 32, 78, 73, 76]))), (1, (.c (.s [112, 32, 35, 32, 113]))), (2, (.c (.s [111, 40, 112, 41]))), (3, (.c (.s [112, 32, 61, 32, 117]))), (4, (.c (.s [78, 73, 76, 32, 35, 32, 113])))], none⟩,
 ⟨some 87, .mov (.t 0), none⟩,
 ⟨some 88, .call (.f 32) [.t 87, (.c (.i .i64 5))], none⟩,
 ⟨some 89, .indexAddr (.t 86) (.t 88) 1 none, none⟩,
 ⟨some 90, .loadC ⟨1, false⟩ (.t 89), none⟩,
 ⟨some 3, .mov (.t 90), none⟩]) ((.seq (.ops [⟨some 92, .bin .eql .num (.t 22) (.c (.i .i64 8)), none⟩,
 ⟨some 91, .mov (.t 92), none⟩]) ((.cond (.t 91) (.ops [⟨some 93, .buildSlice (.s []) 3 [(0, (.c (.s [113, 32, 73, 83, 32, 83]))), (1, (.c (.s [112, 32, 73, 83, 32, 82]))), (2, (.c (.s [117, 32, 73, 83, 32, 83])))], none⟩,
 ⟨some 94, .mov (.t 0), none⟩,
 ⟨some 95, .call (.f 32) [.t 94, (.c (.i .i64 3))], none⟩,
 ⟨some 96, .indexAddr (.t 93) (.t 95) 1 none, none⟩,
 ⟨some 97, .loadC ⟨1, false⟩ (.t 96), none⟩,
 ⟨some 3, .mov (.t 97), none⟩]) ((.seq (.ops [⟨some 99, .bin .eql .num (.t 22) (.c (.i .i64 9)), none⟩,
 ⟨some 98, .mov (.t 99), none⟩]) ((.cond (.t 98) (.opsD [(⟨some 100, .buildSlice (.s []) 3 [(0, (.c (.s [32, 60, 32]))), (1, (.c (.s [32, 61, 32]))), (2, (.c (.s [32, 62, 61, 32])))], none⟩, false, []), (⟨some 101, .mov (.t 0), none⟩, false, []), (⟨some 102, .call (.f 32) [.t 101, (.c (.i .i64 3))], none⟩, true, []), (⟨some 103, .indexAddr (.t 100) (.t 102) 1 none, none⟩, false, []), (⟨some 104, .loadC ⟨1, false⟩ (.t 103), none⟩, false, []), (⟨some 105, .bin .add .num (.c (.s [99])) (.t 104), none⟩, false, []), (⟨some 106, .buildSlice (.s []) 3 [(0, (.c (.s [34, 109, 34]))), (1, (.c (.s [116, 91, 49, 93]))), (2, (.c (.s [50, 48, 88])))], none⟩, false, []), (⟨some 107, .mov (.t 0), none⟩, false, []), (⟨some 108, .call (.f 32) [.t 107, (.c (.i .i64 3))], none⟩, true, []), (⟨some 109, .indexAddr (.t 106) (.t 108) 1 none, none⟩, false, []), (⟨some 110, .loadC ⟨1, false⟩ (.t 109), none⟩, false, []), (⟨some 111, .bin .add .num (.t 105) (.t 110), none⟩, true, []), (⟨some 3, .mov (.t 111), none⟩, true, [])]) ((.seq (.ops [⟨some 113, .bin .eql .num (.t 22) (.c (.i .i64 10)), none⟩,
 ⟨some 112, .mov (.t 113), none⟩]) ((.cond (.t 112) (.opsD [(⟨some 114, .mov (.t 0), none⟩, false, []), (⟨some 115, .call (.f 71) [.t 114], none⟩, true, []), (⟨some 116, .buildSlice (.s []) 2 [(0, (.c (.s [32, 61, 32]))), (1, (.c (.s [32, 35, 32])))], none⟩, false, []), (⟨some 117, .mov (.t 0), none⟩, false, []), (⟨some 118, .call (.f 32) [.t 117, (.c (.i .i64 2))], none⟩, true, []), (⟨some 119, .indexAddr (.t 116) (.t 118) 1 none, none⟩, false, []), (⟨some 120, .loadC ⟨1, false⟩ (.t 119), none⟩, false, []), (⟨some 121, .bin .add .num (.t 115) (.t 120), none⟩, false, []), (⟨some 122, .mov (.t 0), none⟩, false, []), (⟨some 123, .call (.f 71) [.t 122], none⟩, true, []), (⟨some 124, .bin .add .num (.t 121) (.t 123), none⟩, true, []), (⟨some 3, .mov (.t 124), none⟩, true, [])]) ((.seq (.ops [⟨some 126, .bin .eql .num (.t 22) (.c (.i .i64 11)), none⟩,
 ⟨some 125, .mov (.t 126), none⟩]) ((.cond (.t 125) (.ops [⟨some 3, .mov (.c (.s [73, 110, 46, 69, 111, 102, 40, 41])), none⟩]) (.ops [⟨some 23, .mov (.t 0), none⟩,
 ⟨some 24, .call (.f 72) [.t 23], none⟩,
 ⟨some 25, .bin .add .num (.t 24) (.c (.s [32, 62, 32])), none⟩,
 ⟨some 26, .mov (.t 0), none⟩,
 ⟨some 27, .call (.f 72) [.t 26], none⟩,
 ⟨some 28, .bin .add .num (.t 25) (.t 27), none⟩,
 ⟨some 3, .mov (.t 28), none⟩]))))))))))))))))))))))))))))))))))))))))))))))))))))) ((.seq (.ops [⟨some 127, .mov (.t 0), none⟩,
 ⟨some 128, .nilCheck (.t 127), none⟩,
 ⟨some 129, .fieldAddr (.t 128) 2 ⟨1, false⟩, none⟩,
 ⟨some 130, .load false none ⟨1, false⟩ (.t 129), none⟩,
 ⟨some 131, .bin .add .num (.t 130) (.c (.i .i64 1)), none⟩,
 ⟨some 132, .nilCheck (.t 127), none⟩,
 ⟨some 133, .fieldAddr (.t 132) 2 ⟨1, false⟩, none⟩,
 ⟨none, .store none ⟨1, false⟩ (.t 133) (.t 131), none⟩]) ((.seq (.ops [⟨some 134, .mov (.t 3), none⟩,
 ⟨some 2, .mov (.t 134), none⟩]) (.ret)))))))))))))), none, none⟩
def kc : Fn := ⟨1, [.t 2], true, (.seq (.ops [⟨some 2, .mov (.c (.s [])), none⟩]) ((.seq ((.seq (.ops [⟨some 4, .mov (.t 0), none⟩,
 ⟨some 5, .nilCheck (.t 4), none⟩,
 ⟨some 6, .fieldAddr (.t 5) 2 ⟨1, false⟩, none⟩,
 ⟨some 7, .load false none ⟨1, false⟩ (.t 6), none⟩,
 ⟨some 8, .bin .leq .num (.t 7) (.c (.i .i64 0)), none⟩]) ((.cond (.t 8) ((.seq (.ops [⟨some 9, .mov (.mv 0), none⟩,
 ⟨some 10, .call (.f 72) [.mv 9], none⟩,
 ⟨some 2, .mov (.mv 10), none⟩]) (.ret))) (.skip))))) ((.seq (.ops [⟨some 11, .mov (.t 0), none⟩,
 ⟨some 12, .nilCheck (.t 11), none⟩,
 ⟨some 13, .fieldAddr (.t 12) 2 ⟨1, false⟩, none⟩,
 ⟨some 14, .load false none ⟨1, false⟩ (.t 13), none⟩,
 ⟨some 15, .bin .sub .num (.t 14) (.c (.i .i64 1)), none⟩,
 ⟨some 16, .nilCheck (.t 11), none⟩,
 ⟨some 17, .fieldAddr (.t 16) 2 ⟨1, false⟩, none⟩,
 ⟨none, .store none ⟨1, false⟩ (.t 17) (.t 15), none⟩]) ((.seq (.ops [⟨some 3, .mov (.c (.s [])), none⟩]) ((.seq ((.seq (.ops [⟨some 18, .mov (.t 0), none⟩,
 ⟨some 19, .call (.f 32) [.t 18, (.c (.i .i64 20))], none⟩]) ((.block 0 [0, 3] ((.seq ((.seq (.ops [⟨some 29, .bin .eql .num (.t 19) (.c (.i .i64 0)), none⟩,
 ⟨some 28, .mov (.t 29), none⟩]) ((.cond (.t 28) (.skip) ((.seq (.ops [⟨some 30, .bin .eql .num (.t 19) (.c (.i .i64 1)), none⟩,
 ⟨some 28, .mov (.t 30), none⟩]) ((.cond (.t 28) (.skip) ((.seq (.ops [⟨some 31, .bin .eql .num (.t 19) (.c (.i .i64 2)), none⟩,
 ⟨some 28, .mov (.t 31), none⟩]) ((.cond (.t 28) (.skip) (.ops [⟨some 32, .bin .eql .num (.t 19) (.c (.i .i64 3)), none⟩,
 ⟨some 28, .mov (.t 32), none⟩]))))))))))))) ((.cond (.t 28) (.ops [⟨some 33, .mov (.t 0), none⟩,
 ⟨some 34, .call (.f 72) [.t 33], none⟩,
 ⟨some 3, .mov (.mv 34), none⟩]) ((.seq (.ops [⟨some 36, .bin .eql .num (.t 19) (.c (.i .i64 4)), none⟩,
 ⟨some 35, .mov (.t 36), none⟩]) ((.cond (.t 35) (.ops [⟨some 37, .mov (.t 0), none⟩,
 ⟨some 38, .call (.f 56) [.t 37], none⟩,
 ⟨some 39, .bin .add .num (.c (.s [40])) (.t 38), none⟩,
 ⟨some 40, .bin .add .num (.t 39) (.c (.s [32, 43, 32])), none⟩,
 ⟨some 41, .mov (.t 0), none⟩,
 ⟨some 42, .call (.f 56) [.t 41], none⟩,
 ⟨some 43, .bin .add .num (.t 40) (.t 42), none⟩,
 ⟨some 44, .bin .add .num (.t 43) (.c (.s [41])), none⟩,
 ⟨some 3, .mov (.t 44), none⟩]) ((.seq (.ops [⟨some 46, .bin .eql .num (.t 19) (.c (.i .i64 5)), none⟩,
 ⟨some 45, .mov (.t 46), none⟩]) ((.cond (.t 45) (.ops [⟨some 47, .mov (.t 0), none⟩,
 ⟨some 48, .call (.f 56) [.t 47], none⟩,
 ⟨some 49, .bin .add .num (.c (.s [40])) (.t 48), none⟩,
 ⟨some 50, .bin .add .num (.t 49) (.c (.s [32, 45, 32])), none⟩,
 ⟨some 51, .mov (.t 0), none⟩,
 ⟨some 52, .call (.f 56) [.t 51], none⟩,
 ⟨some 53, .bin .add .num (.t 50) (.t 52), none⟩,
 ⟨some 54, .bin .add .num (.t 53) (.c (.s [41])), none⟩,
 ⟨some 3, .mov (.t 54), none⟩]) ((.seq (.ops [⟨some 56, .bin .eql .num (.t 19) (.c (.i .i64 6)), none⟩,
 ⟨some 55, .mov (.t 56), none⟩]) ((.cond (.t 55) (.ops [⟨some 57, .mov (.t 0), none⟩,
 ⟨some 58, .call (.f 56) [.t 57], none⟩,
 ⟨some 59, .bin .add .num (.c (.s [40])) (.t 58), none⟩,
 ⟨some 60, .bin .add .num (.t 59) (.c (.s [32, 42, 32])), none⟩,
 ⟨some 61, .mov (.t 0), none⟩,
 ⟨some 62, .call (.f 56) [.t 61], none⟩,
 ⟨some 63, .bin .add .num (.t 60) (.t 62), none⟩,
 ⟨some 64, .bin .add .num (.t 63) (.c (.s [41])), none⟩,
 ⟨some 3, .mov (.t 64), none⟩]) ((.seq (.ops [⟨some 66, .bin .eql .num (.t 19) (.c (.i .i64 7)), none⟩,
 ⟨some 65, .mov (.t 66), none⟩]) ((.cond (.t 65) (.ops [⟨some 67, .mov (.t 0), none⟩,
 ⟨some 68, .call (.f 56) [.t 67], none⟩,
 ⟨some 69, .bin .add .num (.c (.s [40])) (.t 68), none⟩,
 ⟨some 70, .bin .add .num (.t 69) (.c (.s [32, 68, 73, 86, 32])), none⟩,
 ⟨some 71, .buildSlice (.s []) 4 [(0, (.c (.s [50]))), (1, (.c (.s [51]))), (2, (.c (.s [55]))), (3, (.c (.s [110])))], none⟩,
 ⟨some 72, .mov (.t 0), none⟩,
 ⟨some 73, .call (.f 32) [.t 72, (.c (.i .i64 4))], none⟩,
 ⟨some 74, .indexAddr (.t 71) (.t 73) 1 none, none⟩,
 ⟨some 75, .loadC ⟨1, false⟩ (.t 74), none⟩,
 ⟨some 76, .bin .add .num (.t 70) (.t 75), none⟩,
 ⟨some 77, .bin .add .num (.t 76) (.c (.s [41])), none⟩,
 ⟨some 3, .mov (.t 77), none⟩]) ((.seq (.ops [⟨some 79, .bin .eql .num (.t 19) (.c (.i .i64 8)), none⟩,
 ⟨some 78, .mov (.t 79), none⟩]) ((.cond (.t 78) (.ops [⟨some 80, .mov (.t 0), none⟩,
 ⟨some 81, .call (.f 56) [.t 80], none⟩,
 ⟨some 82, .bin .add .num (.c (.s [40])) (.t 81), none⟩,
 ⟨some 83, .bin .add .num (.t 82) (.c (.s [32, 77, 79, 68, 32])), none⟩,
 ⟨some 84, .buildSlice (.s []) 3 [(0, (.c (.s [52]))), (1, (.c (.s [53]))), (2, (.c (.s [110])))], none⟩,
 ⟨some 85, .mov (.t 0), none⟩,
 ⟨some 86, .call (.f 32) [.t 85, (.c (.i .i64 3))], none⟩,
 ⟨some 87, .indexAddr (.t 84) (.t 86) 1 none, none⟩,
 ⟨some 88, .loadC ⟨1, false⟩ (.t 87), none⟩,
 ⟨some 89, .bin .add .num (.t 83) (.t 88), none⟩,
 ⟨some 90, .bin .add .num (.t 89) (.c (.s [41])), none⟩,
 ⟨some 3, .mov (.t 90), none⟩]) ((.seq (.ops [⟨some 92, .bin .eql .num (.t 19) (.c (.i .i64 9)), none⟩,
 ⟨some 91, .mov (.t 92), none⟩]) ((.cond (.t 91) (.ops [⟨some 93, .mov (.t 0), none⟩,
 ⟨some 94, .call (.f 56) [.t 93], none⟩,
 ⟨some 95, .bin .add .num (.c (.s [97, 91])) (.t 94), none⟩,
 ⟨some 96, .bin .add .num (.t 95) (.c (.s [32, 77, 79, 68, 32, 52, 93])), none⟩,
 ⟨some 3, .mov (.t 96), none⟩]) ((.seq (.ops [⟨some 98, .bin .eql .num (.t 19) (.c (.i .i64 10)), none⟩,
 ⟨some 97, .mov (.t 98), none⟩]) ((.cond (.t 97) (.ops [⟨some 99, .mov (.t 0), none⟩,
 ⟨some 100, .call (.f 56) [.t 99], none⟩,
 ⟨some 101, .bin .add .num (.c (.s [102, 40])) (.t 100), none⟩,
 ⟨some 102, .bin .add .num (.t 101) (.c (.s [44, 32])), none⟩,
 ⟨some 103, .buildSlice (.s []) 3 [(0, (.c (.s [50]))), (1, (.c (.s [51]))), (2, (.c (.s [106, 32, 77, 79, 68, 32, 52])))], none⟩,
 ⟨some 104, .mov (.t 0), none⟩,
 ⟨some 105, .call (.f 32) [.t 104, (.c (.i .i64 3))], none⟩,
 ⟨some 106, .indexAddr (.t 103) (.t 105) 1 none, none⟩,
 ⟨some 107, .loadC ⟨1, false⟩ (.t 106), none⟩,
 ⟨some 108, .bin .add .num (.t 102) (.t 107), none⟩,
 ⟨some 109, .bin .add .num (.t 108) (.c (.s [41])), none⟩,
 ⟨some 3, .mov (.t 109), none⟩]) ((.seq (.ops [⟨some 111, .bin .eql .num (.t 19) (.c (.i .i64 11)), none⟩,
 ⟨some 110, .mov (.t 111), none⟩]) ((.cond (.t 110) (.ops [⟨some 112, .mov (.t 0), none⟩,
 ⟨some 113, .call (.f 70) [.t 112], none⟩,
 ⟨some 114, .bin .add .num (.c (.s [79, 82, 68, 40])) (.t 113), none⟩,
 ⟨some 115, .bin .add .num (.t 114) (.c (.s [41])), none⟩,
 ⟨some 3, .mov (.t 115), none⟩]) ((.seq (.ops [⟨some 117, .bin .eql .num (.t 19) (.c (.i .i64 12)), none⟩,
 ⟨some 116, .mov (.t 117), none⟩]) ((.cond (.t 116) (.ops [⟨some 118, .mov (.t 0), none⟩,
 ⟨some 119, .call (.f 56) [.t 118], none⟩,
 ⟨some 120, .bin .add .num (.c (.s [65, 66, 83, 40])) (.t 119), none⟩,
 ⟨some 121, .bin .add .num (.t 120) (.c (.s [41])), none⟩,
 ⟨some 3, .mov (.t 121), none⟩]) ((.seq (.ops [⟨some 123, .bin .eql .num (.t 19) (.c (.i .i64 13)), none⟩,
 ⟨some 122, .mov (.t 123), none⟩]) ((.cond (.t 122) (.opsD [(⟨some 124, .buildSlice (.s []) 3 [(0, (.c (.s [76, 83, 76]))), (1, (.c (.s [65, 83, 82]))), (2, (.c (.s [82, 79, 82])))], none⟩, false, []), (⟨some 125, .mov (.t 0), none⟩, false, []), (⟨some 126, .call (.f 32) [.t 125, (.c (.i .i64 3))], none⟩, true, []), (⟨some 127, .indexAddr (.t 124) (.t 126) 1 none, none⟩, false, []), (⟨some 128, .loadC ⟨1, false⟩ (.t 127), none⟩, false, []), (⟨some 129, .bin .add .num (.t 128) (.c (.s [40])), none⟩, false, []), (⟨some 130, .mov (.t 0), none⟩, false, []), (⟨some 131, .call (.f 56) [.t 130], none⟩, true, []), (⟨some 132, .bin .add .num (.t 129) (.t 131), none⟩, false, []), (⟨some 133, .bin .add .num (.t 132) (.c (.s [44, 32])), none⟩, false, []), (⟨some 134, .mov (.t 0), none⟩, false, []), (⟨some 135, .call (.f 56) [.t 134], none⟩, true, []), (⟨some 136, .bin .add .num (.t 133) (.t 135), none⟩, true, []), (⟨some 137, .bin .add .num (.t 136) (.c (.s [41])), none⟩, true, []), (⟨some 3, .mov (.t 137), none⟩, true, [])]) ((.seq (.ops [⟨some 139, .bin .eql .num (.t 19) (.c (.i .i64 14)), none⟩,
 ⟨some 138, .mov (.t 139), none⟩]) ((.cond (.t 138) (.ops [⟨some 140, .mov (.t 0), none⟩,
 ⟨some 141, .call (.f 72) [.t 140], none⟩,
 ⟨some 142, .bin .add .num (.c (.s [40, 45])) (.t 141), none⟩,
 ⟨some 143, .bin .add .num (.t 142) (.c (.s [41])), none⟩,
 ⟨some 3, .mov (.t 143), none⟩]) ((.seq (.ops [⟨some 145, .bin .eql .num (.t 19) (.c (.i .i64 15)), none⟩,
 ⟨some 144, .mov (.t 145), none⟩]) ((.cond (.t 144) (.ops [⟨some 146, .buildSlice (.s []) 6 [(0, (.c (.s [112, 46, 120]))), (1, (.c (.s [113, 46, 121]))), (2, (.c (.s [112, 46, 110, 101, 120, 116, 46, 120]))), (3, (.c (.s [117, 46, 120]))), (4, (.c (.s [113, 40, 83, 41, 46, 120]))), (5, (.c (.s [97, 91, 106, 93])))], none⟩,
 ⟨some 147, .mov (.t 0), none⟩,
 ⟨some 148, .call (.f 32) [.t 147, (.c (.i .i64 6))], none⟩,
 ⟨some 149, .indexAddr (.t 146) (.t 148) 1 none, none⟩,
 ⟨some 150, .loadC ⟨1, false⟩ (.t 149), none⟩,
 ⟨some 3, .mov (.t 150), none⟩]) ((.seq (.ops [⟨some 152, .bin .eql .num (.t 19) (.c (.i .i64 16)), none⟩,
 ⟨some 151, .mov (.t 152), none⟩]) ((.cond (.t 151) (.ops [⟨some 153, .mov (.t 0), none⟩,
 ⟨some 154, .call (.f 71) [.t 153], none⟩,
 ⟨some 155, .bin .add .num (.c (.s [79, 82, 68, 40])) (.t 154), none⟩,
 ⟨some 156, .bin .add .num (.t 155) (.c (.s [41])), none⟩,
 ⟨some 3, .mov (.t 156), none⟩]) ((.seq (.ops [⟨some 158, .bin .eql .num (.t 19) (.c (.i .i64 17)), none⟩,
 ⟨some 157, .mov (.t 158), none⟩]) ((.cond (.t 157) (.ops [⟨some 159, .mov (.t 0), none⟩,
 ⟨some 160, .call (.f 55) [.t 159], none⟩,
 ⟨some 161, .bin .add .num (.c (.s [79, 82, 68, 40])) (.t 160), none⟩,
 ⟨some 162, .bin .add .num (.t 161) (.c (.s [41])), none⟩,
 ⟨some 3, .mov (.t 162), none⟩]) (.ops [⟨some 20, .mov (.t 0), none⟩,
 ⟨some 21, .call (.f 72) [.t 20], none⟩,
 ⟨some 22, .bin .add .num (.c (.s [40])) (.t 21), none⟩,
 ⟨some 23, .bin .add .num (.t 22) (.c (.s [32, 43, 32])), none⟩,
 ⟨some 24, .mov (.t 0), none⟩,
 ⟨some 25, .call (.f 72) [.t 24], none⟩,
 ⟨some 26, .bin .add .num (.t 23) (.t 25), none⟩,
 ⟨some 27, .bin .add .num (.t 26) (.c (.s [41])), none⟩,
 ⟨some 3, .mov (.t 27), none⟩]))))))))))))))))))))))))))))))))))))))))))))))))))))))))))))))))) ((.seq (.ops [⟨some 163, .mov (.t 0), none⟩,
 ⟨some 164, .nilCheck (.t 163), none⟩,
 ⟨some 165, .fieldAddr (.t 164) 2 ⟨1, false⟩, none⟩,
 ⟨some 166, .load false none ⟨1, false⟩ (.t 165), none⟩,
 ⟨some 167, .bin .add .num (.t 166) (.c (.i .i64 1)), none⟩,
 ⟨some 168, .nilCheck (.t 163), none⟩,
 ⟨some 169, .fieldAddr (.t 168) 2 ⟨1, false⟩, none⟩,
 ⟨none, .store none ⟨1, false⟩ (.t 169) (.t 167), none⟩]) ((.seq (.ops [⟨some 170, .mov (.t 3), none⟩,
 ⟨some 2, .mov (.t 170), none⟩]) (.ret)))))))))))))), none, none⟩
def qaB : Fn := ⟨1, [.t 2], true, (.seq (.ops [⟨some 2, .mov (.c (.i .i64 0)), none⟩]) ((.seq ((.block 0 [] ((.seq (.ops [⟨some 4, .mov (.t 0), none⟩, ⟨some 5, .call (.f 36) [.t 4], none⟩, ⟨some 3, .mov (.mv 5), none⟩]) ((.cond (.t 3) ((.seq (.ops [⟨some 6, .mov (.t 0), none⟩, ⟨some 7, .bin .sub .num (.t 6) (.c (.i .u8 48)), none⟩, ⟨some 8, .conv .i64 (.t 7), none⟩, ⟨some 2, .mov (.mv 8), none⟩]) (.ret))) ((.seq (.ops [⟨some 10, .mov (.t 0), none⟩, ⟨some 11, .bin .geq .num (.t 10) (.c (.i .u8 65)), none⟩, ⟨some 12, .mov (.t 11), none⟩, ⟨some 13, .mov (.t 0), some (12, true)⟩, ⟨some 14, .bin .leq .num (.t 13) (.c (.i .u8 70)), some (12, true)⟩, ⟨some 15, .pick (.t 12) (.t 14) (.c (.b false)), none⟩, ⟨some 9, .mov (.t 15), none⟩]) ((.cond (.t 9) ((.seq (.ops [⟨some 16, .mov (.t 0), none⟩, ⟨some 17, .bin .sub .num (.t 16) (.c (.i .u8 65)), none⟩, ⟨some 18, .conv .i64 (.t 17), none⟩, ⟨some 19, .bin .add .num (.t 18) (.c (.i .i64 10)), none⟩, ⟨some 2, .mov (.t 19), none⟩]) (.ret))) (.skip))))))))))) ((.seq (.ops [⟨some 2, .mov (.c (.i .i64 (-1))), none⟩]) (.ret)))))), none, none⟩
def qfs : Fn := ⟨2, [], false, .ops [⟨some 4, .mov (.t 0), none⟩, ⟨some 5, .mov (.t 1), none⟩, ⟨some 6, .build [(.i .i64 0), (.i .i64 0)] [(0, 1, (.t 4)), (1, 1, (.t 5))], none⟩, ⟨some 7, .build [(.i .i64 0), (.i .i64 0)] [(0, 2, (.t 6))], none⟩, ⟨some 8, .mkIfc 66 (.t 7), none⟩, ⟨none, .panic (.t 8), none⟩], none, none⟩
def yU : C := (.seq ((.seq (.opsD [(⟨some 10, .mov (.t 0), none⟩, false, []), (⟨some 11, .nilCheck (.t 10), none⟩, false, []), (⟨some 12, .fieldAddr (.t 11) 1 ⟨1, false⟩, none⟩, false, []), (⟨some 13, .load false none ⟨1, false⟩ (.t 12), none⟩, false, []), (⟨some 14, .mov (.t 0), none⟩, false, []), (⟨some 15, .nilCheck (.t 14), none⟩, false, []), (⟨some 16, .fieldAddr (.t 15) 0 ⟨1, false⟩, none⟩, false, []), (⟨some 17, .load false none ⟨1, false⟩ (.t 16), none⟩, false, []), (⟨some 18, .bi .lenS [.t 17], none⟩, false, []), (⟨some 19, .bin .lss .num (.t 13) (.t 18), none⟩, true, []), (⟨some 20, .mov (.t 19), none⟩, true, []), (⟨some 21, .mov (.t 1), some (20, true)⟩, false, []), (⟨some 22, .mov (.t 0), some (20, true)⟩, false, []), (⟨some 23, .nilCheck (.t 22), some (20, true)⟩, false, []), (⟨some 24, .fieldAddr (.t 23) 0 ⟨1, false⟩, some (20, true)⟩, false, []), (⟨some 25, .load false none ⟨1, false⟩ (.t 24), some (20, true)⟩, false, []), (⟨some 26, .mov (.t 0), some (20, true)⟩, false, []), (⟨some 27, .nilCheck (.t 26), some (20, true)⟩, false, []), (⟨some 28, .fieldAddr (.t 27) 1 ⟨1, false⟩, some (20, true)⟩, false, []), (⟨some 29, .load false none ⟨1, false⟩ (.t 28), some (20, true)⟩, false, []), (⟨some 30, .index (.t 25) (.t 29), some (20, true)⟩, false, []), (⟨some 31, .call (.t 21) [.t 30], some (20, true)⟩, true, []), (⟨some 32, .pick (.t 20) (.t 31) (.c (.b false)), none⟩, true, [])]) ((.cond (.t 32) (.skip) (.exit 0))))) ((.block 1 [0, 1, 5] (.ops [⟨some 33, .mov (.t 0), none⟩, ⟨some 34, .nilCheck (.t 33), none⟩, ⟨some 35, .fieldAddr (.t 34) 1 ⟨1, false⟩, none⟩, ⟨some 36, .load false none ⟨1, false⟩ (.t 35), none⟩, ⟨some 37, .bin .add .num (.t 36) (.c (.i .i64 1)), none⟩, ⟨some 38, .nilCheck (.t 33), none⟩, ⟨some 39, .fieldAddr (.t 38) 1 ⟨1, false⟩, none⟩, ⟨none, .store none ⟨1, false⟩ (.t 39) (.t 37), none⟩]))))
def yY : C := .loop [0, 1, 5] yU
noncomputable def qaX (pg : Pg) (v0 v1 v5 : V) (H : List Obj) (lo : Nat) : Option (Ex × St) := exL pg yY ⟨[(0, v0), (1, v1), (5, v5)], H, lo⟩
theorem qcQ {pg : Pg} {e : Env} {H : List Obj} {lo : Nat} : exL pg yY ⟨e, H, lo⟩ = qaX pg (kA (get 0 e)) (kA (get 1 e)) (kA (get 5 e)) H lo := qaz
theorem qcJ {pg : Pg} {v0 v1 v5 : V} {H : List Obj} {lo : Nat} : qaX pg v0 v1 v5 H lo = yO pg (exL pg yU ⟨[(0, kA v0), (1, kA v1), (5, kA v5)], H, lo⟩) yY := by
  unfold qaX yY; rw [yr]; simp only [ql, qn, qD, qF, Nat.reduceEqDiff]
def qdv : C := (.seq (.opsD [(⟨some 40, .mov (.t 0), none⟩, false, []), (⟨some 41, .nilCheck (.t 40), none⟩, false, []), (⟨some 42, .fieldAddr (.t 41) 0 ⟨1, false⟩, none⟩, false, []), (⟨some 43, .load false none ⟨1, false⟩ (.t 42), none⟩, false, []), (⟨some 44, .mov (.t 5), none⟩, false, []), (⟨some 45, .mov (.t 0), none⟩, false, []), (⟨some 46, .nilCheck (.t 45), none⟩, false, []), (⟨some 47, .fieldAddr (.t 46) 1 ⟨1, false⟩, none⟩, false, []), (⟨some 48, .load false none ⟨1, false⟩ (.t 47), none⟩, false, []), (⟨some 49, .sliceS (.t 43) (some (.t 44)) (some (.t 48)), none⟩, true, []), (⟨some 4, .mov (.t 49), none⟩, true, [])]) (.ret))
def qbR : Fn := ⟨2, [.t 4], true, (.seq (.ops [⟨some 4, .mov (.c (.s [])), none⟩]) ((.seq (.ops [⟨some 6, .mov (.t 0), none⟩, ⟨some 7, .nilCheck (.t 6), none⟩, ⟨some 8, .fieldAddr (.t 7) 1 ⟨1, false⟩, none⟩, ⟨some 9, .load false none ⟨1, false⟩ (.t 8), none⟩, ⟨some 5, .mov (.t 9), none⟩]) ((.seq ((.block 0 [0, 5] (yY))) (qdv)))))), none, none⟩
def qeO : Fn := ⟨1, [.t 2], true, (.seq (.ops [⟨some 2, .mov (.c (.b false)), none⟩]) ((.seq (.ops [⟨some 3, .mov (.t 0), none⟩, ⟨some 4, .call (.f 41) [.t 3], none⟩, ⟨some 5, .mov (.mv 4), none⟩, ⟨some 6, .mov (.t 0), some (5, false)⟩, ⟨some 7, .call (.f 43) [.t 6], some (5, false)⟩, ⟨some 8, .pick (.t 5) (.c (.b true)) (.t 7), none⟩, ⟨some 2, .mov (.t 8), none⟩]) (.ret)))), none, none⟩
def yj : Fn := ⟨2, [.t 4], true, (.seq (.ops [⟨some 4, .mov (.c (.b false)), none⟩]) ((.seq (.ops [⟨some 5, .mov (.mv 0), none⟩, ⟨some 6, .mov (.mv 1), none⟩, ⟨some 7, .call (.f 74) [.mv 5, (.mv 6)], none⟩, ⟨some 8, .bin .geq .num (.t 7) (.c (.i .i64 0)), none⟩, ⟨some 4, .mov (.t 8), none⟩]) (.ret)))), none, none⟩
def qfW : Fn := ⟨1, [.t 2], true, (.seq (.ops [⟨some 2, .mov (.c (.b false)), none⟩]) ((.seq (.ops [⟨some 3, .mov (.t 0), none⟩, ⟨some 4, .call (.f 43) [.t 3], none⟩, ⟨some 5, .mov (.mv 4), none⟩, ⟨some 6, .mov (.t 0), some (5, false)⟩, ⟨some 7, .bin .geq .num (.t 6) (.c (.i .u8 65)), some (5, false)⟩, ⟨some 8, .mov (.t 7), some (5, false)⟩, ⟨some 9, .mov (.t 0), some (8, true)⟩, ⟨some 10, .bin .leq .num (.t 9) (.c (.i .u8 70)), some (8, true)⟩, ⟨some 11, .pick (.t 8) (.t 10) (.c (.b false)), some (5, false)⟩, ⟨some 12, .pick (.t 5) (.c (.b true)) (.t 11), none⟩, ⟨some 2, .mov (.t 12), none⟩]) (.ret)))), none, none⟩
def qa5 : Fn := ⟨3, [.t 6, (.t 7)], false, (.seq (.ops [⟨some 6, .mov (.c (.i .u64 0)), none⟩, ⟨some 7, .mov (.c .ni), none⟩]) ((.seq (.ops [⟨some 11, .mov (.t 0), none⟩, ⟨some 12, .mov (.t 1), none⟩, ⟨some 13, .mov (.t 2), none⟩, ⟨some 14, .call (.f 75) [.t 11, (.t 12), (.t 13)], none⟩, ⟨some 10, .mov (.t 14), none⟩, ⟨some 15, .extract (.t 10) 0, none⟩, ⟨some 16, .extract (.t 10) 1, none⟩, ⟨some 8, .mov (.t 15), none⟩, ⟨some 9, .mov (.t 16), none⟩]) ((.seq ((.seq (.ops [⟨some 17, .mov (.t 9), none⟩, ⟨some 18, .bin .neq .iface (.t 17) (.c .ni), none⟩]) ((.cond (.t 18) ((.seq (.ops [⟨some 19, .mov (.t 8), none⟩, ⟨some 20, .mov (.mv 0), none⟩, ⟨some 21, .mov (.mv 1), none⟩, ⟨some 22, .mov (.mv 2), none⟩, ⟨some 23, .mov (.mv 9), none⟩, ⟨some 24, .call (.f 76) [(.c (.s [80, 97, 114, 115, 101, 85, 105, 110, 116])), (.mv 20), (.mv 21), (.mv 22), (.mv 23)], none⟩, ⟨some 6, .mov (.t 19), none⟩, ⟨some 7, .mov (.mv 24), none⟩]) (.ret))) (.skip))))) ((.seq (.ops [⟨some 25, .mov (.t 8), none⟩, ⟨some 6, .mov (.t 25), none⟩, ⟨some 7, .mov (.c .ni), none⟩]) (.ret)))))))), none, none⟩
def qb8 : Fn := ⟨2, [.t 4], true, (.seq (.ops [⟨some 4, .mov (.c (.b false)), none⟩]) ((.seq (.ops [⟨some 5, .mov (.mv 0), none⟩, ⟨some 6, .mov (.mv 1), none⟩, ⟨some 7, .call (.f 77) [.mv 5, (.mv 6)], none⟩, ⟨some 4, .mov (.mv 7), none⟩]) (.ret)))), none, none⟩
def qbE : Fn := ⟨1, [.t 2], true, (.seq (.ops [⟨some 2, .mov (.c (.b false)), none⟩]) ((.seq (.ops [⟨some 3, .mov (.t 0), none⟩, ⟨some 4, .bin .geq .num (.t 3) (.c (.i .u8 32)), none⟩, ⟨some 5, .mov (.t 4), none⟩, ⟨some 6, .mov (.t 0), some (5, true)⟩, ⟨some 7, .bin .neq .num (.t 6) (.c (.i .u8 34)), some (5, true)⟩, ⟨some 8, .pick (.t 5) (.t 7) (.c (.b false)), none⟩, ⟨some 2, .mov (.t 8), none⟩]) (.ret)))), none, none⟩
def qaE : Fn := ⟨1, [.t 2], true, (.seq (.ops [⟨some 2, .mov (.c (.s [])), none⟩]) ((.seq (.ops [⟨some 3, .buildSlice (.s []) 10 [(0, (.c (.s [105]))), (1, (.c (.s [106]))), (2, (.c (.s [110]))), (3, (.c (.s [97, 91, 48, 93]))), (4, (.c (.s [97, 91, 105, 32, 77, 79, 68, 32, 52, 93]))), (5, (.c (.s [114, 46, 120]))), (6, (.c (.s [114, 46, 121]))), (7, (.c (.s [112, 46, 120]))), (8, (.c (.s [97, 91, 106, 93]))), (9, (.c (.s [117, 46, 121])))], none⟩, ⟨some 4, .mov (.mv 0), none⟩, ⟨some 5, .call (.f 32) [.mv 4, (.c (.i .i64 10))], none⟩, ⟨some 6, .indexAddr (.t 3) (.t 5) 1 none, none⟩, ⟨some 7, .loadC ⟨1, false⟩ (.t 6), none⟩, ⟨some 2, .mov (.t 7), none⟩]) (.ret)))), none, none⟩
def qbO : Fn := ⟨1, [.t 2], true, (.seq (.ops [⟨some 2, .mov (.c (.s [])), none⟩]) ((.seq (.ops [⟨some 3, .mov (.t 0), none⟩, ⟨some 4, .call (.f 32) [.t 3, (.c (.i .i64 300))], none⟩, ⟨some 5, .call (.f 83) [.t 4], none⟩, ⟨some 6, .bin .add .num (.c (.s [67, 72, 82, 40])) (.t 5), none⟩, ⟨some 7, .bin .add .num (.t 6) (.c (.s [32, 77, 79, 68, 32, 50, 53, 54, 41])), none⟩, ⟨some 8, .buildSlice (.s []) 9 [(0, (.c (.s [99]))), (1, (.c (.s [34, 120, 34]))), (2, (.c (.s [52, 49, 88]))), (3, (.c (.s [116, 91, 50, 93]))), (4, (.t 7)), (5, (.c (.s [67, 72, 82, 40, 105, 32, 77, 79, 68, 32, 49, 50, 56, 41]))), (6, (.c (.s [116, 91, 105, 32, 77, 79, 68, 32, 54, 93]))), (7, (.c (.s [117, 46, 122]))), (8, (.c (.s [48, 88])))], none⟩, ⟨some 9, .mov (.mv 0), none⟩, ⟨some 10, .call (.f 32) [.mv 9, (.c (.i .i64 9))], none⟩, ⟨some 11, .indexAddr (.t 8) (.t 10) 1 none, none⟩, ⟨some 12, .loadC ⟨1, false⟩ (.t 11), none⟩, ⟨some 2, .mov (.t 12), none⟩]) (.ret)))), none, none⟩
def zA : Fn := ⟨1, [.t 2], true, (.seq (.ops [⟨some 2, .mov (.c (.s [])), none⟩]) ((.seq ((.seq (.ops [⟨some 3, .mov (.mv 0), none⟩, ⟨some 4, .call (.f 32) [.mv 3, (.c (.i .i64 8))], none⟩]) ((.block 0 [] ((.seq (.ops [⟨some 6, .bin .eql .num (.t 4) (.c (.i .i64 0)), none⟩, ⟨some 5, .mov (.t 6), none⟩]) ((.cond (.t 5) ((.seq (.ops [⟨some 2, .mov (.c (.s [115])), none⟩]) (.ret))) ((.seq (.ops [⟨some 8, .bin .eql .num (.t 4) (.c (.i .i64 1)), none⟩, ⟨some 7, .mov (.t 8), none⟩]) ((.cond (.t 7) ((.seq (.ops [⟨some 2, .mov (.c (.s [123, 49, 44, 32, 51, 32, 46, 46, 32, 53, 125])), none⟩]) (.ret))) ((.seq (.ops [⟨some 10, .bin .eql .num (.t 4) (.c (.i .i64 2)), none⟩, ⟨some 9, .mov (.t 10), none⟩]) ((.cond (.t 9) ((.seq (.ops [⟨some 2, .mov (.c (.s [123, 105, 32, 77, 79, 68, 32, 51, 50, 125])), none⟩]) (.ret))) ((.seq (.ops [⟨some 12, .bin .eql .num (.t 4) (.c (.i .i64 3)), none⟩, ⟨some 11, .mov (.t 12), none⟩]) ((.cond (.t 11) ((.seq (.ops [⟨some 2, .mov (.c (.s [40, 115, 32, 43, 32, 123, 48, 32, 46, 46, 32, 55, 125, 41])), none⟩]) (.ret))) ((.seq (.ops [⟨some 14, .bin .eql .num (.t 4) (.c (.i .i64 4)), none⟩, ⟨some 13, .mov (.t 14), none⟩]) ((.cond (.t 13) ((.seq (.ops [⟨some 2, .mov (.c (.s [40, 115, 32, 42, 32, 123, 50, 44, 32, 106, 32, 77, 79, 68, 32, 51, 50, 125, 41])), none⟩]) (.ret))) ((.seq (.ops [⟨some 16, .bin .eql .num (.t 4) (.c (.i .i64 5)), none⟩, ⟨some 15, .mov (.t 16), none⟩]) ((.cond (.t 15) ((.seq (.ops [⟨some 2, .mov (.c (.s [40, 115, 32, 47, 32, 123, 105, 32, 77, 79, 68, 32, 56, 32, 46, 46, 32, 51, 49, 125, 41])), none⟩]) (.ret))) ((.seq (.ops [⟨some 18, .bin .eql .num (.t 4) (.c (.i .i64 6)), none⟩, ⟨some 17, .mov (.t 18), none⟩]) ((.cond (.t 17) ((.seq (.ops [⟨some 2, .mov (.c (.s [40, 45, 115, 41])), none⟩]) (.ret))) (.skip))))))))))))))))))))))))))))))))) ((.seq (.ops [⟨some 2, .mov (.c (.s [40, 115, 32, 45, 32, 123, 110, 125, 41])), none⟩]) (.ret)))))), none, none⟩
def qbY : Fn := ⟨1, [.t 2], true, (.seq (.ops [⟨some 2, .mov (.c (.s [])), none⟩]) ((.seq (.ops [⟨some 3, .buildSlice (.s []) 15 [(0, (.c (.s [49]))), (1, (.c (.s [105]))), (2, (.c (.s [106]))), (3, (.c (.s [110]))), (4, (.c (.s [107]))), (5, (.c (.s [48]))), (6, (.c (.s [50]))), (7, (.c (.s [55, 70, 70, 70, 70, 70, 70, 70, 72]))), (8, (.c (.s [97, 91, 49, 93]))), (9, (.c (.s [114, 46, 120]))), (10, (.c (.s [76, 69, 78, 40, 97, 41]))), (11, (.c (.s [51]))), (12, (.c (.s [56, 48, 48, 48, 48, 48, 48, 48, 72]))), (13, (.c (.s [114, 46, 121]))), (14, (.c (.s [49, 48, 48])))], none⟩, ⟨some 4, .mov (.mv 0), none⟩, ⟨some 5, .call (.f 32) [.mv 4, (.c (.i .i64 15))], none⟩, ⟨some 6, .indexAddr (.t 3) (.t 5) 1 none, none⟩, ⟨some 7, .loadC ⟨1, false⟩ (.t 6), none⟩, ⟨some 2, .mov (.t 7), none⟩]) (.ret)))), none, none⟩
def jE : C := (.seq (.ops [⟨some 9, .bin .lss .num (.t 8) (.t 7), none⟩]) ((.seq ((.cond (.t 9) (.skip) (.exit 0))) ((.seq ((.block 1 [0, 1, 7, 8] ((.seq (.ops [⟨some 10, .mov (.t 8), none⟩, ⟨some 5, .mov (.t 10), none⟩]) ((.seq (.ops [⟨some 11, .mov (.t 1), none⟩, ⟨some 12, .mov (.t 0), none⟩, ⟨some 13, .mov (.t 5), none⟩, ⟨some 14, .indexAddr (.t 12) (.t 13) 1 none, none⟩, ⟨some 15, .load false none ⟨1, false⟩ (.t 14), none⟩, ⟨some 16, .bin .eql .num (.t 11) (.t 15), none⟩]) ((.cond (.t 16) ((.seq (.ops [⟨some 17, .mov (.t 5), none⟩, ⟨some 4, .mov (.t 17), none⟩]) (.ret))) (.skip))))))))) (.ops [⟨some 18, .bin .add .num (.t 8) (.c (.i .i64 1)), none⟩, ⟨some 8, .mov (.t 18), none⟩]))))))
def jF : C := .loop [0, 1, 7, 8] jE
noncomputable def yk (pg : Pg) (v0 v1 v7 v8 : V) (H : List Obj) (lo : Nat) : Option (Ex × St) := exL pg jF ⟨[(0, v0), (1, v1), (7, v7), (8, v8)], H, lo⟩
theorem qaU {pg : Pg} {e : Env} {H : List Obj} {lo : Nat} : exL pg jF ⟨e, H, lo⟩ = yk pg (kA (get 0 e)) (kA (get 1 e)) (kA (get 7 e)) (kA (get 8 e)) H lo := qaz
theorem qaT {pg : Pg} {v0 v1 v7 v8 : V} {H : List Obj} {lo : Nat} : yk pg v0 v1 v7 v8 H lo = yO pg (exL pg jE ⟨[(0, kA v0), (1, kA v1), (7, kA v7), (8, kA v8)], H, lo⟩) jF := by
  unfold yk jF; rw [yr]; simp only [ql, qn, qD, qF, Nat.reduceEqDiff]
def yh : C := (.seq (.ops [⟨some 4, .mov (.c (.i .i64 (-1))), none⟩]) (.ret))
def yw : Fn := ⟨2, [.t 4], true, (.seq (.ops [⟨some 4, .mov (.c (.i .i64 0)), none⟩]) ((.seq ((.seq (.ops [⟨some 6, .mov (.t 0), none⟩, ⟨some 7, .bi .lenL [.t 6], none⟩, ⟨some 8, .mov (.c (.i .i64 0)), none⟩]) ((.block 0 [] (jF))))) (yh)))), none, none⟩
def zK : C := (.seq (.ops [⟨some 102, .bin .lss .num (.t 101) (.t 100), none⟩]) ((.seq ((.cond (.t 102) (.skip) (.exit 3))) ((.seq ((.block 4 [1, 8, 9, 10, 11, 12, 13, 99, 100, 101] ((.seq (.ops [⟨some 103, .indexAddr (.t 99) (.t 101) 1 none, none⟩,
 ⟨some 104, .load false none ⟨1, false⟩ (.t 103), none⟩,
 ⟨some 15, .mov (.t 104), none⟩]) ((.seq (.ops [⟨some 16, .mov (.c (.i .u8 0)), none⟩]) ((.seq ((.block 5 [1, 8, 9, 10, 11, 12, 13, 16, 99, 100, 101] ((.seq (.ops [⟨some 107, .mov (.t 15), none⟩,
 ⟨some 108, .bin .eql .num (.t 107) (.c (.i .u8 95)), none⟩,
 ⟨some 109, .mov (.t 108), none⟩,
 ⟨some 110, .mov (.t 8), some (109, true)⟩,
 ⟨some 111, .pick (.t 109) (.t 110) (.c (.b false)), none⟩,
 ⟨some 106, .mov (.t 111), none⟩]) ((.cond (.t 106) ((.seq (.ops [⟨some 12, .mov (.c (.b true)), none⟩]) (.exit 4))) ((.seq (.ops [⟨some 113, .mov (.t 15), none⟩,
 ⟨some 114, .bin .leq .num (.c (.i .u8 48)) (.t 113), none⟩,
 ⟨some 115, .mov (.t 114), none⟩,
 ⟨some 116, .mov (.t 15), some (115, true)⟩,
 ⟨some 117, .bin .leq .num (.t 116) (.c (.i .u8 57)), some (115, true)⟩,
 ⟨some 118, .pick (.t 115) (.t 117) (.c (.b false)), none⟩,
 ⟨some 112, .mov (.t 118), none⟩]) ((.cond (.t 112) (.ops [⟨some 119, .mov (.t 15), none⟩,
 ⟨some 120, .bin .sub .num (.t 119) (.c (.i .u8 48)), none⟩,
 ⟨some 16, .mov (.t 120), none⟩]) ((.seq (.ops [⟨some 122, .mov (.t 15), none⟩,
 ⟨some 123, .call (.f 85) [.t 122], none⟩,
 ⟨some 124, .bin .leq .num (.c (.i .u8 97)) (.t 123), none⟩,
 ⟨some 125, .mov (.t 124), none⟩,
 ⟨some 126, .mov (.t 15), some (125, true)⟩,
 ⟨some 127, .call (.f 85) [.t 126], some (125, true)⟩,
 ⟨some 128, .bin .leq .num (.t 127) (.c (.i .u8 122)), some (125, true)⟩,
 ⟨some 129, .pick (.t 125) (.t 128) (.c (.b false)), none⟩,
 ⟨some 121, .mov (.t 129), none⟩]) ((.cond (.t 121) (.ops [⟨some 130, .mov (.mv 15), none⟩,
 ⟨some 131, .call (.f 85) [.mv 130], none⟩,
 ⟨some 132, .bin .sub .num (.t 131) (.c (.i .u8 97)), none⟩,
 ⟨some 133, .bin .add .num (.t 132) (.c (.i .u8 10)), none⟩,
 ⟨some 16, .mov (.t 133), none⟩]) ((.seq (.ops [⟨some 105, .mkIfc 110 (.c (.i .i64 2)), none⟩,
 ⟨some 6, .mov (.c (.i .u64 0)), none⟩,
 ⟨some 7, .mov (.t 105), none⟩]) (.ret))))))))))))))))) ((.seq ((.seq (.ops [⟨some 134, .mov (.t 16), none⟩,
 ⟨some 135, .mov (.t 1), none⟩,
 ⟨some 136, .conv .u8 (.t 135), none⟩,
 ⟨some 137, .bin .geq .num (.t 134) (.t 136), none⟩]) ((.cond (.t 137) ((.seq (.ops [⟨some 138, .mkIfc 110 (.c (.i .i64 2)), none⟩,
 ⟨some 6, .mov (.c (.i .u64 0)), none⟩,
 ⟨some 7, .mov (.t 138), none⟩]) (.ret))) (.skip))))) ((.seq ((.seq (.ops [⟨some 139, .mov (.t 13), none⟩,
 ⟨some 140, .mov (.t 10), none⟩,
 ⟨some 141, .bin .geq .num (.t 139) (.t 140), none⟩]) ((.cond (.t 141) ((.seq (.ops [⟨some 142, .mov (.t 11), none⟩,
 ⟨some 143, .mkIfc 110 (.c (.i .i64 1)), none⟩,
 ⟨some 6, .mov (.t 142), none⟩,
 ⟨some 7, .mov (.t 143), none⟩]) (.ret))) (.skip))))) ((.seq (.ops [⟨some 144, .mov (.t 13), none⟩,
 ⟨some 145, .mov (.t 1), none⟩,
 ⟨some 146, .conv .u64 (.t 145), none⟩,
 ⟨some 147, .bin .mul .num (.t 144) (.t 146), none⟩,
 ⟨some 13, .mov (.t 147), none⟩]) ((.seq (.ops [⟨some 148, .mov (.t 13), none⟩,
 ⟨some 149, .mov (.t 16), none⟩,
 ⟨some 150, .conv .u64 (.t 149), none⟩,
 ⟨some 151, .bin .add .num (.t 148) (.t 150), none⟩,
 ⟨some 17, .mov (.t 151), none⟩]) ((.seq ((.seq (.ops [⟨some 152, .mov (.t 17), none⟩,
 ⟨some 153, .mov (.t 13), none⟩,
 ⟨some 154, .bin .lss .num (.t 152) (.t 153), none⟩,
 ⟨some 155, .mov (.t 154), none⟩,
 ⟨some 156, .mov (.t 17), some (155, false)⟩,
 ⟨some 157, .mov (.t 11), some (155, false)⟩,
 ⟨some 158, .bin .gtr .num (.t 156) (.t 157), some (155, false)⟩,
 ⟨some 159, .pick (.t 155) (.c (.b true)) (.t 158), none⟩]) ((.cond (.t 159) ((.seq (.ops [⟨some 160, .mov (.t 11), none⟩,
 ⟨some 161, .mkIfc 110 (.c (.i .i64 1)), none⟩,
 ⟨some 6, .mov (.t 160), none⟩,
 ⟨some 7, .mov (.t 161), none⟩]) (.ret))) (.skip))))) (.ops [⟨some 162, .mov (.t 17), none⟩,
 ⟨some 13, .mov (.t 162), none⟩]))))))))))))))))))) (.ops [⟨some 163, .bin .add .num (.t 101) (.c (.i .i64 1)), none⟩,
 ⟨some 101, .mov (.t 163), none⟩]))))))
def jW : C := .loop [1, 8, 9, 10, 11, 12, 13, 99, 100, 101] zK
noncomputable def jU (pg : Pg) (v1 v8 v9 v10 v11 v12 v13 v99 v100 v101 : V) (H : List Obj) (lo : Nat) : Option (Ex × St) := exL pg jW ⟨[(1, v1), (8, v8), (9, v9), (10, v10), (11, v11), (12, v12), (13, v13), (99, v99), (100, v100), (101, v101)], H, lo⟩
theorem jG {pg : Pg} {e : Env} {H : List Obj} {lo : Nat} : exL pg jW ⟨e, H, lo⟩ = jU pg (kA (get 1 e)) (kA (get 8 e)) (kA (get 9 e)) (kA (get 10 e)) (kA (get 11 e)) (kA (get 12 e)) (kA (get 13 e)) (kA (get 99 e)) (kA (get 100 e)) (kA (get 101 e)) H lo := qaz
theorem qbA {pg : Pg} {v1 v8 v9 v10 v11 v12 v13 v99 v100 v101 : V} {H : List Obj} {lo : Nat} : jU pg v1 v8 v9 v10 v11 v12 v13 v99 v100 v101 H lo = yO pg (exL pg zK ⟨[(1, kA v1), (8, kA v8), (9, kA v9), (10, kA v10), (11, kA v11), (12, kA v12), (13, kA v13), (99, kA v99), (100, kA v100), (101, kA v101)], H, lo⟩) jW := by
  unfold jU jW; rw [yr]; simp only [ql, qn, qD, qF, Nat.reduceEqDiff]
def yx : C := (.seq ((.seq (.ops [⟨some 164, .mov (.t 12), none⟩, ⟨some 165, .mov (.t 164), none⟩, ⟨some 166, .mov (.t 9), some (165, true)⟩, ⟨some 167, .call (.f 86) [.t 166], some (165, true)⟩, ⟨some 168, .un .not (.t 167), some (165, true)⟩, ⟨some 169, .pick (.t 165) (.t 168) (.c (.b false)), none⟩]) ((.cond (.t 169) ((.seq (.ops [⟨some 170, .mkIfc 110 (.c (.i .i64 2)), none⟩, ⟨some 6, .mov (.c (.i .u64 0)), none⟩, ⟨some 7, .mov (.t 170), none⟩]) (.ret))) (.skip))))) ((.seq (.ops [⟨some 171, .mov (.t 13), none⟩, ⟨some 6, .mov (.t 171), none⟩, ⟨some 7, .mov (.c .ni), none⟩]) (.ret))))
def jQ : Fn := ⟨3, [.t 6, (.t 7)], false, (.seq (.ops [⟨some 6, .mov (.c (.i .u64 0)), none⟩,
 ⟨some 7, .mov (.c .ni), none⟩]) ((.seq ((.seq (.ops [⟨some 18, .mov (.t 0), none⟩,
 ⟨some 19, .bin .eql .num (.t 18) (.c (.s [])), none⟩]) ((.cond (.t 19) ((.seq (.ops [⟨some 20, .mkIfc 110 (.c (.i .i64 2)), none⟩,
 ⟨some 6, .mov (.c (.i .u64 0)), none⟩,
 ⟨some 7, .mov (.t 20), none⟩]) (.ret))) (.skip))))) ((.seq (.ops [⟨some 21, .mov (.t 1), none⟩,
 ⟨some 22, .bin .eql .num (.t 21) (.c (.i .i64 0)), none⟩,
 ⟨some 8, .mov (.t 22), none⟩]) ((.seq (.ops [⟨some 23, .mov (.t 0), none⟩,
 ⟨some 9, .mov (.t 23), none⟩]) ((.seq ((.block 0 [0, 1, 2, 8, 9] ((.seq (.ops [⟨some 26, .mov (.t 1), none⟩,
 ⟨some 27, .bin .leq .num (.c (.i .i64 2)) (.t 26), none⟩,
 ⟨some 28, .mov (.t 27), none⟩,
 ⟨some 29, .mov (.t 1), some (28, true)⟩,
 ⟨some 30, .bin .leq .num (.t 29) (.c (.i .i64 36)), some (28, true)⟩,
 ⟨some 31, .pick (.t 28) (.t 30) (.c (.b false)), none⟩,
 ⟨some 25, .mov (.t 31), none⟩]) ((.cond (.t 25) (.skip) ((.seq (.ops [⟨some 33, .mov (.t 1), none⟩,
 ⟨some 34, .bin .eql .num (.t 33) (.c (.i .i64 0)), none⟩,
 ⟨some 32, .mov (.t 34), none⟩]) ((.cond (.t 32) ((.seq (.ops [⟨some 1, .mov (.c (.i .i64 10)), none⟩]) ((.seq (.ops [⟨some 35, .mov (.t 0), none⟩,
 ⟨some 36, .index (.t 35) (.c (.i .i64 0)), none⟩,
 ⟨some 37, .bin .eql .num (.t 36) (.c (.i .u8 48)), none⟩]) ((.cond (.t 37) ((.block 1 [0, 1, 2, 8, 9] ((.seq (.ops [⟨some 41, .mov (.t 0), none⟩,
 ⟨some 42, .bi .lenS [.t 41], none⟩,
 ⟨some 43, .bin .geq .num (.t 42) (.c (.i .i64 3)), none⟩,
 ⟨some 44, .mov (.t 43), none⟩,
 ⟨some 45, .mov (.t 0), some (44, true)⟩,
 ⟨some 46, .index (.t 45) (.c (.i .i64 1)), some (44, true)⟩,
 ⟨some 47, .call (.f 85) [.t 46], some (44, true)⟩,
 ⟨some 48, .bin .eql .num (.t 47) (.c (.i .u8 98)), some (44, true)⟩,
 ⟨some 49, .pick (.t 44) (.t 48) (.c (.b false)), none⟩,
 ⟨some 40, .mov (.t 49), none⟩]) ((.cond (.t 40) ((.seq (.ops [⟨some 1, .mov (.c (.i .i64 2)), none⟩]) (.ops [⟨some 50, .mov (.t 0), none⟩,
 ⟨some 51, .sliceS (.t 50) (some (.c (.i .i64 2))) none, none⟩,
 ⟨some 0, .mov (.t 51), none⟩]))) ((.seq (.ops [⟨some 53, .mov (.t 0), none⟩,
 ⟨some 54, .bi .lenS [.t 53], none⟩,
 ⟨some 55, .bin .geq .num (.t 54) (.c (.i .i64 3)), none⟩,
 ⟨some 56, .mov (.t 55), none⟩,
 ⟨some 57, .mov (.t 0), some (56, true)⟩,
 ⟨some 58, .index (.t 57) (.c (.i .i64 1)), some (56, true)⟩,
 ⟨some 59, .call (.f 85) [.t 58], some (56, true)⟩,
 ⟨some 60, .bin .eql .num (.t 59) (.c (.i .u8 111)), some (56, true)⟩,
 ⟨some 61, .pick (.t 56) (.t 60) (.c (.b false)), none⟩,
 ⟨some 52, .mov (.t 61), none⟩]) ((.cond (.t 52) ((.seq (.ops [⟨some 1, .mov (.c (.i .i64 8)), none⟩]) (.ops [⟨some 62, .mov (.t 0), none⟩,
 ⟨some 63, .sliceS (.t 62) (some (.c (.i .i64 2))) none, none⟩,
 ⟨some 0, .mov (.t 63), none⟩]))) ((.seq (.ops [⟨some 65, .mov (.t 0), none⟩,
 ⟨some 66, .bi .lenS [.t 65], none⟩,
 ⟨some 67, .bin .geq .num (.t 66) (.c (.i .i64 3)), none⟩,
 ⟨some 68, .mov (.t 67), none⟩,
 ⟨some 69, .mov (.t 0), some (68, true)⟩,
 ⟨some 70, .index (.t 69) (.c (.i .i64 1)), some (68, true)⟩,
 ⟨some 71, .call (.f 85) [.t 70], some (68, true)⟩,
 ⟨some 72, .bin .eql .num (.t 71) (.c (.i .u8 120)), some (68, true)⟩,
 ⟨some 73, .pick (.t 68) (.t 72) (.c (.b false)), none⟩,
 ⟨some 64, .mov (.t 73), none⟩]) ((.cond (.t 64) ((.seq (.ops [⟨some 1, .mov (.c (.i .i64 16)), none⟩]) (.ops [⟨some 74, .mov (.t 0), none⟩,
 ⟨some 75, .sliceS (.t 74) (some (.c (.i .i64 2))) none, none⟩,
 ⟨some 0, .mov (.t 75), none⟩]))) ((.seq (.ops [⟨some 1, .mov (.c (.i .i64 8)), none⟩]) (.ops [⟨some 38, .mov (.t 0), none⟩,
 ⟨some 39, .sliceS (.t 38) (some (.c (.i .i64 1))) none, none⟩,
 ⟨some 0, .mov (.t 39), none⟩]))))))))))))))))) (.skip))))))) ((.seq (.ops [⟨some 24, .mkIfc 110 (.c (.i .i64 3)), none⟩,
 ⟨some 6, .mov (.c (.i .u64 0)), none⟩,
 ⟨some 7, .mov (.t 24), none⟩]) (.ret))))))))))))) ((.seq ((.seq (.ops [⟨some 76, .mov (.t 2), none⟩,
 ⟨some 77, .bin .eql .num (.t 76) (.c (.i .i64 0)), none⟩]) ((.cond (.t 77) (.ops [⟨some 2, .mov (.c (.i .i64 64)), none⟩]) ((.seq (.ops [⟨some 78, .mov (.t 2), none⟩,
 ⟨some 79, .bin .lss .num (.t 78) (.c (.i .i64 0)), none⟩,
 ⟨some 80, .mov (.t 79), none⟩,
 ⟨some 81, .mov (.t 2), some (80, false)⟩,
 ⟨some 82, .bin .gtr .num (.t 81) (.c (.i .i64 64)), some (80, false)⟩,
 ⟨some 83, .pick (.t 80) (.c (.b true)) (.t 82), none⟩]) ((.cond (.t 83) ((.seq (.ops [⟨some 84, .mkIfc 110 (.c (.i .i64 4)), none⟩,
 ⟨some 6, .mov (.c (.i .u64 0)), none⟩,
 ⟨some 7, .mov (.t 84), none⟩]) (.ret))) (.skip))))))))) ((.seq (.ops [⟨some 10, .mov (.c (.i .u64 0)), none⟩]) ((.seq ((.seq (.ops [⟨some 85, .mov (.t 1), none⟩]) ((.block 2 [0, 1, 2, 8, 9, 10] ((.seq (.ops [⟨some 91, .bin .eql .num (.t 85) (.c (.i .i64 10)), none⟩,
 ⟨some 90, .mov (.t 91), none⟩]) ((.cond (.t 90) (.ops [⟨some 10, .mov (.c (.i .u64 1844674407370955162)), none⟩]) ((.seq (.ops [⟨some 93, .bin .eql .num (.t 85) (.c (.i .i64 16)), none⟩,
 ⟨some 92, .mov (.t 93), none⟩]) ((.cond (.t 92) (.ops [⟨some 10, .mov (.c (.i .u64 1152921504606846976)), none⟩]) (.ops [⟨some 86, .mov (.t 1), none⟩,
 ⟨some 87, .conv .u64 (.t 86), none⟩,
 ⟨some 88, .bin .quo .num (.c (.i .u64 18446744073709551615)) (.t 87), none⟩,
 ⟨some 89, .bin .add .num (.t 88) (.c (.i .u64 1)), none⟩,
 ⟨some 10, .mov (.t 89), none⟩]))))))))))))) ((.seq (.ops [⟨some 94, .mov (.t 2), none⟩,
 ⟨some 95, .conv .u64 (.t 94), none⟩,
 ⟨some 96, .bin .shl .num (.c (.i .u64 1)) (.t 95), none⟩,
 ⟨some 97, .bin .sub .num (.t 96) (.c (.i .u64 1)), none⟩,
 ⟨some 11, .mov (.t 97), none⟩]) ((.seq (.ops [⟨some 12, .mov (.c (.b false)), none⟩]) ((.seq (.ops [⟨some 13, .mov (.c (.i .u64 0)), none⟩]) ((.seq ((.seq (.ops [⟨some 98, .mov (.t 0), none⟩,
 ⟨some 99, .bytes (.t 98), none⟩,
 ⟨some 100, .bi .lenL [.t 99], none⟩,
 ⟨some 101, .mov (.c (.i .i64 0)), none⟩]) ((.block 3 [9, 12, 13] (jW))))) (yx)))))))))))))))))))))))), none, none⟩
def jR : Fn := ⟨2, [.t 4], true, (.seq (.ops [⟨some 4, .mov (.c (.b false)), none⟩]) ((.seq (.ops [⟨some 5, .mov (.t 0), none⟩, ⟨some 6, .bi .lenS [.t 5], none⟩, ⟨some 7, .mov (.t 1), none⟩, ⟨some 8, .bi .lenS [.t 7], none⟩, ⟨some 9, .bin .geq .num (.t 6) (.t 8), none⟩, ⟨some 10, .mov (.t 9), none⟩, ⟨some 11, .mov (.t 0), some (10, true)⟩, ⟨some 12, .mov (.t 1), some (10, true)⟩, ⟨some 13, .bi .lenS [.t 12], some (10, true)⟩, ⟨some 14, .sliceS (.t 11) none (some (.t 13)), some (10, true)⟩, ⟨some 15, .mov (.t 1), some (10, true)⟩, ⟨some 16, .bin .eql .num (.t 14) (.t 15), some (10, true)⟩, ⟨some 17, .pick (.t 10) (.t 16) (.c (.b false)), none⟩, ⟨some 4, .mov (.t 17), none⟩]) (.ret)))), none, none⟩
def qbK : Fn := ⟨1, [.t 2], true, (.seq (.ops [⟨some 2, .mov (.c (.s [])), none⟩]) ((.seq ((.seq (.ops [⟨some 3, .mov (.t 0), none⟩, ⟨some 4, .bin .lss .num (.t 3) (.c (.i .i64 10)), none⟩]) ((.cond (.t 4) ((.seq (.ops [⟨some 5, .mov (.t 0), none⟩, ⟨some 6, .mov (.t 0), none⟩, ⟨some 7, .bin .add .num (.t 6) (.c (.i .i64 1)), none⟩, ⟨some 8, .sliceS (.c (.s [48, 49, 50, 51, 52, 53, 54, 55, 56, 57])) (some (.t 5)) (some (.t 7)), none⟩, ⟨some 2, .mov (.t 8), none⟩]) (.ret))) (.skip))))) ((.seq (.ops [⟨some 9, .mov (.t 0), none⟩, ⟨some 10, .bin .quo .num (.t 9) (.c (.i .i64 10)), none⟩, ⟨some 11, .call (.f 83) [.t 10], none⟩, ⟨some 12, .mov (.t 0), none⟩, ⟨some 13, .bin .rem .num (.t 12) (.c (.i .i64 10)), none⟩, ⟨some 14, .call (.f 83) [.t 13], none⟩, ⟨some 15, .bin .add .num (.t 11) (.t 14), none⟩, ⟨some 2, .mov (.t 15), none⟩]) (.ret)))))), none, none⟩
def qaG : Fn := ⟨1, [.t 2], true, (.seq (.ops [⟨some 2, .mov (.c (.i .u8 0)), none⟩]) ((.seq (.ops [⟨some 3, .mov (.t 0), none⟩, ⟨some 4, .bin .or .num (.t 3) (.c (.i .u8 32)), none⟩, ⟨some 2, .mov (.t 4), none⟩]) (.ret)))), none, none⟩
def prog (n : Nat) : Option Fn :=
  bif qAk n 5 then some ji else
  bif qAk n 11 then some qe7 else
  bif qAk n 12 then some qcV else
  bif qAk n 15 then some qa1 else
  bif qAk n 16 then some f_scan_All else
  bif qAk n 17 then some qgf else
  bif qAk n 18 then some qbB else
  bif qAk n 19 then some qbU else
  bif qAk n 23 then some qbS else
  bif qAk n 25 then some qcG else
  bif qAk n 26 then some f_waferref11_symbol else
  bif qAk n 27 then some f_scan_All_1 else
  bif qAk n 28 then some f_scan_scanner_next else
  bif qAk n 29 then some qfH else
  bif qAk n 32 then some yS else
  bif qAk n 33 then some ku else
  bif qAk n 34 then some qcv else
  bif qAk n 35 then some qca else
  bif qAk n 36 then some qcw else
  bif qAk n 37 then some f_waferref11_number else
  bif qAk n 38 then some yL else
  bif qAk n 39 then some qcU else
  bif qAk n 40 then some qbc else
  bif qAk n 41 then some qeh else
  bif qAk n 42 then some qat else
  bif qAk n 43 then some qeS else
  bif qAk n 44 then some jJ else
  bif qAk n 45 then some qcn else
  bif qAk n 46 then some qau else
  bif qAk n 47 then some jX else
  bif qAk n 54 then some qG else
  bif qAk n 55 then some kC else
  bif qAk n 56 then some kc else
  bif qAk n 57 then some qaB else
  bif qAk n 59 then some qfs else
  bif qAk n 60 then some qbR else
  bif qAk n 61 then some qeO else
  bif qAk n 62 then some yj else
  bif qAk n 63 then some qfW else
  bif qAk n 64 then some qa5 else
  bif qAk n 65 then some qb8 else
  bif qAk n 66 then some qbE else
  bif qAk n 69 then some qaE else
  bif qAk n 70 then some qbO else
  bif qAk n 71 then some zA else
  bif qAk n 72 then some qbY else
  bif qAk n 74 then some yw else
  bif qAk n 75 then some jQ else
  bif qAk n 77 then some jR else
  bif qAk n 83 then some qbK else
  bif qAk n 85 then some qaG else none
end W

/-
  More equations: nil slices, shifts, bits, bytes.
-/
set_option linter.unusedSimpArgs false
set_option linter.unusedVariables false
namespace W
open Go (IntKind BinOp UnOp)
theorem qp4 {xs : List D} : qjn true (.osl xs) = some (.osl xs) := (rfl)
theorem qxc {own : Bool} {xs : List V} (h : own = true) : qjn own (.tup xs) = some (.tup xs) := by subst h; rfl
theorem ke {n : Nat} : isC (.t n) = false := (rfl)
theorem kr {x : D} : isC (.c x) = true := (rfl)
theorem qzt {n : Nat} : isC (.mv n) = false := (rfl)
theorem qzS {n : Nat} : isC (.f n) = false := (rfl)
theorem qum : qa3 .eql .slice true (.d .nil) (.d .nil) = some (.d (.b true)) := (rfl)
theorem qvr {xs : List D} : qa3 .eql .slice true (.d (.sl xs)) (.d .nil) = some (.d (.b false)) := (rfl)
theorem qua : qa3 .neq .slice true (.d .nil) (.d .nil) = some (.d (.b false)) := (rfl)
theorem qup {xs : List D} : qa3 .neq .slice true (.d (.sl xs)) (.d .nil) = some (.d (.b true)) := (rfl)
theorem qzI {i : Nat} : qa3 .eql .map true (.map i) (.d .nm) = some (.d (.b false)) := (rfl)
theorem qyw {c : Bool} {k k' : IntKind} {m n : Int} (h : (0 ≤ n) = True) : qa3 .shl .num c (.d (.i k m)) (.d (.i k' n)) = some (.d (.i k (wr k (m * 2 ^ (min n.toNat k.bits))))) := by
  have h : 0 ≤ n := by rw [h]; trivial
  simp [qa3, qdH, qfP, qfn, h]
theorem qyD {c : Bool} {k k' : IntKind} {m n : Int} (h : (0 ≤ n) = True) : qa3 .shr .num c (.d (.i k m)) (.d (.i k' n)) = some (.d (.i k (m.fdiv (2 ^ (min n.toNat k.bits))))) := by
  have h : 0 ≤ n := by rw [h]; trivial
  simp [qa3, qdH, qfP, qfn, h]
def orI (k : IntKind) (a b : Int) : Int := k.wrap ((BitVec.ofInt k.bits a) ||| (BitVec.ofInt k.bits b)).toNat
def qzA (k : IntKind) (a b : Int) : Int := k.wrap ((BitVec.ofInt k.bits a) &&& (BitVec.ofInt k.bits b)).toNat
def qzJ (k : IntKind) (a b : Int) : Int := k.wrap ((BitVec.ofInt k.bits a) ^^^ (BitVec.ofInt k.bits b)).toNat
theorem qvg {c : Bool} {k : IntKind} {m n : Int} : qa3 .or .num c (.d (.i k m)) (.d (.i k n)) = some (.d (.i k (orI k m n))) := by rw [qfl rfl]; rfl
theorem qy8 {c : Bool} {k : IntKind} {m n : Int} : qa3 .and .num c (.d (.i k m)) (.d (.i k n)) = some (.d (.i k (qzA k m n))) := by rw [qfl rfl]; rfl
theorem qy3 {c : Bool} {k : IntKind} {m n : Int} : qa3 .xor .num c (.d (.i k m)) (.d (.i k n)) = some (.d (.i k (qzJ k m n))) := by rw [qfl rfl]; rfl
def qes (s : Nat) (v : V) : V := match v with | .lp t o => bif qAk t s then .undef else .lp t o | v => v
theorem kN {s : Nat} : qd5 s [] = [] := (rfl)
theorem kF {s n : Nat} {v : V} {e : Env} : qd5 s ((n, v) :: e) = (n, qes s v) :: qd5 s e := (rfl)
theorem jr {s : Nat} {x : D} : qes s (.d x) = .d x := (rfl)
theorem qv8 {s : Nat} {x : List D} : qes s (.osl x) = .osl x := (rfl)
theorem jn {s i o : Nat} : qes s (.ptr i o) = .ptr i o := (rfl)
theorem qv1 {s i : Nat} : qes s (.map i) = .map i := (rfl)
theorem ym {s : Nat} {x : List V} : qes s (.box x) = .box x := (rfl)
theorem qwq {s : Nat} {x : D} : qes s (.cp x) = .cp x := (rfl)
theorem qvR {s : Nat} {x : List V} : qes s (.agg x) = .agg x := (rfl)
theorem qbH {s : Nat} {x : List V} : qes s (.tup x) = .tup x := (rfl)
theorem qxT {s i : Nat} {x y : List V} : qes s (.fn i x y) = .fn i x y := (rfl)
theorem qpZ {s i : Nat} {x : V} : qes s (.ifc i x) = .ifc i x := (rfl)
theorem qjb {s : Nat} : qes s .undef = .undef := (rfl)
theorem qws {s t o : Nat} : qes s (.lp t o) = bif qAk t s then .undef else .lp t o := (rfl)
theorem qyb {s a b c d : Nat} : qes s (.rs a b c d) = .rs a b c d := (rfl)
theorem qlu {α : Type} {s : Nat} {e : α → D} {L : List α} : qes s (slV e L) = slV e L := by cases L <;> rfl
theorem kO {cs vs : List V} (h : (vs.length = cs.length) = True) : qac cs 0 vs = some vs := by
  have h : vs.length = cs.length := by rw [h]; trivial
  simp [qac, h]
theorem qoM {cs : List V} {o : Nat} {v w : V} (h : (o + 1 < cs.length) = True) : qac cs o [v, w] = some ((cs.set o v).set (o + 1) w) := by
  have h : o + 1 < cs.length := by rw [h]; trivial
  have : o + [v, w].length ≤ cs.length := by simp; omega
  rw [qac, if_pos this]
  congr 1
  apply List.ext_getElem?
  intro j
  simp only [List.getElem?_append, List.length_append, List.length_take, qz4, qz8, List.getElem?_drop, List.getElem?_set, List.length_set, List.getElem?_take]
  rcases Nat.lt_trichotomy j o with hj | hj | hj
  · rw [if_pos (by omega), if_pos (by omega), if_pos (by omega), if_neg (by omega), if_neg (by omega)]
  · subst hj
    rw [if_pos (by omega), if_neg (by omega), if_neg (by omega), if_pos rfl, if_pos (by omega)]
    have : j - min j cs.length = 0 := by omega
    simp [this]
  · by_cases hj2 : j = o + 1
    · subst hj2
      rw [if_pos (by omega), if_neg (by omega), if_pos rfl, if_pos (by omega)]
      have : o + 1 - min o cs.length = 1 := by omega
      simp [this]
    · rw [if_neg (by omega), if_neg (by omega), if_neg (by omega)]
      congr 1; omega
def cpV (r : Option D) : Option V := match r with | some y => bif y.one then some (.cp y) else none | none => none
theorem qpf {cs : List D} {off : Nat} : faV (.cp (.agg cs)) off ⟨1, false⟩ = cpV (cs[off]?) := by
  simp only [faV, D.part, cpV]
  cases h : cs[off]? with
  | none => simp [h]
  | some y => cases hy : y.one <;> simp [h, hy]
theorem qt0 {k : IntKind} {n : Int} : cpV (some (.i k n)) = some (.cp (.i k n)) := (rfl)
theorem qwS {x : List Nat} : cpV (some (.s x)) = some (.cp (.s x)) := (rfl)
theorem qzU {x : Bool} : cpV (some (.b x)) = some (.cp (.b x)) := (rfl)
theorem qzk {x : List D} : cpV (some (.sl x)) = some (.cp (.sl x)) := (rfl)
theorem qyM : cpV (some .nil) = some (.cp .nil) := (rfl)
theorem qyE {α : Type} {e : α → D} {L : List α} : cpV (some (slD e L)) = some (.cp (slD e L)) := by cases L <;> rfl
def qsR (l : L) (st : St) : V → Option V
  | .box cs => V.part 0 l cs
  | .ptr id off => qaA l st (.ptr id off)
  | _ => none
theorem kQ {own : Bool} {st : St} {n : Nat} {l : L} : qeI own st (.cell n l) = qsR l st (get n st.env) := by
  simp only [qeI, qsR]
  cases get n st.env <;> rfl
theorem zQ {l : L} {st : St} {cs : List V} : qsR l st (.box cs) = qoa l 0 (.box cs) := (rfl)
theorem qj1 {l : L} {st : St} {i o : Nat} : qsR l st (.ptr i o) = qdU none l st (.ptr i o) := (rfl)
theorem quu {b : Bool} {cs : List D} : qlL (.alloc b cs) = b := (rfl)
theorem qxx {b : Bool} {x : O} : qlL (.box b x) = b := (rfl)
def qvo (r : Bool) (n : Nat) (cs : List V) (st : St) : Option St := bif r then some { st with env := (n, .box cs) :: st.env } else none
theorem qyu {no : List Nat} {n : Nat} {cs : List V} {st : St} : qeH true no (some n) (.box cs) st = qvo (qb0 n st.env) n cs st := by
  simp only [qeH, qvo, Bool.true_and]
theorem qzF {n : Nat} {cs : List V} {st : St} : qvo true n cs st = some ⟨(n, .box cs) :: st.env, st.H, st.lo⟩ := (rfl)
def lpD (r : Bool) (n m o : Nat) (st : St) : Option St := bif r then none else some { st with env := (n, .lp m o) :: st.env }
theorem qg5 {bx : Bool} {no : List Nat} {n m o : Nat} {st : St} : qeH bx no (some n) (.lp m o) st = lpD (qdZ m no) n m o st := (rfl)
theorem qlE {n m o : Nat} {st : St} : lpD false n m o st = some ⟨(n, .lp m o) :: st.env, st.H, st.lo⟩ := (rfl)
theorem qd2 {n : Nat} : qdZ n [] = false := (rfl)
theorem quf {n m : Nat} {l : List Nat} : qdZ n (m :: l) = (qAk n m || qdZ n l) := (rfl)
theorem qyk {i o n c : Nat} : qep (.rs i o n c) = .rs i o n c := (rfl)
theorem zH {i o : Nat} : qep (.ptr i o) = .ptr i o := (rfl)
theorem qv0 {i : Nat} : qep (.map i) = .map i := (rfl)
theorem qw7 {x : D} : qep (.cp x) = .cp x := (rfl)
theorem qx6 {i o : Nat} : qep (.lp i o) = .lp i o := (rfl)
theorem qw2 {i : Nat} {u w : List V} : qep (.fn i u w) = .fn i u w := (rfl)
theorem qqL {t : Nat} {w : V} : qep (.ifc t w) = .ifc t w := (rfl)
theorem qwa {w : List V} : qep (.agg w) = .agg w := (rfl)
theorem qvJ {w : List V} : qep (.tup w) = .tup w := (rfl)
theorem qyr {bx : Bool} {no : List Nat} {n a b c d : Nat} {st : St} : qeH bx no (some n) (.rs a b c d) st = some ⟨(n, .rs a b c d) :: st.env, st.H, st.lo⟩ := by cases bx <;> rfl
theorem qxr {α : Type} {bx : Bool} {no : List Nat} {n : Nat} {e : α → D} {L : List α} {st : St} : qeH bx no (some n) (slV e L) st = some ⟨(n, slV e L) :: st.env, st.H, st.lo⟩ := by cases L <;> rfl
def noL (n : Nat) (v : V) : Bool := match v with | .lp m _ => !Nat.beq m n | _ => true
theorem qxi {n : Nat} : qb0 n [] = true := (rfl)
theorem qzc {n k : Nat} {v : V} {e : Env} : qb0 n ((k, v) :: e) = (noL n v && qb0 n e) := by cases v <;> rfl
theorem qzP {n : Nat} {x : D} : noL n (.d x) = true := (rfl)
theorem qyK {n : Nat} {x : List D} : noL n (.osl x) = true := (rfl)
theorem qyH {n i o : Nat} : noL n (.ptr i o) = true := (rfl)
theorem qyo {n i : Nat} : noL n (.map i) = true := (rfl)
theorem qy9 {n : Nat} {x : List V} : noL n (.box x) = true := (rfl)
theorem qzE {n : Nat} {x : D} : noL n (.cp x) = true := (rfl)
theorem qza {n : Nat} {x : List V} : noL n (.agg x) = true := (rfl)
theorem qyU {n : Nat} {x : List V} : noL n (.tup x) = true := (rfl)
theorem qzr {n i : Nat} {x y : List V} : noL n (.fn i x y) = true := (rfl)
theorem qyX {n i : Nat} {x : V} : noL n (.ifc i x) = true := (rfl)
theorem qvK {n : Nat} : noL n .undef = true := (rfl)
theorem qze {n a b c d : Nat} : noL n (.rs a b c d) = true := (rfl)
theorem qzw {n m o : Nat} : noL n (.lp m o) = !Nat.beq m n := (rfl)
theorem qys {α : Type} {n : Nat} {e : α → D} {L : List α} : noL n (slV e L) = true := by cases L <;> rfl
theorem quS {k : D} {v : V} : qfe k v [] = some [(k, v)] := (rfl)
theorem qvX {o o' : Obj} : zi [o] 0 o' = [o'] := (rfl)
def e8 (n : Nat) : D := .i .u8 (n : Int)
theorem qwM (n : Nat) : (e8 n).cells.length = 1 := rfl
theorem qyA (n : Nat) (h : n < 256) : IntKind.wrap .u8 (n : Int) = (n : Int) := by
  simp [IntKind.wrap, IntKind.bits, IntKind.signed]; omega
theorem qyZ {n : Nat} (h : n < 128) : orI .u8 (n : Int) 128 = ((n + 128 : Nat) : Int) := by
  have key : ∀ m : Fin 128, orI .u8 ((m.val : Nat) : Int) 128 = ((m.val + 128 : Nat) : Int) := by decide +kernel
  exact key ⟨n, h⟩
theorem qy5 (n : Nat) : wr .u8 (n : Int) = ((n % 256 : Nat) : Int) := by
  by_cases h : n ≤ 255
  · rw [qj7 (by omega) (by omega), Nat.mod_eq_of_lt (by omega)]
  · show (bif Nat.ble n 255 then (Int.ofNat n) else IntKind.wrap .u8 (Int.ofNat n)) = _
    have : Nat.ble n 255 = false := by rw [qey]; simp; omega
    rw [this]
    simp [IntKind.wrap, IntKind.bits, IntKind.signed]
theorem qyl {n : Nat} : orI .u8 ((n % 256 : Nat) : Int) 128 = ((n % 128 + 128 : Nat) : Int) := by
  have key : ∀ m : Fin 256, orI .u8 ((m.val : Nat) : Int) 128 = ((m.val % 128 + 128 : Nat) : Int) := by decide +kernel
  have := key ⟨n % 256, Nat.mod_lt _ (by omega)⟩
  simp only at this
  rw [this]
  omega
theorem qzZ (n : Nat) : Int.fdiv (n : Int) (2 ^ (min (7 : Int).toNat (IntKind.bits .u64))) = ((n / 128 : Nat) : Int) := by
  show Int.fdiv (n : Int) (2 ^ 7) = _
  rw [Int.fdiv_eq_ediv_of_nonneg _ (by omega)]
  omega
end W

/- Walking on: interfaces, panics, function values, deferred closures. -/
set_option linter.unusedSimpArgs false
set_option linter.unusedVariables false
namespace W
open Go (IntKind BinOp UnOp)
variable {pg : Pg} {st : St} {call : Call}
def qrw (t : Nat) (v : V) (st : St) : Option Or := if v.ok then some ⟨false, true, .ifc t v, st⟩ else none
theorem qet {t : Nat} {x : O} : zu call (.mkIfc t x) st = qrw t (rd st.env x) st := (rfl)
theorem qgk {t : Nat} {x : D} : qrw t (.d x) st = some ⟨false, true, .ifc t (.d x), st⟩ := (rfl)
def qx8 (v : V) (st : St) : Option Or := match v with | .ifc t y => some ⟨true, true, .ifc t y, st⟩ | _ => none
theorem qnX {x : O} : zu call (.panic x) st = qx8 (rd st.env x) st := (rfl)
theorem qrd {t : Nat} {y : V} : qx8 (.ifc t y) st = some ⟨true, true, .ifc t y, st⟩ := (rfl)
theorem qh2 {t : Nat} {x : V} : qa3 .neq .iface true (.ifc t x) (.d .ni) = some (.d (.b true)) := (rfl)
theorem qyz {t : Nat} {x : V} : qa3 .eql .iface true (.ifc t x) (.d .ni) = some (.d (.b false)) := (rfl)
theorem qkn : qa3 .neq .iface true (.d .ni) (.d .ni) = some (.d (.b false)) := (rfl)
theorem qzl : qa3 .eql .iface true (.d .ni) (.d .ni) = some (.d (.b true)) := (rfl)
noncomputable def qrn (pg : Pg) (v : V) (args : List O) (st : St) : Option Or :=
  match v with
  | .fn i first cap =>
    let vs := first ++ args.map (rd st.env) ++ cap
    if V.allLeave vs then (match zC pg i vs st.H with
      | some r => some ⟨r.pan, r.same, r.v, { env := spentAll args st.env, H := r.H, lo := min st.lo r.lo }⟩
      | none => none) else none
  | _ => none
theorem qo6 {n : Nat} {args : List O} : qeY (zC pg) (.t n) args st = qrn pg (rd st.env (.t n)) args st := (rfl)
theorem qno {i : Nat} {args : List O} (hl : V.allLeave (args.map (rd st.env)) = true) : qrn pg (.fn i [] []) args st = qip (zC pg i (args.map (rd st.env)) st.H) args st := by
  have : ([] : List V) ++ args.map (rd st.env) ++ [] = args.map (rd st.env) := by simp
  simp only [qrn, this, hl, if_true, qip]
  all_goals rfl
theorem qt7 {t : Nat} {x : D} : V.leaves (.ifc t (.d x)) = true := (rfl)
theorem qt9 {t : Nat} : V.leaves (.ifc t .undef) = true := (rfl)
def qrR (f : Nat) (a b : List V) (st : St) : Option Or := if V.ok.oks a && V.ok.oks b then some ⟨false, true, .fn f a b, st⟩ else none
theorem qou {f : Nat} {a b : List O} : zu call (.mkFn f a b) st = qrR f (a.map (rd st.env)) (b.map (rd st.env)) st := (rfl)
theorem qss {f : Nat} {a b : List V} (h : (V.ok.oks a && V.ok.oks b) = true) : qrR f a b st = some ⟨false, true, .fn f a b, st⟩ := by simp [qrR, h]
theorem qyC {f : Nat} {a b : List V} : copy (.fn f a b) = .fn f a b := (rfl)
theorem qu9 {s t : Nat} {x : D} : qes s (.ifc t (.d x)) = .ifc t (.d x) := (rfl)
theorem quF {s t : Nat} : qes s (.ifc t .undef) = .ifc t .undef := (rfl)
theorem qyf {n t : Nat} {x : D} : noL n (.ifc t (.d x)) = true := (rfl)
theorem qyg {n t : Nat} : noL n (.ifc t .undef) = true := (rfl)
theorem qpx {bx : Bool} {no : List Nat} {n f : Nat} {a b : List V} : qeH bx no (some n) (.fn f a b) st = some ⟨(n, .fn f a b) :: st.env, st.H, st.lo⟩ := by cases bx <;> rfl
theorem qxn {bx : Bool} {no : List Nat} {n f : Nat} {a : V} : qeH bx no (some n) (.ifc f a) st = some ⟨(n, .ifc f a) :: st.env, st.H, st.lo⟩ := by cases bx <;> rfl
theorem qfc {H : List Obj} {pan : Bool} {v : V} {e : Env} {lo id : Nat} {o : Obj} (hv : v.leaves = true) (hr : v.ref = 0) (hs : ∀ G, settle H.length G v = v) (hh : zi H id o = H ∨ lo ≤ id) (hid : id < H.length) :
    ∃ sm, leave H pan v ⟨e, zi H id o, lo⟩ = some ⟨pan, sm, v, zi H id o, lo⟩ := by
  by_cases hl : H.length ≤ lo
  · have he : zi H id o = H := by
      rcases hh with h | h
      · exact h
      · omega
    rw [he]
    exact ⟨true, qdV hv (by omega) hl (hs _)⟩
  · exact ⟨false, qlp hv (.inr (by simp only; omega)) (hs _)⟩
theorem qhW {t : Nat} {x : V} : copy (.ifc t x) = .ifc t x := (rfl)
theorem qvz {t : Nat} {x : V} : qbk (.ifc t x) = .ifc t x := (rfl)
theorem qrW : V.ok .undef = true := (rfl)
end W

/-
  The same evaluator, in forms that the kernel reckons fast.
-/
set_option linter.unusedSimpArgs false
set_option linter.unusedVariables false
namespace W
open Go (IntKind BinOp UnOp)
noncomputable def fget (n : Nat) (e : Env) : V := List.rec (motive := fun _ => V) .undef (fun p _ ih => Bool.rec ih p.2 (qAk n p.1)) e
theorem qir (n : Nat) (e : Env) : fget n e = get n e := by
  induction e with
  | nil => rfl
  | cons p e ih =>
    obtain ⟨m, v⟩ := p
    show Bool.rec (fget n e) v (qAk n m) = bif qAk n m then v else get n e
    rw [ih]
    cases qAk n m <;> rfl
noncomputable def fnth {α : Type} (l : List α) (n : Nat) : Option α :=
  List.rec (motive := fun _ => Nat → Option α) (fun _ => none) (fun x _ ih n => Nat.rec (motive := fun _ => Option α) (some x) (fun m _ => ih m) n) l n
theorem qh9 {α : Type} (l : List α) (n : Nat) : fnth l n = l[n]? := by
  induction l generalizing n with
  | nil => rfl
  | cons x l ih =>
    cases n with
    | zero => rfl
    | succ n => exact ih n
noncomputable def frd (e : Env) (o : O) : V := O.rec (motive := fun _ => V) (fun n => qdS n (fget n e)) (fun x => .d x) (fun i => .fn i [] []) (fun n => qep (fget n e)) (fun _ x => .cp x) o
theorem qdX (e : Env) (o : O) : frd e o = rd e o := by cases o <;> simp only [frd, qir] <;> rfl
noncomputable def qa2 {α : Type} (a : Nat) (k : Nat → α) : α := Nat.rec (motive := fun _ => α) (k 0) (fun m _ => k (Nat.succ m)) a
noncomputable def qj6 {α : Type} (n : Int) (k : Int → α) : α := Int.rec (motive := fun _ => α) (fun a => qa2 a fun a => k (.ofNat a)) (fun a => qa2 a fun a => k (.negSucc a)) n
noncomputable def qkr {α : Type} (b : Bool) (k : Bool → α) : α := Bool.rec (motive := fun _ => α) (k false) (k true) b
theorem qcX {α : Type} (a : Nat) (k : Nat → α) : qa2 a k = k a := by cases a <;> rfl
theorem qiV {α : Type} (n : Int) (k : Int → α) : qj6 n k = k n := by
  cases n with
  | ofNat a => exact qcX a fun a => k (.ofNat a)
  | negSucc a => exact qcX a fun a => k (.negSucc a)
theorem qiu {α : Type} (b : Bool) (k : Bool → α) : qkr b k = k b := by cases b <;> rfl
noncomputable def qoG {α : Type} (l : List Nat) (k : List Nat → α) : α :=
  List.rec (motive := fun _ => (List Nat → α) → α) (fun k => k []) (fun x _ ih k => qa2 x fun x => ih fun r => k (x :: r)) l k
theorem qqq {α : Type} (l : List Nat) (k : List Nat → α) : qoG l k = k l := by
  induction l generalizing k with
  | nil => rfl
  | cons x l ih => exact (qcX x fun x => qoG l fun r => k (x :: r)).trans (ih fun r => k (x :: r))
noncomputable def qcm {β α : Type} (f : β → (β → α) → α) (l : List β) (k : List β → α) : α :=
  List.rec (motive := fun _ => (List β → α) → α) (fun k => k []) (fun x _ ih k => f x fun x => ih fun r => k (x :: r)) l k
theorem qbL {β α : Type} {f : β → (β → α) → α} (hf : ∀ x k, f x k = k x) (l : List β) (k : List β → α) : qcm f l k = k l := by
  induction l generalizing k with
  | nil => rfl
  | cons x l ih => exact (hf x fun x => qcm f l fun r => k (x :: r)).trans (ih fun r => k (x :: r))
noncomputable def qg1 {α : Type} (x : D) (k : D → α) : α :=
  D.casesOn (motive_1 := fun _ => α) x (fun z => qkr z fun z => k (.b z)) (fun kk n => qj6 n fun n => k (.i kk n)) (fun t => k (.s t)) (k .nil) (fun xs => k (.sl xs)) (fun cs => k (.agg cs)) (k .np) (k .nf) (k .ni) (k .nm)
theorem qeX {α : Type} (x : D) (k : D → α) : qg1 x k = k x := by
  cases x with
  | b z => exact qiu z fun z => k (.b z)
  | i kk n => exact qiV n fun n => k (.i kk n)
  | _ => rfl
noncomputable def qsz {α : Type} (x : D) (k : D → α) : α :=
  D.casesOn (motive_1 := fun _ => α) x (fun z => qkr z fun z => k (.b z)) (fun kk n => qj6 n fun n => k (.i kk n)) (fun t => qoG t fun t => k (.s t)) (k .nil) (fun xs => qcm qg1 xs fun xs => k (.sl xs)) (fun cs => qcm qg1 cs fun cs => k (.agg cs)) (k .np) (k .nf) (k .ni) (k .nm)
theorem qpM {α : Type} (x : D) (k : D → α) : qsz x k = k x := by
  cases x with
  | b z => exact qiu z fun z => k (.b z)
  | i kk n => exact qiV n fun n => k (.i kk n)
  | s t => exact qqq t fun t => k (.s t)
  | sl xs => exact qbL qeX xs fun xs => k (.sl xs)
  | agg xs => exact qbL qeX xs fun xs => k (.agg xs)
  | _ => rfl
noncomputable def qbf {α : Type} (v : V) (k : V → α) : α :=
  V.casesOn (motive_1 := fun _ => α) v (fun x => qg1 x fun x => k (.d x)) (fun xs => k (.osl xs)) (fun i o => qa2 i fun i => qa2 o fun o => k (.ptr i o)) (fun i o => qa2 i fun i => qa2 o fun o => k (.lp i o)) (fun cs => k (.box cs)) (fun x => k (.cp x))
    (fun i o n c => k (.rs i o n c)) (fun i => qa2 i fun i => k (.map i)) (fun f a b => k (.fn f a b)) (fun t x => k (.ifc t x)) (fun cs => k (.agg cs)) (fun vs => k (.tup vs)) (k .undef)
theorem qby {α : Type} (v : V) (k : V → α) : qbf v k = k v := by
  cases v with
  | d x => exact qeX x fun x => k (.d x)
  | _ => simp only [qbf, qcX]
noncomputable def qoT {α : Type} (v : V) (k : V → α) : α :=
  V.casesOn (motive_1 := fun _ => α) v (fun x => qsz x fun x => k (.d x)) (fun xs => qcm qg1 xs fun xs => k (.osl xs)) (fun i o => qa2 i fun i => qa2 o fun o => k (.ptr i o)) (fun i o => qa2 i fun i => qa2 o fun o => k (.lp i o)) (fun cs => qcm qbf cs fun cs => k (.box cs)) (fun x => qg1 x fun x => k (.cp x))
    (fun i o n c => qa2 i fun i => qa2 o fun o => qa2 n fun n => qa2 c fun c => k (.rs i o n c)) (fun i => qa2 i fun i => k (.map i)) (fun f a b => qa2 f fun f => k (.fn f a b)) (fun t x => k (.ifc t x)) (fun cs => qcm qbf cs fun cs => k (.agg cs)) (fun vs => qcm qbf vs fun vs => k (.tup vs)) (k .undef)
theorem qqp {α : Type} (v : V) (k : V → α) : qoT v k = k v := by
  cases v with
  | d x => exact qpM x fun x => k (.d x)
  | osl xs => exact qbL qeX xs fun xs => k (.osl xs)
  | box cs => exact qbL qby cs fun cs => k (.box cs)
  | cp x => exact qeX x fun x => k (.cp x)
  | agg cs => exact qbL qby cs fun cs => k (.agg cs)
  | tup cs => exact qbL qby cs fun cs => k (.tup cs)
  | _ => simp only [qoT, qcX]
noncomputable def qrJ {α : Type} (o : Obj) (k : Obj → α) : α :=
  Obj.casesOn (motive := fun _ => α) o (fun cs => qcm qbf cs fun cs => k (.cells cs)) (fun es => qcm (fun p k => qbf p.2 fun v => k (p.1, v)) es fun es => k (.map es))
theorem qqo {α : Type} (o : Obj) (k : Obj → α) : qrJ o k = k o := by
  cases o with
  | cells cs => exact qbL qby cs fun cs => k (.cells cs)
  | map es => exact qbL (fun p k => qby p.2 fun v => k (p.1, v)) es fun es => k (.map es)
noncomputable def qgC {α : Type} (H : List Obj) (k : List Obj → α) : α := qcm (fun o k => qrJ o k) H k
theorem qg7 {α : Type} (H : List Obj) (k : List Obj → α) : qgC H k = k H := qbL qqo _ _
noncomputable def qsk (l : L) (off : Nat) (cs : List V) : Option V := Bool.rec (motive := fun _ => Option V) ((fnth cs off).map qbk) (V.part off l cs) l.agg
noncomputable def qlM (l : L) (st : St) (v : V) : Option V :=
  match v with
  | .lp s off => match fget s st.env with
    | .box cs => qsk l off cs
    | _ => none
  | .ptr id off => match fnth st.H id with
    | some (.cells cs) => qsk l off cs
    | _ => none
  | v => qaA l st v
theorem quv (l : L) (off : Nat) (cs : List V) : qsk l off cs = V.part off l cs := by
  obtain ⟨n, agg⟩ := l
  cases agg with
  | true => rfl
  | false => show (fnth cs off).map qbk = _; rw [qh9]; simp [V.part]
theorem qoF : qlM = qaA := by
  funext l st v
  cases v <;> simp only [qlM, quv, qir, qh9] <;> rfl
noncomputable def qwA (x : O) (st : St) : Option Or := ok (frd st.env x) { st with env := spent x st.env }
noncomputable def qtZ (c : O) (a : O) (b : O) (st : St) : Option Or :=
  match frd st.env c with
    | .d (.b z) => ok (Bool.rec (motive := fun _ => V) (frd st.env b) (frd st.env a) z) st
    | _ => none
noncomputable def qtX (mv : Bool) (sl : Option Nat) (l : L) (a : O) (st : St) : Option Or :=
  Bool.rec (motive := fun _ => Option Or) (bif !yD sl (frd st.env a) then none else (match qlM l st (frd st.env a) with | some v => ok v st | none => none)) (qc8 true sl l a st) mv
noncomputable def qlz (x : O) (st : St) : Option Or :=
  match frd st.env x with
    | .ptr id off => ok (.ptr id off) st
    | .lp s off => ok (.lp s off) st
    | .cp y => ok (.cp y) st
    | _ => none
noncomputable def qxg (op : BinOp) (kd : Kd) (x : O) (y : O) (st : St) : Option Or :=
  match qa3 op kd (isC x || isC y) (frd st.env x) (frd st.env y) with
    | some v => ok v st
    | none => none
noncomputable def qjU (x : O) (off : Nat) (l : L) (st : St) : Option Or :=
  match frd st.env x with
    | .ptr id o => ok (.ptr id (o + off)) st
    | .lp s o => ok (.lp s (o + off)) st
    | _ => qaD x off l st
noncomputable def qkS (x : O) (i : O) (size : Nat) (arr : Option Nat) (st : St) : Option Or :=
  match frd st.env i with
    | .d (.i _ n) => match arr with
      | some len => bif leI 0 n && !leI len n then (match frd st.env x with
        | .ptr id o => ok (.ptr id (o + n.toNat * size)) st
        | .lp s o => ok (.lp s (o + n.toNat * size)) st
        | .cp (.agg cs) => bif qAk size 1 then (match fnth cs n.toNat with
          | some y => if y.one then ok (.cp y) st else none
          | none => none) else none
        | _ => none) else none
      | none => bif leI 0 n then (match frd st.env x with
        | .d (.sl xs) => match fnth xs n.toNat with
          | some y => bif qAk y.cells.length size then ok (.cp y) st else none
          | none => none
        | .rs id o len _ => bif !leI len n && qAk size 1 then ok (.ptr id (o + n.toNat)) st else none
        | _ => none) else none
    | _ => none
noncomputable def qrD (x : O) (i : O) (st : St) : Option Or :=
  match frd st.env x, frd st.env i with
    | .d (.s t), .d (.i _ n) => bif leI 0 n then (match fnth t n.toNat with
        | some y => ok (.d (.i .u8 y)) st
        | none => none) else none
    | _, _ => none
noncomputable def qn7 (x : O) (i : Nat) (st : St) : Option Or :=
  match x with
    | .t n => match fget n st.env with
      | .tup vs => match fnth vs i with
        | some v => ok (copy v) st
        | none => none
      | _ => none
    | _ => none
noncomputable def qoD {α : Type} (l : List α) : Nat := List.rec (motive := fun _ => Nat) 0 (fun _ _ ih => Nat.succ ih) l
theorem ql0 {α : Type} (l : List α) : qoD l = l.length := by
  induction l with
  | nil => rfl
  | cons x l ih => simp only [qz4, ← ih]; rfl
noncomputable def qtQ (x : O) (st : St) : Option Or :=
  match frd st.env x with
    | .d (.s t) => ok (.d (.i .i64 (qoD t))) st
    | _ => none
noncomputable def qud (x : O) (st : St) : Option Or :=
  match frd st.env x with
    | .d .nil => ok (.d (.i .i64 0)) st
    | .d (.sl xs) => ok (.d (.i .i64 (qoD xs))) st
    | .rs _ _ n _ => ok (.d (.i .i64 n)) st
    | _ => none
noncomputable def fBi (b : Bi) (args : List O) (st : St) : Option Or :=
  match b, args with
    | .lenS, [x] => qtQ x st
    | .lenL, [x] => qud x st
    | b, l => eBi b l st
noncomputable def qdB (call : Call) (k : OpK) (st : St) : Option Or :=
  match k with
  | .mov x => qwA x st
  | .pick c a b => qtZ c a b st
  | .load mv sl l a => qtX mv sl l a st
  | .nilCheck x => qlz x st
  | .bin op kd x y => qxg op kd x y st
  | .fieldAddr x off l => qjU x off l st
  | .indexAddr x i size arr => qkS x i size arr st
  | .index x i => qrD x i st
  | .extract x i => qn7 x i st
  | .bi b args => fBi b args st
  | k => zu call k st
theorem qlg : qdB = zu := by
  funext call k st
  cases k with
  | mov x => simp only [qdB, qwA, qdX]; rfl
  | pick c a b =>
    simp only [qdB, qtZ, qdX, zu, qgh]
    cases rd st.env c with
    | d w => cases w with
      | b z => cases z <;> rfl
      | _ => rfl
    | _ => rfl
  | load mv sl l a => cases mv <;> simp only [qdB, qtX, qdX, qoF] <;> rfl
  | nilCheck x => simp only [qdB, qlz, qdX]; rfl
  | bin op kd x y => simp only [qdB, qxg, qdX]; rfl
  | fieldAddr x off l =>
    simp only [qdB, qjU, qdX, zu]
    split <;> rename_i h <;> (try simp only [qaD, h])
  | indexAddr x i size arr => simp only [qdB, qkS, qdX, qh9]; rfl
  | index x i => simp only [qdB, qrD, qdX, qh9]; rfl
  | extract x i => simp only [qdB, qn7, qir, qh9]; rfl
  | bi b args =>
    simp only [qdB, fBi, zu]
    split
    · rename_i x; simp only [qtQ, qdX, ql0]; rfl
    · rename_i x
      simp only [qud, qdX, ql0]
      show _ = qfm x st
      unfold qfm
      cases rd st.env x with
      | d w => cases w <;> rfl
      | _ => rfl
    · rfl
  | _ => rfl
noncomputable def makes (k : OpK) : Bool :=
  match k with
  | .mov _ => false
  | .load _ _ _ _ => false
  | .extract _ _ => false
  | .pick _ _ _ => false
  | .nilCheck _ => false
  | .store _ _ _ _ => false
  | .call _ _ => false
  | .indexAddr _ _ _ _ => false
  | .fieldAddr _ _ _ => false
  | .field _ _ _ => false
  | _ => true
noncomputable def ql6 {α : Type} (m : Bool) (v : V) (k : V → α) : α := Bool.rec (motive := fun _ => α) (qbf v k) (qoT v k) m
theorem qle {α : Type} (m : Bool) (v : V) (k : V → α) : ql6 m v k = k v := by
  cases m
  · exact qby v k
  · exact qqp v k
noncomputable def fput (m : Bool) (dst : Option Nat) (v : V) (same : Bool) (st : St) (k : St → Option (Ex × St)) : Option (Ex × St) :=
  ql6 m v fun v => Option.rec (motive := fun _ => Option (Ex × St)) (Bool.rec (motive := fun _ => Option (Ex × St)) (qgC st.H fun H => qa2 st.lo fun lo => k { st with H := H, lo := lo }) (k st) same)
    (fun n => Bool.rec (motive := fun _ => Option (Ex × St)) (qgC st.H fun H => qa2 st.lo fun lo => k (put (some n) v { st with H := H, lo := lo })) (k (put (some n) v st)) same) dst
theorem qtG (m : Bool) (dst : Option Nat) (v : V) (same : Bool) (st : St) (k : St → Option (Ex × St)) : fput m dst v same st k = k (put dst v st) := by
  unfold fput
  rw [qle]
  cases dst with
  | none => cases same <;> simp only [qg7, qcX] <;> rfl
  | some n => cases same <;> simp only [qg7, qcX]
noncomputable def qjz (call : Call) (l : List Op) : St → Option (Ex × St) :=
  List.rec (motive := fun _ => St → Option (Ex × St)) (fun st => some (.nrm, st)) (fun o _ ih st =>
    match wanted o.g st.env with
    | some true => match qdB call o.k st with
      | some r => Bool.rec (motive := fun _ => Option (Ex × St)) (fput (makes o.k) o.dst r.v r.same r.st ih) (some (.pan r.v, r.st)) r.pan
      | none => none
    | some false => ih (put o.dst (.tup []) st)
    | none => none) l
theorem qoy (call : Call) (l : List Op) : qjz call l = jv call l := by
  induction l with
  | nil => rfl
  | cons o l ih =>
    funext st
    show (match wanted o.g st.env with
    | some true => match qdB call o.k st with
      | some r => Bool.rec (motive := fun _ => Option (Ex × St)) (fput (makes o.k) o.dst r.v r.same r.st (qjz call l)) (some (.pan r.v, r.st)) r.pan
      | none => none
    | some false => qjz call l (put o.dst (.tup []) st)
    | none => none) = _
    simp only [ih, qlg, qtG, jv]
    cases wanted o.g st.env with
    | none => rfl
    | some b =>
      cases b with
      | false => rfl
      | true =>
        simp only
        cases zu call o.k st with
        | none => rfl
        | some r =>
          simp only
          cases r.pan <;> rfl
noncomputable def frestrict (live : List Nat) (e : Env) (k : Env → Option (Ex × St)) : Option (Ex × St) :=
  List.rec (motive := fun _ => (Env → Option (Ex × St)) → Option (Ex × St)) (fun k => k []) (fun n _ ih k => qbf (match fget n e with | .lp _ _ => .undef | v => v) fun v => ih fun r => k ((n, v) :: r)) live k
theorem qdN (live : List Nat) (e : Env) (k : Env → Option (Ex × St)) : frestrict live e k = k (restrict live e) := by
  induction live generalizing k with
  | nil => rfl
  | cons n l ih =>
    show qbf (match fget n e with | .lp _ _ => .undef | v => v) (fun v => frestrict l e fun r => k ((n, v) :: r)) = _
    rw [qby, ih, qir]
    rfl
noncomputable def fstep (call : Call) (ex : C → St → Option (Ex × St)) (c : C) (st : St) : Option (Ex × St) :=
  match c with
  | .ops l => qjz call l st
  | .cond o a b => match frd st.env o with
    | .d (.b true) => ex a st
    | .d (.b false) => ex b st
    | _ => none
  | .block id live a => match ex a st with
    | some (.nrm, st') => frestrict live st'.env fun e => some (.nrm, { st' with env := e })
    | some (.exit j, st') => bif qAk j id then frestrict live st'.env fun e => some (.nrm, { st' with env := e }) else some (.exit j, st')
    | r => r
  | .loop live a => frestrict live st.env fun e => match ex a { st with env := e } with
    | some (.nrm, st') => ex (.loop live a) st'
    | r => r
  | c => step call ex c st
theorem qq1 (call : Call) (ex : C → St → Option (Ex × St)) : fstep call ex = step call ex := by
  funext c st
  cases c with
  | ops l => simp only [fstep, qoy]; rfl
  | cond o a b => simp only [fstep, qdX]; rfl
  | block id live a => simp only [fstep, qdN]; rfl
  | loop live a => simp only [fstep, qdN]; rfl
  | _ => rfl
noncomputable def fexec (pg : Pg) (n : Nat) : C → St → Option (Ex × St) :=
  Nat.rec (motive := fun _ => C → St → Option (Ex × St)) (fun _ _ => none) (fun _ ih => fstep (jy pg ih) ih) n
theorem qsr (pg : Pg) (n : Nat) : fexec pg n = exec pg n := by
  induction n with
  | zero => rfl
  | succ n ih =>
    show fstep (jy pg (fexec pg n)) (fexec pg n) = _
    rw [ih, qq1]
    rfl
noncomputable def fcall (pg : Pg) (n : Nat) : Call := jy pg (fexec pg n)
theorem qrT (pg : Pg) (n : Nat) : fcall pg n = qcP pg n := by unfold fcall qcP; rw [qsr]
theorem qvA {pg : Pg} {n f : Nat} {vs : List V} {H : List Obj} {r : Cr} (h : fcall pg n f vs H = some r) : zC pg f vs H = some r := by
  rw [qrT] at h
  exact qdo.2 ⟨n, h⟩
end W

