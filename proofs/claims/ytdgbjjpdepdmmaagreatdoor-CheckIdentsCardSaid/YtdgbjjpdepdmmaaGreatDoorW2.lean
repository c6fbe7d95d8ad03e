/-
  Which texts are identifiers that may be declared: recheck.Ident and the document's are the same predicate of any text.: part 2 of what the proof rests on (a value semantics for a part of the language, sound against the model; the walks).
-/
import Derived.Test.YtdgbjjpdepdmmaaGreatDoorW1
set_option linter.unusedVariables false
open Bool renaming false_eq_true → qBZ, and_eq_true → qB0, cond_eq_ite → qB5, and_self → qB7, or_true → qCb, or_self → qCh, not_true → qCl
open List renaming getElem?_cons_zero → qB1, map_cons → qB4, getElem?_cons_succ → qB6, length_cons → qCd, map_nil → qCe, length_nil → qCf, set_cons_zero → qCi, set_cons_succ → qCk
open Nat renaming le_refl → qB2, zero_add → qB9, beq → qCa, eq_of_beq_eq_true → qCg
open Option renaming map_some → qB3, bind_eq_some_iff → qB8, bind_eq_bind → qCc, pure_def → qCj
namespace W
def glD (n : Nat) : D :=
  bif qCa n 0 then qdD else
  bif qCa n 5 then qa4 else
  bif qCa n 6 then qcb else
  bif qCa n 7 then qb4 else .nil
def zl : C := (.seq (.ops [⟨some 41, .bin .lss .num (.t 40) (.t 39), none⟩]) ((.seq ((.cond (.t 41) (.skip) (.exit 0))) ((.seq ((.block 1 [38, 39, 40] ((.seq (.ops [⟨some 42, .indexAddr (.t 38) (.t 40) 1 none, none⟩, ⟨some 43, .loadC ⟨1, false⟩ (.t 42), none⟩, ⟨some 12, .mov (.t 43), none⟩]) ((.seq (.ops [⟨some 44, .mov (.t 12), none⟩, ⟨some 45, .call (.f 14) [.t 44], none⟩, ⟨some 46, .mov (.mv 12), none⟩, ⟨some 47, .call (.f 15) [.mv 46], none⟩, ⟨some 48, .bin .neq .bool (.t 45) (.t 47), none⟩]) ((.cond (.t 48) ((.seq (.ops [⟨some 8, .mov (.c (.b false)), none⟩]) (.ret))) (.skip))))))))) (.ops [⟨some 49, .bin .add .num (.t 40) (.c (.i .i64 1)), none⟩, ⟨some 40, .mov (.t 49), none⟩]))))))
def jq : C := .loop [38, 39, 40] zl
noncomputable def jT (pg : Pg) (v38 v39 v40 : V) (H : List Obj) (lo : Nat) : Option (Ex × St) := exL pg jq ⟨[(38, v38), (39, v39), (40, v40)], H, lo⟩
theorem zT {pg : Pg} {e : Env} {H : List Obj} {lo : Nat} : exL pg jq ⟨e, H, lo⟩ = jT pg (qM (get 38 e)) (qM (get 39 e)) (qM (get 40 e)) H lo := qcn
theorem zU {pg : Pg} {v38 v39 v40 : V} {H : List Obj} {lo : Nat} : jT pg v38 v39 v40 H lo = y6 pg (exL pg zl ⟨[(38, qM v38), (39, qM v39), (40, qM v40)], H, lo⟩) jq := by
  unfold jT jq; rw [qaA]; simp only [qg, qm, qz, qC, Nat.reduceEqDiff]
def qan : C := (.seq (.ops [⟨some 8, .mov (.c (.b true)), none⟩]) (.ret))
def jo : Fn := ⟨4, [.t 8], true, (.seq (.ops [⟨some 8, .mov (.c (.b false)), none⟩]) ((.seq ((.seq (.ops [⟨some 13, .call (.f 8) [], none⟩,
 ⟨some 14, .un .not (.t 13), none⟩]) ((.cond (.t 14) ((.seq (.ops [⟨some 8, .mov (.c (.b false)), none⟩]) (.ret))) (.skip))))) ((.seq ((.seq (.ops [⟨some 15, .mov (.t 0), none⟩,
 ⟨some 16, .bi .lenS [.t 15], none⟩,
 ⟨some 17, .bin .gtr .num (.t 16) (.c (.i .i64 80)), none⟩]) ((.cond (.t 17) ((.seq (.ops [⟨some 8, .mov (.c (.b true)), none⟩]) (.ret))) (.skip))))) ((.seq (.ops [⟨some 18, .buildSlice (.s []) 8 [(0, (.c (.s [120]))), (1, (.c (.s [97, 98, 99, 49]))), (2, (.c (.s [77, 79, 68, 85, 76, 69]))), (3, (.c (.s [73, 78, 84, 69, 71, 69, 82]))), (4, (.c (.s [76, 69, 78]))), (5, (.c (.s [73, 110]))), (6, (.c (.s [97, 118, 101, 114, 121, 108, 111, 110, 103, 105, 100, 101, 110, 116, 105, 102, 105, 101, 114, 111, 102, 109, 97, 110, 121, 108, 101, 116, 116, 101, 114, 115, 49]))), (7, (.c (.s [97, 118, 101, 114, 121, 108, 111, 110, 103, 105, 100, 101, 110, 116, 105, 102, 105, 101, 114, 111, 102, 109, 97, 110, 121, 108, 101, 116, 116, 101, 114, 49])))], none⟩,
 ⟨some 19, .mov (.t 1), none⟩,
 ⟨some 20, .bin .rem .num (.t 19) (.c (.i .u8 8)), none⟩,
 ⟨some 21, .indexAddr (.t 18) (.t 20) 1 none, none⟩,
 ⟨some 22, .loadC ⟨1, false⟩ (.t 21), none⟩,
 ⟨some 23, .bytesRow (.t 22), none⟩,
 ⟨some 9, .mov (.t 23), none⟩]) ((.seq (.ops [⟨some 24, .mov (.t 9), none⟩,
 ⟨some 25, .text (.t 24), none⟩,
 ⟨some 10, .mov (.mv 25), none⟩]) ((.seq (.ops [⟨some 26, .mov (.t 9), none⟩,
 ⟨some 27, .mov (.t 2), none⟩,
 ⟨some 28, .conv .i64 (.t 27), none⟩,
 ⟨some 29, .mov (.t 9), none⟩,
 ⟨some 30, .bi .lenL [.t 29], none⟩,
 ⟨some 31, .bin .rem .num (.t 28) (.t 30), none⟩,
 ⟨some 32, .mov (.t 3), none⟩,
 ⟨some 33, .indexAddr (.t 26) (.t 31) 1 none, none⟩,
 ⟨none, .store none ⟨1, false⟩ (.t 33) (.t 32), none⟩]) ((.seq ((.seq (.ops [⟨some 34, .mov (.t 0), none⟩,
 ⟨some 35, .mov (.t 10), none⟩,
 ⟨some 36, .mov (.t 9), none⟩,
 ⟨some 37, .text (.t 36), none⟩,
 ⟨some 38, .buildSlice (.s []) 4 [(0, (.t 34)), (1, (.t 35)), (2, (.t 37)), (3, (.c (.s [])))], none⟩,
 ⟨some 39, .bi .lenL [.t 38], none⟩,
 ⟨some 40, .mov (.c (.i .i64 0)), none⟩]) ((.block 0 [] (jq))))) (qan)))))))))))))), none, none⟩
def qfD : Fn := ⟨0, [.t 0], true, (.seq (.ops [⟨some 0, .mov (.c (.b false)), none⟩]) ((.seq (.ops [⟨some 3, .build [(.i .i64 0), (.i .i64 0), (.s []), .nil] [(0, 1, (.c (.i .i64 1)))], none⟩,
 ⟨some 4, .build [(.s []), (.b false), (.i .i64 0), (.i .i64 0), (.s []), .nil] [(0, 1, (.c (.s [105]))), (2, 4, (.t 3))], none⟩,
 ⟨some 5, .buildSlice (.agg [(.s []), (.b false), (.i .i64 0), (.i .i64 0), (.s []), .nil]) 1 [(0, (.t 4))], none⟩,
 ⟨some 6, .build [(.s []), .nil, .nil, .nil, .nil, .nil, .nil, .nil] [(0, 1, (.c (.s [77]))), (5, 1, (.t 5))], none⟩,
 ⟨some 1, .alloc true [(.s []), .nil, .nil, .nil, .nil, .nil, .nil, .nil], none⟩,
 ⟨none, .store (some 1) ⟨8, true⟩ (.t 1) (.t 6), none⟩]) ((.seq (.ops [⟨some 7, .load false (some 1) ⟨8, true⟩ (.t 1), none⟩,
 ⟨some 2, .alloc true [(.s []), .nil, .nil, .nil, .nil, .nil, .nil, .nil], none⟩,
 ⟨none, .store (some 2) ⟨8, true⟩ (.t 2) (.t 7), none⟩]) ((.seq (.ops [⟨some 8, .build [(.i .i64 0), (.i .i64 0), (.s []), .nil] [(0, 1, (.c (.i .i64 1)))], none⟩,
 ⟨some 9, .build [(.i .i64 0), (.i .i64 0), (.i .i64 0), (.s []), .nil, (.i .i32 0), (.s []), .nil] [(0, 1, (.c (.i .i64 1))), (1, 4, (.t 8)), (6, 1, (.c (.s [77, 46, 105])))], none⟩,
 ⟨some 10, .buildSlice (.agg [(.i .i64 0), (.i .i64 0), (.i .i64 0), (.s []), .nil, (.i .i32 0), (.s []), .nil]) 1 [(0, (.t 9))], none⟩,
 ⟨some 11, .build [(.i .i64 0), .nil, .nil, .nil] [(0, 1, (.c (.i .i64 12))), (1, 1, (.t 10))], none⟩,
 ⟨some 12, .buildSlice (.agg [(.i .i64 0), .nil, .nil, .nil]) 1 [(0, (.t 11))], none⟩,
 ⟨some 13, .fieldAddr (.t 2) 7 ⟨1, false⟩, none⟩,
 ⟨none, .store (some 2) ⟨1, false⟩ (.t 13) (.mv 12), none⟩]) ((.seq (.ops [⟨some 14, .load false (some 1) ⟨8, true⟩ (.t 1), none⟩,
 ⟨some 15, .call (.f 11) [.t 14, (.c .nil)], none⟩,
 ⟨some 16, .bin .eql .num (.t 15) (.c (.i .i64 0)), none⟩,
 ⟨some 17, .mov (.t 16), none⟩,
 ⟨some 18, .load false (some 2) ⟨8, true⟩ (.t 2), some (17, true)⟩,
 ⟨some 19, .call (.f 11) [.t 18, (.c .nil)], some (17, true)⟩,
 ⟨some 20, .bin .neq .num (.t 19) (.c (.i .i64 0)), some (17, true)⟩,
 ⟨some 21, .pick (.t 17) (.t 20) (.c (.b false)), none⟩,
 ⟨some 22, .mov (.t 21), none⟩,
 ⟨some 23, .call (.f 14) [(.c (.s [120, 49]))], some (22, true)⟩,
 ⟨some 24, .pick (.t 22) (.t 23) (.c (.b false)), none⟩,
 ⟨some 25, .mov (.t 24), none⟩,
 ⟨some 26, .call (.f 14) [(.c (.s [69, 78, 68]))], some (25, true)⟩,
 ⟨some 27, .un .not (.t 26), some (25, true)⟩,
 ⟨some 28, .pick (.t 25) (.t 27) (.c (.b false)), none⟩,
 ⟨some 29, .mov (.t 28), none⟩,
 ⟨some 30, .call (.f 14) [(.c (.s [65, 66, 83]))], some (29, true)⟩,
 ⟨some 31, .un .not (.t 30), some (29, true)⟩,
 ⟨some 32, .pick (.t 29) (.t 31) (.c (.b false)), none⟩,
 ⟨some 0, .mov (.t 32), none⟩]) (.ret)))))))))), none, none⟩
def qjd : C := (.seq (.ops [⟨some 29, .bin .lss .num (.t 28) (.t 27), none⟩]) ((.seq ((.cond (.t 29) (.skip) (.exit 0))) ((.seq ((.block 1 [2, 4, 5, 26, 27, 28] ((.seq (.ops [⟨some 30, .indexAddr (.t 26) (.t 28) 10 none, none⟩, ⟨some 31, .load false none ⟨10, true⟩ (.t 30), none⟩, ⟨some 7, .alloc true [(.s []), (.b false), .nil, (.i .i64 0), (.i .i64 0), (.s []), .nil, .nil, .nil, .nil], none⟩, ⟨none, .store (some 7) ⟨10, true⟩ (.t 7) (.t 31), none⟩]) (.ops [⟨some 32, .mov (.t 5), none⟩, ⟨some 33, .load false (some 7) ⟨10, true⟩ (.t 7), none⟩, ⟨some 34, .call (.f 27) [.t 32, (.t 33)], none⟩]))))) (.ops [⟨some 35, .bin .add .num (.t 28) (.c (.i .i64 1)), none⟩, ⟨some 28, .mov (.t 35), none⟩]))))))
def qiW : C := .loop [2, 4, 5, 26, 27, 28] qjd
def qjf : C := (.seq (.ops [⟨some 36, .mov (.t 5), none⟩, ⟨some 37, .mov (.t 5), none⟩, ⟨some 38, .nilCheck (.t 36), none⟩, ⟨some 39, .fieldAddr (.t 38) 9 ⟨1, false⟩, none⟩, ⟨none, .store none ⟨1, false⟩ (.t 39) (.c .nm), none⟩, ⟨some 40, .nilCheck (.t 37), none⟩, ⟨some 41, .fieldAddr (.t 40) 10 ⟨1, false⟩, none⟩, ⟨none, .store none ⟨1, false⟩ (.t 41) (.c .nm), none⟩]) ((.seq (.ops [⟨some 42, .mov (.mv 5), none⟩, ⟨some 43, .fieldAddr (.t 2) 7 ⟨1, false⟩, none⟩, ⟨some 44, .load false (some 2) ⟨1, false⟩ (.t 43), none⟩, ⟨some 45, .call (.f 28) [.mv 42, (.t 44)], none⟩]) ((.seq (.ops [⟨none, .store none ⟨1, false⟩ (.t 4) (.c (.i .i64 0)), none⟩]) (.ret))))))
def qka : C := (.seq (.skip) ((.seq (.ops [⟨some 9, .load false (some 2) ⟨8, true⟩ (.t 2), none⟩, ⟨some 10, .call (.f 22) [.t 9], none⟩, ⟨some 11, .call (.f 21) [.t 10, (.c (.i .i64 34))], none⟩]) ((.seq (.opsD [(⟨some 12, .load false (some 2) ⟨8, true⟩ (.t 2), none⟩, false, []), (⟨some 13, .fieldAddr (.t 2) 0 ⟨1, false⟩, none⟩, false, []), (⟨some 14, .load false (some 2) ⟨1, false⟩ (.t 13), none⟩, false, []), (⟨some 15, .mov (.mv 1), none⟩, false, []), (⟨some 16, .call (.f 23) [.t 14, (.mv 15)], none⟩, true, []), (⟨some 17, .build [(.s []), .nil, .nil, .nil, .nil, .nil, .nil, .nil, .np, .nm, .nm] [(0, 8, (.t 12)), (8, 1, (.t 16))], none⟩, true, []), (⟨some 18, .box false (.t 17), none⟩, true, []), (⟨some 5, .mov (.t 18), none⟩, true, [])]) ((.seq (.ops [⟨some 19, .mov (.t 5), none⟩, ⟨some 20, .call (.f 24) [.t 19], none⟩]) ((.seq (.ops [⟨some 21, .mov (.t 5), none⟩, ⟨some 22, .call (.f 25) [.t 21], none⟩]) ((.seq (.ops [⟨some 23, .mov (.t 5), none⟩, ⟨some 24, .call (.f 26) [.t 23], none⟩]) ((.seq ((.seq (.ops [⟨some 25, .fieldAddr (.t 2) 6 ⟨1, false⟩, none⟩, ⟨some 26, .load false (some 2) ⟨1, false⟩ (.t 25), none⟩, ⟨some 27, .bi .lenL [.t 26], none⟩, ⟨some 28, .mov (.c (.i .i64 0)), none⟩]) ((.block 0 [2, 4, 5] (qiW))))) (qjf))))))))))))))
def qhl : Fn := ⟨2, [(.cell 4 ⟨1, false⟩)], true, (.seq (.ops [⟨some 2, .box true (.t 0), none⟩, ⟨some 4, .alloc false [(.i .i64 0)], none⟩]) (.ops [⟨some 8, .mkFn 20 [] [.t 4], none⟩])), some (8, qka), none⟩
def jA : Fn := ⟨1, [.t 2], true, (.seq (.ops [⟨some 2, .mov (.c (.b false)), none⟩]) ((.seq (.ops [⟨some 6, .mov (.t 0), none⟩, ⟨some 7, .call (.f 33) [.t 6], none⟩, ⟨some 5, .mov (.t 7), none⟩, ⟨some 8, .extract (.t 5) 0, none⟩, ⟨some 9, .extract (.t 5) 1, none⟩, ⟨some 3, .mov (.t 8), none⟩, ⟨some 4, .mov (.t 9), none⟩]) ((.seq (.ops [⟨some 10, .mov (.t 4), none⟩, ⟨some 11, .bi .lenL [.t 10], none⟩, ⟨some 12, .bin .eql .num (.t 11) (.c (.i .i64 0)), none⟩, ⟨some 13, .mov (.t 12), none⟩, ⟨some 14, .mov (.t 3), some (13, true)⟩, ⟨some 15, .bi .lenL [.t 14], some (13, true)⟩, ⟨some 16, .bin .eql .num (.t 15) (.c (.i .i64 2)), some (13, true)⟩, ⟨some 17, .pick (.t 13) (.t 16) (.c (.b false)), none⟩, ⟨some 18, .mov (.t 17), none⟩, ⟨some 19, .mov (.t 3), some (18, true)⟩, ⟨some 20, .indexAddr (.t 19) (.c (.i .i64 0)) 5 none, some (18, true)⟩, ⟨some 21, .fieldAddr (.t 20) 0 ⟨1, false⟩, some (18, true)⟩, ⟨some 22, .load false none ⟨1, false⟩ (.t 21), some (18, true)⟩, ⟨some 23, .bin .eql .num (.t 22) (.c (.i .i64 1)), some (18, true)⟩, ⟨some 24, .pick (.t 18) (.t 23) (.c (.b false)), none⟩, ⟨some 25, .mov (.t 24), none⟩, ⟨some 26, .mov (.t 3), some (25, true)⟩, ⟨some 27, .indexAddr (.t 26) (.c (.i .i64 0)) 5 none, some (25, true)⟩, ⟨some 28, .fieldAddr (.t 27) 3 ⟨1, false⟩, some (25, true)⟩, ⟨some 29, .load false none ⟨1, false⟩ (.t 28), some (25, true)⟩, ⟨some 30, .mov (.t 0), some (25, true)⟩, ⟨some 31, .bin .eql .num (.t 29) (.t 30), some (25, true)⟩, ⟨some 32, .pick (.t 25) (.t 31) (.c (.b false)), none⟩, ⟨some 33, .mov (.t 32), none⟩, ⟨some 34, .mov (.t 0), some (33, true)⟩, ⟨some 35, .call (.f 34) [.t 34], some (33, true)⟩, ⟨some 36, .un .not (.t 35), some (33, true)⟩, ⟨some 37, .pick (.t 33) (.t 36) (.c (.b false)), none⟩, ⟨some 2, .mov (.t 37), none⟩]) (.ret)))))), none, none⟩
def kj : C := (.seq ((.seq (.ops [⟨some 20, .mov (.t 3), none⟩,
 ⟨some 21, .mov (.t 0), none⟩,
 ⟨some 22, .bi .lenS [.t 21], none⟩,
 ⟨some 23, .bin .lss .num (.t 20) (.t 22), none⟩]) ((.cond (.t 23) (.skip) (.exit 0))))) ((.seq ((.block 1 [0, 3] ((.seq (.ops [⟨some 26, .mov (.t 0), none⟩,
 ⟨some 27, .mov (.t 3), none⟩,
 ⟨some 28, .index (.t 26) (.t 27), none⟩,
 ⟨some 4, .mov (.t 28), none⟩]) ((.seq (.ops [⟨some 29, .mov (.t 4), none⟩,
 ⟨some 30, .bin .geq .num (.t 29) (.c (.i .u8 97)), none⟩,
 ⟨some 31, .mov (.t 30), none⟩,
 ⟨some 32, .mov (.t 4), some (31, true)⟩,
 ⟨some 33, .bin .leq .num (.t 32) (.c (.i .u8 122)), some (31, true)⟩,
 ⟨some 34, .pick (.t 31) (.t 33) (.c (.b false)), none⟩,
 ⟨some 35, .mov (.t 34), none⟩,
 ⟨some 36, .mov (.t 4), some (35, false)⟩,
 ⟨some 37, .bin .geq .num (.t 36) (.c (.i .u8 65)), some (35, false)⟩,
 ⟨some 38, .mov (.t 37), some (35, false)⟩,
 ⟨some 39, .mov (.t 4), some (38, true)⟩,
 ⟨some 40, .bin .leq .num (.t 39) (.c (.i .u8 90)), some (38, true)⟩,
 ⟨some 41, .pick (.t 38) (.t 40) (.c (.b false)), some (35, false)⟩,
 ⟨some 42, .pick (.t 35) (.c (.b true)) (.t 41), none⟩,
 ⟨some 43, .mov (.t 42), none⟩,
 ⟨some 44, .mov (.t 3), some (43, false)⟩,
 ⟨some 45, .bin .gtr .num (.t 44) (.c (.i .i64 0)), some (43, false)⟩,
 ⟨some 46, .mov (.t 45), some (43, false)⟩,
 ⟨some 47, .mov (.t 4), some (46, true)⟩,
 ⟨some 48, .bin .geq .num (.t 47) (.c (.i .u8 48)), some (46, true)⟩,
 ⟨some 49, .pick (.t 46) (.t 48) (.c (.b false)), some (43, false)⟩,
 ⟨some 50, .mov (.t 49), some (43, false)⟩,
 ⟨some 51, .mov (.t 4), some (50, true)⟩,
 ⟨some 52, .bin .leq .num (.t 51) (.c (.i .u8 57)), some (50, true)⟩,
 ⟨some 53, .pick (.t 50) (.t 52) (.c (.b false)), some (43, false)⟩,
 ⟨some 54, .pick (.t 43) (.c (.b true)) (.t 53), none⟩,
 ⟨some 55, .un .not (.t 54), none⟩]) ((.cond (.t 55) ((.seq (.ops [⟨some 2, .mov (.c (.b false)), none⟩]) (.ret))) (.skip))))))))) (.ops [⟨some 24, .mov (.t 3), none⟩,
 ⟨some 25, .bin .add .num (.t 24) (.c (.i .i64 1)), none⟩,
 ⟨some 3, .mov (.t 25), none⟩]))))
def yl : C := .loop [0, 3] kj
noncomputable def qaH (pg : Pg) (v0 v3 : V) (H : List Obj) (lo : Nat) : Option (Ex × St) := exL pg yl ⟨[(0, v0), (3, v3)], H, lo⟩
theorem yK {pg : Pg} {e : Env} {H : List Obj} {lo : Nat} : exL pg yl ⟨e, H, lo⟩ = qaH pg (qM (get 0 e)) (qM (get 3 e)) H lo := qcn
theorem qcE {pg : Pg} {v0 v3 : V} {H : List Obj} {lo : Nat} : qaH pg v0 v3 H lo = y6 pg (exL pg kj ⟨[(0, qM v0), (3, qM v3)], H, lo⟩) yl := by
  unfold qaH yl; rw [qaA]; simp only [qg, qm, qz, qC, Nat.reduceEqDiff]
def qbV : C := (.seq (.ops [⟨some 2, .mov (.c (.b true)), none⟩]) (.ret))
def jz : Fn := ⟨1, [.t 2], true, (.seq (.ops [⟨some 2, .mov (.c (.b false)), none⟩]) ((.seq ((.seq (.ops [⟨some 5, .mov (.t 0), none⟩, ⟨some 6, .bin .eql .num (.t 5) (.c (.s [])), none⟩, ⟨some 7, .mov (.t 6), none⟩, ⟨some 8, .mov (.t 0), some (7, false)⟩, ⟨some 9, .bi .lenS [.t 8], some (7, false)⟩, ⟨some 10, .bin .gtr .num (.t 9) (.c (.i .i64 32)), some (7, false)⟩, ⟨some 11, .pick (.t 7) (.c (.b true)) (.t 10), none⟩, ⟨some 12, .mov (.t 11), none⟩, ⟨some 13, .mov (.t 0), some (12, false)⟩, ⟨some 14, .call (.f 35) [.t 13], some (12, false)⟩, ⟨some 15, .pick (.t 12) (.c (.b true)) (.t 14), none⟩, ⟨some 16, .mov (.t 15), none⟩, ⟨some 17, .mov (.t 0), some (16, false)⟩, ⟨some 18, .call (.f 36) [.t 17], some (16, false)⟩, ⟨some 19, .pick (.t 16) (.c (.b true)) (.t 18), none⟩]) ((.cond (.t 19) ((.seq (.ops [⟨some 2, .mov (.c (.b false)), none⟩]) (.ret))) (.skip))))) ((.seq ((.seq (.ops [⟨some 3, .mov (.c (.i .i64 0)), none⟩]) ((.block 0 [] (yl))))) (qbV)))))), none, none⟩
def qf7 : Fn := ⟨1, [], false, (.seq (.ops [⟨some 1, .mov (.t 4), none⟩]) ((.seq (.ops [⟨some 5, .mov (.t 1), none⟩, ⟨some 6, .bin .neq .iface (.t 5) (.c .ni), none⟩]) ((.cond (.t 6) ((.seq (.ops [⟨some 8, .mov (.t 1), none⟩, ⟨some 9, .assertOk 75 (.agg [(.i .i64 0)]) (.t 8), none⟩, ⟨some 7, .mov (.t 9), none⟩, ⟨some 10, .extract (.t 7) 0, none⟩, ⟨some 11, .extract (.t 7) 1, none⟩, ⟨some 2, .alloc true [(.i .i64 0)], none⟩, ⟨none, .store (some 2) ⟨1, true⟩ (.t 2) (.t 10), none⟩, ⟨some 3, .mov (.t 11), none⟩]) ((.seq ((.seq (.ops [⟨some 12, .mov (.t 3), none⟩, ⟨some 13, .un .not (.t 12), none⟩]) ((.cond (.t 13) (.ops [⟨some 14, .mov (.t 1), none⟩, ⟨none, .panic (.t 14), none⟩]) (.skip))))) (.ops [⟨some 15, .fieldAddr (.t 2) 0 ⟨1, false⟩, none⟩, ⟨some 16, .load false (some 2) ⟨1, false⟩ (.t 15), none⟩, ⟨none, .store none ⟨1, false⟩ (.t 0) (.t 16), none⟩]))))) (.skip)))))), none, (some 4)⟩
def qh3 : Fn := ⟨2, [], false, (.seq (.ops [⟨some 4, .mov (.t 0), none⟩, ⟨some 5, .un .not (.t 4), none⟩]) ((.cond (.t 5) (.ops [⟨some 6, .mov (.t 1), none⟩, ⟨some 7, .build [(.i .i64 0)] [(0, 1, (.t 6))], none⟩, ⟨some 8, .mkIfc 75 (.t 7), none⟩, ⟨none, .panic (.t 8), none⟩]) (.skip)))), none, none⟩
def qjs : Fn := ⟨1, [.t 2], true, (.seq (.ops [⟨some 1, .box true (.t 0), none⟩,
 ⟨some 2, .mov (.c (.b false)), none⟩]) ((.seq (.ops [⟨some 7, .fieldAddr (.t 1) 1 ⟨1, false⟩, none⟩,
 ⟨some 8, .load false (some 1) ⟨1, false⟩ (.t 7), none⟩,
 ⟨some 9, .bi .lenL [.t 8], none⟩,
 ⟨some 10, .call (.f 49) [.t 9], none⟩,
 ⟨some 11, .mov (.mv 10), none⟩,
 ⟨some 12, .fieldAddr (.t 1) 2 ⟨1, false⟩, some (11, true)⟩,
 ⟨some 13, .load false (some 1) ⟨1, false⟩ (.t 12), some (11, true)⟩,
 ⟨some 14, .bi .lenL [.t 13], some (11, true)⟩,
 ⟨some 15, .call (.f 49) [.t 14], some (11, true)⟩,
 ⟨some 16, .pick (.t 11) (.t 15) (.c (.b false)), none⟩,
 ⟨some 17, .mov (.t 16), none⟩,
 ⟨some 18, .fieldAddr (.t 1) 4 ⟨1, false⟩, some (17, true)⟩,
 ⟨some 19, .load false (some 1) ⟨1, false⟩ (.t 18), some (17, true)⟩,
 ⟨some 20, .bi .lenL [.t 19], some (17, true)⟩,
 ⟨some 21, .call (.f 49) [.t 20], some (17, true)⟩,
 ⟨some 22, .pick (.t 17) (.t 21) (.c (.b false)), none⟩,
 ⟨some 23, .mov (.t 22), none⟩,
 ⟨some 24, .fieldAddr (.t 1) 6 ⟨1, false⟩, some (23, true)⟩,
 ⟨some 25, .load false (some 1) ⟨1, false⟩ (.t 24), some (23, true)⟩,
 ⟨some 26, .bi .lenL [.t 25], some (23, true)⟩,
 ⟨some 27, .call (.f 49) [.t 26], some (23, true)⟩,
 ⟨some 28, .pick (.t 23) (.t 27) (.c (.b false)), none⟩,
 ⟨some 3, .mov (.t 28), none⟩]) ((.seq ((.seq (.ops [⟨some 29, .mov (.t 3), none⟩,
 ⟨some 30, .un .not (.t 29), none⟩,
 ⟨some 31, .mov (.t 30), none⟩,
 ⟨some 32, .fieldAddr (.t 1) 0 ⟨1, false⟩, some (31, false)⟩,
 ⟨some 33, .load false (some 1) ⟨1, false⟩ (.t 32), some (31, false)⟩,
 ⟨some 34, .call (.f 50) [.t 33], some (31, false)⟩,
 ⟨some 35, .un .not (.t 34), some (31, false)⟩,
 ⟨some 36, .pick (.t 31) (.c (.b true)) (.t 35), none⟩,
 ⟨some 37, .mov (.t 36), none⟩,
 ⟨some 38, .fieldAddr (.t 1) 3 ⟨1, false⟩, some (37, false)⟩,
 ⟨some 39, .load false (some 1) ⟨1, false⟩ (.t 38), some (37, false)⟩,
 ⟨some 40, .call (.f 51) [.t 39], some (37, false)⟩,
 ⟨some 41, .un .not (.t 40), some (37, false)⟩,
 ⟨some 42, .pick (.t 37) (.c (.b true)) (.t 41), none⟩,
 ⟨some 43, .mov (.t 42), none⟩,
 ⟨some 44, .fieldAddr (.t 1) 5 ⟨1, false⟩, some (43, false)⟩,
 ⟨some 45, .load false (some 1) ⟨1, false⟩ (.t 44), some (43, false)⟩,
 ⟨some 46, .call (.f 51) [.t 45], some (43, false)⟩,
 ⟨some 47, .un .not (.t 46), some (43, false)⟩,
 ⟨some 48, .pick (.t 43) (.c (.b true)) (.t 47), none⟩,
 ⟨some 49, .mov (.t 48), none⟩,
 ⟨some 50, .fieldAddr (.t 1) 7 ⟨1, false⟩, some (49, false)⟩,
 ⟨some 51, .load false (some 1) ⟨1, false⟩ (.t 50), some (49, false)⟩,
 ⟨some 52, .call (.f 52) [.t 51], some (49, false)⟩,
 ⟨some 53, .bin .gtr .num (.t 52) (.c (.i .i64 64)), some (49, false)⟩,
 ⟨some 54, .pick (.t 49) (.c (.b true)) (.t 53), none⟩,
 ⟨some 55, .mov (.t 54), none⟩,
 ⟨some 56, .fieldAddr (.t 1) 7 ⟨1, false⟩, some (55, false)⟩,
 ⟨some 57, .load false (some 1) ⟨1, false⟩ (.t 56), some (55, false)⟩,
 ⟨some 58, .call (.f 53) [.t 57], some (55, false)⟩,
 ⟨some 59, .un .not (.t 58), some (55, false)⟩,
 ⟨some 60, .pick (.t 55) (.c (.b true)) (.t 59), none⟩]) ((.cond (.t 60) ((.seq (.ops [⟨some 2, .mov (.c (.b false)), none⟩]) (.ret))) (.skip))))) ((.seq (.ops [⟨some 61, .fieldAddr (.t 1) 1 ⟨1, false⟩, none⟩,
 ⟨some 62, .load false (some 1) ⟨1, false⟩ (.t 61), none⟩,
 ⟨some 63, .call (.f 54) [.t 62, (.f 55)], none⟩,
 ⟨some 4, .mov (.mv 63), none⟩]) ((.seq (.ops [⟨some 64, .fieldAddr (.t 1) 2 ⟨1, false⟩, none⟩,
 ⟨some 65, .load false (some 1) ⟨1, false⟩ (.t 64), none⟩,
 ⟨some 66, .call (.f 56) [.t 65, (.f 57)], none⟩,
 ⟨some 5, .mov (.mv 66), none⟩]) ((.seq (.ops [⟨some 67, .fieldAddr (.t 1) 4 ⟨1, false⟩, none⟩,
 ⟨some 68, .load false (some 1) ⟨1, false⟩ (.t 67), none⟩,
 ⟨some 69, .call (.f 59) [.t 68, (.f 60)], none⟩,
 ⟨some 6, .mov (.mv 69), none⟩]) ((.seq (.ops [⟨some 70, .mov (.t 4), none⟩,
 ⟨some 71, .un .not (.t 70), none⟩,
 ⟨some 72, .mov (.t 71), none⟩,
 ⟨some 73, .mov (.t 5), some (72, true)⟩,
 ⟨some 74, .un .not (.t 73), some (72, true)⟩,
 ⟨some 75, .pick (.t 72) (.t 74) (.c (.b false)), none⟩,
 ⟨some 76, .mov (.t 75), none⟩,
 ⟨some 77, .mov (.t 6), some (76, true)⟩,
 ⟨some 78, .un .not (.t 77), some (76, true)⟩,
 ⟨some 79, .pick (.t 76) (.t 78) (.c (.b false)), none⟩,
 ⟨some 80, .mov (.t 79), none⟩,
 ⟨some 81, .fieldAddr (.t 1) 6 ⟨1, false⟩, some (80, true)⟩,
 ⟨some 82, .load false (some 1) ⟨1, false⟩ (.t 81), some (80, true)⟩,
 ⟨some 83, .call (.f 61) [.t 82, (.f 62)], some (80, true)⟩,
 ⟨some 84, .un .not (.t 83), some (80, true)⟩,
 ⟨some 85, .pick (.t 80) (.t 84) (.c (.b false)), none⟩,
 ⟨some 2, .mov (.t 85), none⟩]) (.ret)))))))))))))), none, none⟩
def qjC : C := .ops [⟨some 10, .alloc true [(.s []), (.b false), (.s []), .nil], none⟩, ⟨none, .store (some 10) ⟨4, true⟩ (.t 10) (.t 39), none⟩]
def qjD : C := (.block 3 [4, 5, 6, 22, 23, 24] (.opsD [(⟨some 40, .load false none ⟨1, false⟩ (.t 5), none⟩, false, []), (⟨some 41, .nilCheck (.t 40), none⟩, false, []), (⟨some 42, .fieldAddr (.t 41) 1 ⟨1, false⟩, none⟩, false, []), (⟨some 43, .load false none ⟨1, false⟩ (.t 42), none⟩, false, []), (⟨some 44, .fieldAddr (.t 8) 0 ⟨1, false⟩, none⟩, false, []), (⟨some 45, .load false none ⟨1, false⟩ (.t 44), none⟩, false, []), (⟨some 46, .bin .add .num (.t 45) (.c (.s [46])), none⟩, false, []), (⟨some 47, .fieldAddr (.t 10) 0 ⟨1, false⟩, none⟩, false, []), (⟨some 48, .load false (some 10) ⟨1, false⟩ (.t 47), none⟩, false, []), (⟨some 49, .bin .add .num (.t 46) (.t 48), none⟩, false, []), (⟨some 50, .load false (some 10) ⟨4, true⟩ (.t 10), none⟩, false, []), (⟨none, .mapUpdate 2 (.t 43) (.t 49) (.t 50), none⟩, true, [])]))
def qjI : C := .ops [⟨some 51, .bin .add .num (.t 24) (.c (.i .i64 1)), none⟩, ⟨some 24, .mov (.t 51), none⟩]
def qj8 : C := (.seq (.ops [⟨some 25, .bin .lss .num (.t 24) (.t 23), none⟩]) ((.seq ((.cond (.t 25) (.skip) (.exit 0))) ((.seq ((.block 1 [4, 5, 6, 22, 23, 24] ((.seq (.ops [⟨some 26, .indexAddr (.t 22) (.t 24) 8 none, none⟩, ⟨some 27, .load false none ⟨8, true⟩ (.t 26), none⟩, ⟨some 8, .alloc false [(.s []), .nil, .nil, .nil, .nil, .nil, .nil, .nil], none⟩, ⟨none, .store none ⟨8, true⟩ (.t 8) (.t 27), none⟩]) ((.seq ((.seq (.ops [⟨some 28, .mov (.t 6), none⟩, ⟨some 29, .fieldAddr (.t 8) 0 ⟨1, false⟩, none⟩, ⟨some 30, .load false none ⟨1, false⟩ (.t 29), none⟩, ⟨some 31, .lookup 2 (.b false) (.t 28) (.t 30) false, none⟩]) ((.cond (.t 31) (.exit 1) (.skip))))) ((.seq (.ops [⟨some 32, .mov (.t 6), none⟩, ⟨some 33, .fieldAddr (.t 8) 0 ⟨1, false⟩, none⟩, ⟨some 34, .load false none ⟨1, false⟩ (.t 33), none⟩, ⟨none, .mapUpdate 2 (.t 32) (.t 34) (.c (.b true)), none⟩]) ((.seq (.ops [⟨some 35, .fieldAddr (.t 8) 4 ⟨1, false⟩, none⟩, ⟨some 36, .load false none ⟨1, false⟩ (.t 35), none⟩, ⟨some 37, .call (.f 64) [.t 36], none⟩]) ((.block 2 [4, 5, 6, 22, 23, 24] ((.rangeB 141 ⟨4, true⟩ (.t 37) 38 39 [4, 5, 6, 8, 22, 23, 24] qjC qjD)))))))))))))) (qjI))))))
def qjB : C := .loop [4, 5, 6, 22, 23, 24] qj8
def qjQ : C := (.seq (.ops [⟨some 52, .load false none ⟨1, false⟩ (.t 5), none⟩, ⟨some 4, .mov (.t 52), none⟩]) (.ret))
def qhP : Fn := ⟨2, [.t 4], true, (.seq (.ops [⟨some 4, .mov (.c .np), none⟩]) ((.seq (.ops [⟨some 11, .mov (.t 0), none⟩, ⟨some 12, .mkMap, none⟩, ⟨some 13, .mkMap, none⟩, ⟨some 14, .mkMap, none⟩, ⟨some 15, .mkMap, none⟩, ⟨some 16, .mov (.t 1), none⟩, ⟨some 17, .build [(.s []), .nm, .nm, .nm, .nm, .nil] [(0, 1, (.t 11)), (1, 1, (.t 12)), (2, 1, (.t 13)), (3, 1, (.t 14)), (4, 1, (.t 15)), (5, 1, (.t 16))], none⟩, ⟨some 18, .box false (.t 17), none⟩, ⟨some 5, .alloc false [.np], none⟩, ⟨none, .store none ⟨1, false⟩ (.t 5) (.t 18), none⟩]) ((.seq (.ops [⟨some 19, .mkMap, none⟩, ⟨some 20, .mov (.t 0), none⟩, ⟨none, .mapUpdate 2 (.t 19) (.t 20) (.c (.b true)), none⟩, ⟨some 21, .mov (.t 19), none⟩, ⟨some 6, .mov (.t 21), none⟩]) ((.seq ((.seq (.ops [⟨some 22, .mov (.t 1), none⟩, ⟨some 23, .bi .lenL [.t 22], none⟩, ⟨some 24, .mov (.c (.i .i64 0)), none⟩]) ((.block 0 [5] (qjB))))) (qjQ)))))))), none, none⟩
def qfn : C := (.seq (.ops [⟨some 41, .bin .lss .num (.t 40) (.t 39), none⟩]) ((.seq ((.cond (.t 41) (.skip) (.exit 0))) ((.seq ((.block 1 [0, 2, 4, 38, 39, 40] ((.seq (.ops [⟨some 42, .indexAddr (.t 38) (.t 40) 1 none, none⟩, ⟨some 43, .load false none ⟨1, false⟩ (.t 42), none⟩, ⟨some 6, .mov (.t 43), none⟩]) ((.seq (.ops [⟨some 44, .mov (.t 4), none⟩, ⟨some 45, .mov (.t 6), none⟩, ⟨some 46, .call (.t 44) [.t 45], none⟩]) ((.seq (.ops [⟨some 47, .mov (.t 6), none⟩, ⟨some 48, .fieldAddr (.t 2) 0 ⟨1, false⟩, none⟩, ⟨some 49, .load false (some 2) ⟨1, false⟩ (.t 48), none⟩, ⟨some 50, .bin .neq .num (.t 47) (.t 49), none⟩, ⟨some 51, .call (.f 65) [.t 50], none⟩]) (.ops [⟨some 52, .mov (.t 0), none⟩, ⟨some 53, .nilCheck (.t 52), none⟩, ⟨some 54, .fieldAddr (.t 53) 8 ⟨1, false⟩, none⟩, ⟨some 55, .load false none ⟨1, false⟩ (.t 54), none⟩, ⟨some 56, .mov (.mv 6), none⟩, ⟨some 57, .call (.f 67) [.t 55, (.mv 56)], none⟩, ⟨some 58, .call (.f 21) [.t 57, (.c (.i .i64 40))], none⟩]))))))))) (.ops [⟨some 59, .bin .add .num (.t 40) (.c (.i .i64 1)), none⟩, ⟨some 40, .mov (.t 59), none⟩]))))))
def qfq : C := .loop [0, 2, 4, 38, 39, 40] qfn
def qe7 : C := (.seq (.ops [⟨some 64, .bin .lss .num (.t 63) (.t 62), none⟩]) ((.seq ((.cond (.t 64) (.skip) (.exit 2))) ((.seq ((.block 3 [2, 4, 61, 62, 63] ((.seq (.ops [⟨some 65, .indexAddr (.t 61) (.t 63) 10 none, none⟩, ⟨some 66, .load false none ⟨10, true⟩ (.t 65), none⟩, ⟨some 8, .alloc true [(.s []), (.b false), (.i .i64 0), (.i .i64 0), (.i .i64 0), (.s []), .nil, (.i .i32 0), (.s []), .nil], none⟩, ⟨none, .store (some 8) ⟨10, true⟩ (.t 8) (.t 66), none⟩]) (.ops [⟨some 67, .mov (.t 4), none⟩, ⟨some 68, .fieldAddr (.t 8) 0 ⟨1, false⟩, none⟩, ⟨some 69, .load false (some 8) ⟨1, false⟩ (.t 68), none⟩, ⟨some 70, .call (.t 67) [.t 69], none⟩]))))) (.ops [⟨some 71, .bin .add .num (.t 63) (.c (.i .i64 1)), none⟩, ⟨some 63, .mov (.t 71), none⟩]))))))
def qft : C := .loop [2, 4, 61, 62, 63] qe7
def qfB : C := (.seq (.ops [⟨some 76, .bin .lss .num (.t 75) (.t 74), none⟩]) ((.seq ((.cond (.t 76) (.skip) (.exit 4))) ((.seq ((.block 5 [2, 4, 73, 74, 75] ((.seq (.ops [⟨some 77, .indexAddr (.t 73) (.t 75) 6 none, none⟩, ⟨some 78, .load false none ⟨6, true⟩ (.t 77), none⟩, ⟨some 10, .alloc true [(.s []), (.b false), (.i .i64 0), (.i .i64 0), (.s []), .nil], none⟩, ⟨none, .store (some 10) ⟨6, true⟩ (.t 10) (.t 78), none⟩]) (.ops [⟨some 79, .mov (.t 4), none⟩, ⟨some 80, .fieldAddr (.t 10) 0 ⟨1, false⟩, none⟩, ⟨some 81, .load false (some 10) ⟨1, false⟩ (.t 80), none⟩, ⟨some 82, .call (.t 79) [.t 81], none⟩]))))) (.ops [⟨some 83, .bin .add .num (.t 75) (.c (.i .i64 1)), none⟩, ⟨some 75, .mov (.t 83), none⟩]))))))
def qfu : C := .loop [2, 4, 73, 74, 75] qfB
def qfh : C := (.seq (.ops [⟨some 88, .bin .lss .num (.t 87) (.t 86), none⟩]) ((.seq ((.cond (.t 88) (.skip) (.exit 6))) ((.seq ((.block 7 [2, 4, 85, 86, 87] ((.seq (.ops [⟨some 89, .indexAddr (.t 85) (.t 87) 4 none, none⟩, ⟨some 90, .load false none ⟨4, true⟩ (.t 89), none⟩, ⟨some 12, .alloc true [(.s []), (.b false), (.s []), .nil], none⟩, ⟨none, .store (some 12) ⟨4, true⟩ (.t 12) (.t 90), none⟩]) (.ops [⟨some 91, .mov (.t 4), none⟩, ⟨some 92, .fieldAddr (.t 12) 0 ⟨1, false⟩, none⟩, ⟨some 93, .load false (some 12) ⟨1, false⟩ (.t 92), none⟩, ⟨some 94, .call (.t 91) [.t 93], none⟩]))))) (.ops [⟨some 95, .bin .add .num (.t 87) (.c (.i .i64 1)), none⟩, ⟨some 87, .mov (.t 95), none⟩]))))))
def qfi : C := .loop [2, 4, 85, 86, 87] qfh
def qfm : C := (.seq (.ops [⟨some 100, .bin .lss .num (.t 99) (.t 98), none⟩]) ((.seq ((.cond (.t 100) (.skip) (.exit 8))) ((.seq ((.block 9 [2, 4, 97, 98, 99] ((.seq (.ops [⟨some 101, .indexAddr (.t 97) (.t 99) 6 none, none⟩, ⟨some 102, .load false none ⟨6, true⟩ (.t 101), none⟩, ⟨some 14, .alloc true [(.s []), (.b false), (.i .i64 0), (.i .i64 0), (.s []), .nil], none⟩, ⟨none, .store (some 14) ⟨6, true⟩ (.t 14) (.t 102), none⟩]) (.ops [⟨some 103, .mov (.t 4), none⟩, ⟨some 104, .fieldAddr (.t 14) 0 ⟨1, false⟩, none⟩, ⟨some 105, .load false (some 14) ⟨1, false⟩ (.t 104), none⟩, ⟨some 106, .call (.t 103) [.t 105], none⟩]))))) (.ops [⟨some 107, .bin .add .num (.t 99) (.c (.i .i64 1)), none⟩, ⟨some 99, .mov (.t 107), none⟩]))))))
def qfI : C := .loop [2, 4, 97, 98, 99] qfm
def qe8 : C := (.seq (.ops [⟨some 112, .bin .lss .num (.t 111) (.t 110), none⟩]) ((.seq ((.cond (.t 112) (.skip) (.exit 10))) ((.seq ((.block 11 [4, 109, 110, 111] ((.seq (.ops [⟨some 113, .indexAddr (.t 109) (.t 111) 10 none, none⟩, ⟨some 114, .load false none ⟨10, true⟩ (.t 113), none⟩, ⟨some 16, .alloc true [(.s []), (.b false), .nil, (.i .i64 0), (.i .i64 0), (.s []), .nil, .nil, .nil, .nil], none⟩, ⟨none, .store (some 16) ⟨10, true⟩ (.t 16) (.t 114), none⟩]) (.ops [⟨some 115, .mov (.t 4), none⟩, ⟨some 116, .fieldAddr (.t 16) 0 ⟨1, false⟩, none⟩, ⟨some 117, .load false (some 16) ⟨1, false⟩ (.t 116), none⟩, ⟨some 118, .call (.t 115) [.t 117], none⟩]))))) (.ops [⟨some 119, .bin .add .num (.t 111) (.c (.i .i64 1)), none⟩, ⟨some 111, .mov (.t 119), none⟩]))))))
def qfz : C := .loop [4, 109, 110, 111] qe8
def qfd : C := (.seq (.ops [⟨some 108, .fieldAddr (.t 2) 6 ⟨1, false⟩, none⟩, ⟨some 109, .load false (some 2) ⟨1, false⟩ (.t 108), none⟩, ⟨some 110, .bi .lenL [.t 109], none⟩, ⟨some 111, .mov (.c (.i .i64 0)), none⟩]) ((.block 10 [] (qfz))))
def qfg : C := (.seq ((.seq (.ops [⟨some 96, .fieldAddr (.t 2) 5 ⟨1, false⟩, none⟩, ⟨some 97, .load false (some 2) ⟨1, false⟩ (.t 96), none⟩, ⟨some 98, .bi .lenL [.t 97], none⟩, ⟨some 99, .mov (.c (.i .i64 0)), none⟩]) ((.block 8 [2, 4] (qfI))))) (qfd))
def qfv : C := (.seq ((.seq (.ops [⟨some 84, .fieldAddr (.t 2) 4 ⟨1, false⟩, none⟩, ⟨some 85, .load false (some 2) ⟨1, false⟩ (.t 84), none⟩, ⟨some 86, .bi .lenL [.t 85], none⟩, ⟨some 87, .mov (.c (.i .i64 0)), none⟩]) ((.block 6 [2, 4] (qfi))))) (qfg))
def qfp : C := (.seq ((.seq (.ops [⟨some 72, .fieldAddr (.t 2) 3 ⟨1, false⟩, none⟩, ⟨some 73, .load false (some 2) ⟨1, false⟩ (.t 72), none⟩, ⟨some 74, .bi .lenL [.t 73], none⟩, ⟨some 75, .mov (.c (.i .i64 0)), none⟩]) ((.block 4 [2, 4] (qfu))))) (qfv))
def qeJ : C := (.seq ((.seq (.ops [⟨some 60, .fieldAddr (.t 2) 2 ⟨1, false⟩, none⟩, ⟨some 61, .load false (some 2) ⟨1, false⟩ (.t 60), none⟩, ⟨some 62, .bi .lenL [.t 61], none⟩, ⟨some 63, .mov (.c (.i .i64 0)), none⟩]) ((.block 2 [2, 4] (qft))))) (qfp))
def qc4 : Fn := ⟨1, [], false, (.seq (.ops [⟨some 17, .mov (.t 0), none⟩, ⟨some 18, .nilCheck (.t 17), none⟩, ⟨some 19, .fieldAddr (.t 18) 0 ⟨8, true⟩, none⟩, ⟨some 20, .load false none ⟨8, true⟩ (.t 19), none⟩, ⟨some 2, .alloc true [(.s []), .nil, .nil, .nil, .nil, .nil, .nil, .nil], none⟩, ⟨none, .store (some 2) ⟨8, true⟩ (.t 2) (.t 20), none⟩]) ((.seq (.ops [⟨some 21, .fieldAddr (.t 2) 0 ⟨1, false⟩, none⟩, ⟨some 22, .load false (some 2) ⟨1, false⟩ (.t 21), none⟩, ⟨some 23, .call (.f 14) [.t 22], none⟩, ⟨some 24, .mov (.mv 23), none⟩, ⟨some 25, .fieldAddr (.t 2) 0 ⟨1, false⟩, some (24, true)⟩, ⟨some 26, .load false (some 2) ⟨1, false⟩ (.t 25), some (24, true)⟩, ⟨some 27, .bin .neq .num (.t 26) (.c (.s [73, 110])), some (24, true)⟩, ⟨some 28, .pick (.t 24) (.t 27) (.c (.b false)), none⟩, ⟨some 29, .mov (.t 28), none⟩, ⟨some 30, .fieldAddr (.t 2) 0 ⟨1, false⟩, some (29, true)⟩, ⟨some 31, .load false (some 2) ⟨1, false⟩ (.t 30), some (29, true)⟩, ⟨some 32, .bin .neq .num (.t 31) (.c (.s [79, 117, 116])), some (29, true)⟩, ⟨some 33, .pick (.t 29) (.t 32) (.c (.b false)), none⟩, ⟨some 34, .call (.f 65) [.t 33], none⟩]) ((.seq (.ops [⟨some 35, .mkMap, none⟩, ⟨some 3, .alloc false [.nm], none⟩, ⟨none, .store none ⟨1, false⟩ (.t 3) (.t 35), none⟩]) ((.seq (.ops [⟨some 36, .mkFn 66 [] [.t 3], none⟩, ⟨some 4, .mov (.t 36), none⟩]) ((.seq ((.seq (.ops [⟨some 37, .fieldAddr (.t 2) 1 ⟨1, false⟩, none⟩, ⟨some 38, .load false (some 2) ⟨1, false⟩ (.t 37), none⟩, ⟨some 39, .bi .lenL [.t 38], none⟩, ⟨some 40, .mov (.c (.i .i64 0)), none⟩]) ((.block 0 [2, 4] (qfq))))) (qeJ)))))))))), none, none⟩
def qen : C := (.seq (.ops [⟨some 20, .bin .lss .num (.t 19) (.t 18), none⟩]) ((.seq ((.cond (.t 20) (.skip) (.exit 0))) ((.seq ((.block 1 [0, 17, 18, 19] ((.seq (.ops [⟨some 21, .indexAddr (.t 17) (.t 19) 4 none, none⟩,
 ⟨some 22, .load false none ⟨4, true⟩ (.t 21), none⟩,
 ⟨some 3, .alloc true [(.s []), (.b false), (.s []), .nil], none⟩,
 ⟨none, .store (some 3) ⟨4, true⟩ (.t 3) (.t 22), none⟩]) ((.seq (.opsD [(⟨some 23, .mov (.t 0), none⟩, false, []), (⟨some 24, .nilCheck (.t 23), none⟩, false, []), (⟨some 25, .fieldAddr (.t 24) 8 ⟨1, false⟩, none⟩, false, []), (⟨some 26, .load false none ⟨1, false⟩ (.t 25), none⟩, false, []), (⟨some 27, .nilCheck (.t 26), none⟩, false, []), (⟨some 28, .fieldAddr (.t 27) 1 ⟨1, false⟩, none⟩, false, []), (⟨some 29, .load false none ⟨1, false⟩ (.t 28), none⟩, false, []), (⟨some 30, .mov (.t 0), none⟩, false, []), (⟨some 31, .fieldAddr (.t 3) 0 ⟨1, false⟩, none⟩, false, []), (⟨some 32, .load false (some 3) ⟨1, false⟩ (.t 31), none⟩, false, []), (⟨some 33, .call (.f 68) [.t 30, (.t 32)], none⟩, false, []), (⟨some 34, .load false (some 3) ⟨4, true⟩ (.t 3), none⟩, false, []), (⟨none, .mapUpdate 2 (.t 29) (.t 33) (.t 34), none⟩, true, [])]) (.opsD [(⟨some 35, .mov (.t 0), none⟩, false, []), (⟨some 36, .nilCheck (.t 35), none⟩, false, []), (⟨some 37, .fieldAddr (.t 36) 8 ⟨1, false⟩, none⟩, false, []), (⟨some 38, .load false none ⟨1, false⟩ (.t 37), none⟩, false, []), (⟨some 39, .nilCheck (.t 38), none⟩, false, []), (⟨some 40, .fieldAddr (.t 39) 2 ⟨1, false⟩, none⟩, false, []), (⟨some 41, .load false none ⟨1, false⟩ (.t 40), none⟩, false, []), (⟨some 42, .mov (.t 0), none⟩, false, []), (⟨some 43, .fieldAddr (.t 3) 0 ⟨1, false⟩, none⟩, false, []), (⟨some 44, .load false (some 3) ⟨1, false⟩ (.t 43), none⟩, false, []), (⟨some 45, .call (.f 68) [.t 42, (.t 44)], none⟩, false, []), (⟨none, .mapUpdate 2 (.t 41) (.t 45) (.c (.b true)), none⟩, true, [])]))))))) (.ops [⟨some 46, .bin .add .num (.t 19) (.c (.i .i64 1)), none⟩,
 ⟨some 19, .mov (.t 46), none⟩]))))))
def qeq : C := .loop [0, 17, 18, 19] qen
def qev : C := (.seq (.ops [⟨some 94, .bin .lss .num (.t 93) (.t 92), none⟩]) ((.seq ((.cond (.t 94) (.skip) (.exit 4))) ((.seq ((.block 5 [0, 5, 8, 51, 52, 53, 91, 92, 93] ((.seq (.ops [⟨some 95, .indexAddr (.t 91) (.t 93) 6 none, none⟩, ⟨some 96, .load false none ⟨6, true⟩ (.t 95), none⟩, ⟨some 10, .alloc true [(.s []), (.b false), (.i .i64 0), (.i .i64 0), (.s []), .nil], none⟩, ⟨none, .store (some 10) ⟨6, true⟩ (.t 10) (.t 96), none⟩]) ((.seq (.ops [⟨some 97, .mov (.t 8), none⟩, ⟨some 98, .fieldAddr (.t 10) 0 ⟨1, false⟩, none⟩, ⟨some 99, .load false (some 10) ⟨1, false⟩ (.t 98), none⟩, ⟨some 100, .lookup 2 (.b false) (.t 97) (.t 99) false, none⟩, ⟨some 101, .un .not (.t 100), none⟩, ⟨some 102, .call (.f 65) [.t 101], none⟩]) (.ops [⟨some 103, .mov (.t 8), none⟩, ⟨some 104, .fieldAddr (.t 10) 0 ⟨1, false⟩, none⟩, ⟨some 105, .load false (some 10) ⟨1, false⟩ (.t 104), none⟩, ⟨none, .mapUpdate 2 (.t 103) (.t 105) (.c (.b true)), none⟩]))))))) (.ops [⟨some 106, .bin .add .num (.t 93) (.c (.i .i64 1)), none⟩, ⟨some 93, .mov (.t 106), none⟩]))))))
def qeo : C := .loop [0, 5, 8, 51, 52, 53, 91, 92, 93] qev
def qer : C := (.seq (.ops [⟨some 111, .bin .lss .num (.t 110) (.t 109), none⟩]) ((.seq ((.cond (.t 111) (.skip) (.exit 6))) ((.seq ((.block 7 [0, 5, 51, 52, 53, 108, 109, 110] ((.seq (.ops [⟨some 112, .indexAddr (.t 108) (.t 110) 6 none, none⟩, ⟨some 113, .load false none ⟨6, true⟩ (.t 112), none⟩, ⟨some 12, .alloc true [(.s []), (.b false), (.i .i64 0), (.i .i64 0), (.s []), .nil], none⟩, ⟨none, .store (some 12) ⟨6, true⟩ (.t 12) (.t 113), none⟩]) ((.seq (.ops [⟨some 114, .fieldAddr (.t 12) 0 ⟨1, false⟩, none⟩, ⟨some 115, .load false (some 12) ⟨1, false⟩ (.t 114), none⟩, ⟨some 116, .call (.f 14) [.t 115], none⟩, ⟨some 117, .call (.f 65) [.t 116], none⟩]) (.ops [⟨some 118, .mov (.t 0), none⟩, ⟨some 119, .fieldAddr (.t 12) 2 ⟨4, true⟩, none⟩, ⟨some 120, .load false (some 12) ⟨4, true⟩ (.t 119), none⟩, ⟨some 121, .call (.f 70) [.t 118, (.t 120)], none⟩]))))))) (.ops [⟨some 122, .bin .add .num (.t 110) (.c (.i .i64 1)), none⟩, ⟨some 110, .mov (.t 122), none⟩]))))))
def qel : C := .loop [0, 5, 51, 52, 53, 108, 109, 110] qer
def qem : C := .ops [⟨some 123, .mov (.t 0), none⟩, ⟨some 124, .mov (.t 0), none⟩, ⟨some 125, .fieldAddr (.t 5) 0 ⟨1, false⟩, none⟩, ⟨some 126, .load false (some 5) ⟨1, false⟩ (.t 125), none⟩, ⟨some 127, .call (.f 68) [.t 124, (.t 126)], none⟩, ⟨some 128, .build [(.i .i64 0), (.i .i64 0), (.s []), .nil] [(0, 1, (.c (.i .i64 8))), (2, 1, (.t 127))], none⟩, ⟨some 129, .call (.f 70) [.t 123, (.t 128)], none⟩]
def qeu : C := (.seq ((.seq (.ops [⟨some 107, .fieldAddr (.t 5) 3 ⟨1, false⟩, none⟩, ⟨some 108, .load false (some 5) ⟨1, false⟩ (.t 107), none⟩, ⟨some 109, .bi .lenL [.t 108], none⟩, ⟨some 110, .mov (.c (.i .i64 0)), none⟩]) ((.block 6 [0, 5, 51, 52, 53] (qel))))) (qem))
def qep : C := .ops [⟨some 130, .bin .add .num (.t 53) (.c (.i .i64 1)), none⟩, ⟨some 53, .mov (.t 130), none⟩]
def qet : C := (.seq (.ops [⟨some 54, .bin .lss .num (.t 53) (.t 52), none⟩]) ((.seq ((.cond (.t 54) (.skip) (.exit 2))) ((.seq ((.block 3 [0, 51, 52, 53] ((.seq (.ops [⟨some 55, .indexAddr (.t 51) (.t 53) 4 none, none⟩,
 ⟨some 56, .load false none ⟨4, true⟩ (.t 55), none⟩,
 ⟨some 5, .alloc true [(.s []), (.b false), (.s []), .nil], none⟩,
 ⟨none, .store (some 5) ⟨4, true⟩ (.t 5) (.t 56), none⟩]) ((.seq ((.seq (.opsD [(⟨some 57, .fieldAddr (.t 5) 2 ⟨1, false⟩, none⟩, true, []), (⟨some 58, .load false (some 5) ⟨1, false⟩ (.t 57), none⟩, true, []), (⟨some 59, .bin .eql .num (.t 58) (.c (.s [])), none⟩, true, []), (⟨some 60, .mov (.t 59), none⟩, true, []), (⟨some 61, .mov (.t 0), some (60, false)⟩, false, []), (⟨some 62, .nilCheck (.t 61), some (60, false)⟩, false, []), (⟨some 63, .fieldAddr (.t 62) 8 ⟨1, false⟩, some (60, false)⟩, false, []), (⟨some 64, .load false none ⟨1, false⟩ (.t 63), some (60, false)⟩, false, []), (⟨some 65, .nilCheck (.t 64), some (60, false)⟩, false, []), (⟨some 66, .fieldAddr (.t 65) 2 ⟨1, false⟩, some (60, false)⟩, false, []), (⟨some 67, .load false none ⟨1, false⟩ (.t 66), some (60, false)⟩, false, []), (⟨some 68, .fieldAddr (.t 5) 2 ⟨1, false⟩, some (60, false)⟩, false, []), (⟨some 69, .load false (some 5) ⟨1, false⟩ (.t 68), some (60, false)⟩, false, []), (⟨some 70, .lookup 2 (.b false) (.t 67) (.t 69) false, some (60, false)⟩, true, []), (⟨some 71, .pick (.t 60) (.c (.b true)) (.t 70), none⟩, true, [])]) (.ops [⟨some 72, .call (.f 65) [.t 71], none⟩]))) ((.seq (.opsD [(⟨some 74, .mov (.t 0), none⟩, false, []), (⟨some 75, .fieldAddr (.t 5) 0 ⟨1, false⟩, none⟩, false, []), (⟨some 76, .load false (some 5) ⟨1, false⟩ (.t 75), none⟩, false, []), (⟨some 77, .call (.f 68) [.t 74, (.t 76)], none⟩, false, []), (⟨some 78, .mov (.t 0), none⟩, false, []), (⟨some 79, .nilCheck (.t 78), none⟩, false, []), (⟨some 80, .fieldAddr (.t 79) 8 ⟨1, false⟩, none⟩, false, []), (⟨some 81, .load false none ⟨1, false⟩ (.t 80), none⟩, false, []), (⟨some 82, .nilCheck (.t 81), none⟩, false, []), (⟨some 83, .fieldAddr (.t 82) 1 ⟨1, false⟩, none⟩, false, []), (⟨some 84, .load false none ⟨1, false⟩ (.t 83), none⟩, false, []), (⟨some 85, .call (.f 69) [.t 77, (.t 84)], none⟩, true, []), (⟨some 73, .mov (.t 85), none⟩, true, []), (⟨some 86, .extract (.t 73) 0, none⟩, false, []), (⟨some 87, .extract (.t 73) 1, none⟩, false, []), (⟨some 6, .mov (.t 86), none⟩, false, []), (⟨some 7, .mov (.t 87), none⟩, true, [])]) ((.seq (.ops [⟨some 88, .mov (.mv 7), none⟩,
 ⟨some 89, .call (.f 65) [.mv 88], none⟩]) ((.seq (.ops [⟨some 90, .mkMap, none⟩,
 ⟨some 8, .mov (.t 90), none⟩]) ((.seq ((.seq (.ops [⟨some 91, .mov (.t 6), none⟩,
 ⟨some 92, .bi .lenL [.t 91], none⟩,
 ⟨some 93, .mov (.c (.i .i64 0)), none⟩]) ((.block 4 [0, 5, 51, 52, 53] (qeo))))) (qeu))))))))))))))) (qep))))))
def qew : C := .loop [0, 51, 52, 53] qet
def qex : C := (.seq (.ops [⟨some 47, .mov (.t 0), none⟩, ⟨some 48, .nilCheck (.t 47), none⟩, ⟨some 49, .fieldAddr (.t 48) 0 ⟨8, true⟩, none⟩, ⟨some 50, .fieldAddr (.t 49) 4 ⟨1, false⟩, none⟩, ⟨some 51, .load false none ⟨1, false⟩ (.t 50), none⟩, ⟨some 52, .bi .lenL [.t 51], none⟩, ⟨some 53, .mov (.c (.i .i64 0)), none⟩]) ((.block 2 [] (qew))))
def qct : Fn := ⟨1, [], false, (.seq ((.seq (.ops [⟨some 13, .mov (.t 0), none⟩, ⟨some 14, .nilCheck (.t 13), none⟩, ⟨some 15, .fieldAddr (.t 14) 0 ⟨8, true⟩, none⟩, ⟨some 16, .fieldAddr (.t 15) 4 ⟨1, false⟩, none⟩, ⟨some 17, .load false none ⟨1, false⟩ (.t 16), none⟩, ⟨some 18, .bi .lenL [.t 17], none⟩, ⟨some 19, .mov (.c (.i .i64 0)), none⟩]) ((.block 0 [0] (qeq))))) (qex)), none, none⟩
def qed : C := (.seq (.ops [⟨some 18, .bin .lss .num (.t 17) (.t 16), none⟩]) ((.seq ((.cond (.t 18) (.skip) (.exit 0))) ((.seq ((.block 1 [0, 15, 16, 17] ((.seq (.ops [⟨some 19, .indexAddr (.t 15) (.t 17) 10 none, none⟩, ⟨some 20, .load false none ⟨10, true⟩ (.t 19), none⟩, ⟨some 3, .alloc true [(.s []), (.b false), (.i .i64 0), (.i .i64 0), (.i .i64 0), (.s []), .nil, (.i .i32 0), (.s []), .nil], none⟩, ⟨none, .store (some 3) ⟨10, true⟩ (.t 3) (.t 20), none⟩]) ((.seq (.ops [⟨some 21, .mov (.t 0), none⟩, ⟨some 22, .fieldAddr (.t 3) 2 ⟨8, true⟩, none⟩, ⟨some 23, .load false (some 3) ⟨8, true⟩ (.t 22), none⟩, ⟨some 24, .call (.f 71) [.t 21, (.t 23)], none⟩]) (.ops [⟨some 25, .fieldAddr (.t 3) 2 ⟨8, true⟩, none⟩, ⟨some 26, .fieldAddr (.t 25) 0 ⟨1, false⟩, none⟩, ⟨some 27, .load false (some 3) ⟨1, false⟩ (.t 26), none⟩, ⟨some 28, .bin .eql .num (.t 27) (.c (.i .i64 0)), none⟩, ⟨some 29, .mov (.t 28), none⟩, ⟨some 30, .fieldAddr (.t 3) 2 ⟨8, true⟩, some (29, true)⟩, ⟨some 31, .fieldAddr (.t 30) 1 ⟨4, true⟩, some (29, true)⟩, ⟨some 32, .fieldAddr (.t 31) 0 ⟨1, false⟩, some (29, true)⟩, ⟨some 33, .load false (some 3) ⟨1, false⟩ (.t 32), some (29, true)⟩, ⟨some 34, .bin .neq .num (.t 33) (.c (.i .i64 5)), some (29, true)⟩, ⟨some 35, .pick (.t 29) (.t 34) (.c (.b false)), none⟩, ⟨some 36, .call (.f 72) [.t 35], none⟩]))))))) (.ops [⟨some 37, .bin .add .num (.t 17) (.c (.i .i64 1)), none⟩, ⟨some 17, .mov (.t 37), none⟩]))))))
def qd0 : C := .loop [0, 15, 16, 17] qed
def qd9 : C := (.seq (.ops [⟨some 45, .bin .lss .num (.t 44) (.t 43), none⟩]) ((.seq ((.cond (.t 45) (.skip) (.exit 2))) ((.seq ((.block 3 [0, 42, 43, 44] ((.seq (.ops [⟨some 46, .indexAddr (.t 42) (.t 44) 6 none, none⟩, ⟨some 47, .load false none ⟨6, true⟩ (.t 46), none⟩, ⟨some 5, .alloc true [(.s []), (.b false), (.i .i64 0), (.i .i64 0), (.s []), .nil], none⟩, ⟨none, .store (some 5) ⟨6, true⟩ (.t 5) (.t 47), none⟩]) (.ops [⟨some 48, .mov (.t 0), none⟩, ⟨some 49, .fieldAddr (.t 5) 2 ⟨4, true⟩, none⟩, ⟨some 50, .load false (some 5) ⟨4, true⟩ (.t 49), none⟩, ⟨some 51, .call (.f 70) [.t 48, (.t 50)], none⟩]))))) (.ops [⟨some 52, .bin .add .num (.t 44) (.c (.i .i64 1)), none⟩, ⟨some 44, .mov (.t 52), none⟩]))))))
def qd5 : C := .loop [0, 42, 43, 44] qd9
def qd2 : C := (.seq (.ops [⟨some 60, .bin .lss .num (.t 59) (.t 58), none⟩]) ((.seq ((.cond (.t 60) (.skip) (.exit 4))) ((.seq ((.block 5 [0, 6, 57, 58, 59] ((.seq (.ops [⟨some 61, .indexAddr (.t 57) (.t 59) 6 none, none⟩, ⟨some 62, .load false none ⟨6, true⟩ (.t 61), none⟩, ⟨some 8, .alloc true [(.s []), (.b false), (.i .i64 0), (.i .i64 0), (.s []), .nil], none⟩, ⟨none, .store (some 8) ⟨6, true⟩ (.t 8) (.t 62), none⟩]) ((.seq (.ops [⟨some 63, .mov (.t 6), none⟩, ⟨some 64, .mov (.t 0), none⟩, ⟨some 65, .fieldAddr (.t 8) 2 ⟨4, true⟩, none⟩, ⟨some 66, .load false (some 8) ⟨4, true⟩ (.t 65), none⟩, ⟨some 67, .call (.f 70) [.t 64, (.t 66)], none⟩, ⟨some 68, .bin .add .num (.t 63) (.t 67), none⟩, ⟨some 6, .mov (.t 68), none⟩]) ((.seq (.ops [⟨some 69, .mov (.t 6), none⟩, ⟨some 70, .bin .leq .num (.t 69) (.c (.i .i64 16384)), none⟩, ⟨some 71, .call (.f 72) [.t 70], none⟩]) (.opsD [(⟨some 72, .mov (.t 0), none⟩, false, []), (⟨some 73, .nilCheck (.t 72), none⟩, false, []), (⟨some 74, .fieldAddr (.t 73) 8 ⟨1, false⟩, none⟩, false, []), (⟨some 75, .load false none ⟨1, false⟩ (.t 74), none⟩, false, []), (⟨some 76, .nilCheck (.t 75), none⟩, false, []), (⟨some 77, .fieldAddr (.t 76) 3 ⟨1, false⟩, none⟩, false, []), (⟨some 78, .load false none ⟨1, false⟩ (.t 77), none⟩, false, []), (⟨some 79, .mov (.t 0), none⟩, false, []), (⟨some 80, .fieldAddr (.t 8) 0 ⟨1, false⟩, none⟩, false, []), (⟨some 81, .load false (some 8) ⟨1, false⟩ (.t 80), none⟩, false, []), (⟨some 82, .call (.f 68) [.t 79, (.t 81)], none⟩, false, []), (⟨some 83, .fieldAddr (.t 8) 2 ⟨4, true⟩, none⟩, false, []), (⟨some 84, .load false (some 8) ⟨4, true⟩ (.t 83), none⟩, false, []), (⟨none, .mapUpdate 2 (.t 78) (.t 82) (.t 84), none⟩, true, [])]))))))))) (.ops [⟨some 85, .bin .add .num (.t 59) (.c (.i .i64 1)), none⟩, ⟨some 59, .mov (.t 85), none⟩]))))))
def qei : C := .loop [0, 6, 57, 58, 59] qd2
def qek : C := (.seq (.ops [⟨some 93, .bin .lss .num (.t 92) (.t 91), none⟩]) ((.seq ((.cond (.t 93) (.skip) (.exit 6))) ((.seq ((.block 7 [0, 90, 91, 92] ((.seq (.ops [⟨some 94, .indexAddr (.t 90) (.t 92) 10 none, none⟩, ⟨some 95, .load false none ⟨10, true⟩ (.t 94), none⟩, ⟨some 10, .alloc true [(.s []), (.b false), .nil, (.i .i64 0), (.i .i64 0), (.s []), .nil, .nil, .nil, .nil], none⟩, ⟨none, .store (some 10) ⟨10, true⟩ (.t 10) (.t 95), none⟩]) (.opsD [(⟨some 96, .mov (.t 0), none⟩, false, []), (⟨some 97, .nilCheck (.t 96), none⟩, false, []), (⟨some 98, .fieldAddr (.t 97) 8 ⟨1, false⟩, none⟩, false, []), (⟨some 99, .load false none ⟨1, false⟩ (.t 98), none⟩, false, []), (⟨some 100, .nilCheck (.t 99), none⟩, false, []), (⟨some 101, .fieldAddr (.t 100) 4 ⟨1, false⟩, none⟩, false, []), (⟨some 102, .load false none ⟨1, false⟩ (.t 101), none⟩, false, []), (⟨some 103, .mov (.t 0), none⟩, false, []), (⟨some 104, .fieldAddr (.t 10) 0 ⟨1, false⟩, none⟩, false, []), (⟨some 105, .load false (some 10) ⟨1, false⟩ (.t 104), none⟩, false, []), (⟨some 106, .call (.f 68) [.t 103, (.t 105)], none⟩, false, []), (⟨some 107, .load false (some 10) ⟨10, true⟩ (.t 10), none⟩, false, []), (⟨none, .mapUpdate 2 (.t 102) (.t 106) (.t 107), none⟩, true, [])]))))) (.ops [⟨some 108, .bin .add .num (.t 92) (.c (.i .i64 1)), none⟩, ⟨some 92, .mov (.t 108), none⟩]))))))
def qeb : C := .loop [0, 90, 91, 92] qek
def qeg : C := (.seq (.ops [⟨some 86, .mov (.t 0), none⟩, ⟨some 87, .nilCheck (.t 86), none⟩, ⟨some 88, .fieldAddr (.t 87) 0 ⟨8, true⟩, none⟩, ⟨some 89, .fieldAddr (.t 88) 6 ⟨1, false⟩, none⟩, ⟨some 90, .load false none ⟨1, false⟩ (.t 89), none⟩, ⟨some 91, .bi .lenL [.t 90], none⟩, ⟨some 92, .mov (.c (.i .i64 0)), none⟩]) ((.block 6 [] (qeb))))
def qeh : C := (.seq (.ops [⟨some 6, .mov (.c (.i .i64 0)), none⟩]) ((.seq ((.seq (.ops [⟨some 53, .mov (.t 0), none⟩, ⟨some 54, .nilCheck (.t 53), none⟩, ⟨some 55, .fieldAddr (.t 54) 0 ⟨8, true⟩, none⟩, ⟨some 56, .fieldAddr (.t 55) 5 ⟨1, false⟩, none⟩, ⟨some 57, .load false none ⟨1, false⟩ (.t 56), none⟩, ⟨some 58, .bi .lenL [.t 57], none⟩, ⟨some 59, .mov (.c (.i .i64 0)), none⟩]) ((.block 4 [0] (qei))))) (qeg))))
def qej : C := (.seq ((.seq (.ops [⟨some 38, .mov (.t 0), none⟩, ⟨some 39, .nilCheck (.t 38), none⟩, ⟨some 40, .fieldAddr (.t 39) 0 ⟨8, true⟩, none⟩, ⟨some 41, .fieldAddr (.t 40) 3 ⟨1, false⟩, none⟩, ⟨some 42, .load false none ⟨1, false⟩ (.t 41), none⟩, ⟨some 43, .bi .lenL [.t 42], none⟩, ⟨some 44, .mov (.c (.i .i64 0)), none⟩]) ((.block 2 [0] (qd5))))) (qeh))
def qb7 : Fn := ⟨1, [], false, (.seq ((.seq (.ops [⟨some 11, .mov (.t 0), none⟩, ⟨some 12, .nilCheck (.t 11), none⟩, ⟨some 13, .fieldAddr (.t 12) 0 ⟨8, true⟩, none⟩, ⟨some 14, .fieldAddr (.t 13) 2 ⟨1, false⟩, none⟩, ⟨some 15, .load false none ⟨1, false⟩ (.t 14), none⟩, ⟨some 16, .bi .lenL [.t 15], none⟩, ⟨some 17, .mov (.c (.i .i64 0)), none⟩]) ((.block 0 [0] (qd0))))) (qej)), none, none⟩
def qfQ : C := (.seq (.ops [⟨some 21, .bin .lss .num (.t 20) (.t 19), none⟩]) ((.seq ((.cond (.t 21) (.skip) (.exit 2))) ((.seq ((.block 3 [0, 8, 9, 10, 18, 19, 20] ((.seq (.ops [⟨some 22, .indexAddr (.t 18) (.t 20) 1 none, none⟩, ⟨some 23, .load false none ⟨1, false⟩ (.t 22), none⟩, ⟨some 7, .mov (.t 23), none⟩]) (.ops [⟨some 24, .mov (.t 0), none⟩, ⟨some 25, .mov (.mv 7), none⟩, ⟨some 26, .call (.f 28) [.t 24, (.mv 25)], none⟩]))))) (.ops [⟨some 27, .bin .add .num (.t 20) (.c (.i .i64 1)), none⟩, ⟨some 20, .mov (.t 27), none⟩]))))))
def qfR : C := .loop [0, 8, 9, 10, 18, 19, 20] qfQ
def qfM : C := .ops [⟨some 28, .bin .add .num (.t 10) (.c (.i .i64 1)), none⟩, ⟨some 10, .mov (.t 28), none⟩]
def qfN : C := (.seq (.ops [⟨some 11, .bin .lss .num (.t 10) (.t 9), none⟩]) ((.seq ((.cond (.t 11) (.skip) (.exit 0))) ((.seq ((.block 1 [0, 8, 9, 10] ((.seq (.ops [⟨some 12, .indexAddr (.t 8) (.t 10) 4 none, none⟩, ⟨some 13, .load false none ⟨4, true⟩ (.t 12), none⟩, ⟨some 5, .alloc true [(.i .i64 0), .nil, .nil, .nil], none⟩, ⟨none, .store (some 5) ⟨4, true⟩ (.t 5) (.t 13), none⟩]) ((.seq (.ops [⟨some 14, .mov (.t 0), none⟩, ⟨some 15, .load false (some 5) ⟨4, true⟩ (.t 5), none⟩, ⟨some 16, .call (.f 77) [.t 14, (.t 15)], none⟩]) ((.seq (.ops [⟨some 17, .fieldAddr (.t 5) 2 ⟨1, false⟩, none⟩, ⟨some 18, .load false (some 5) ⟨1, false⟩ (.t 17), none⟩, ⟨some 19, .bi .lenL [.t 18], none⟩, ⟨some 20, .mov (.c (.i .i64 0)), none⟩]) ((.block 2 [0, 8, 9, 10] (qfR))))))))))) (qfM))))))
def qfU : C := .loop [0, 8, 9, 10] qfN
def qc7 : Fn := ⟨2, [], false, (.seq (.ops [⟨some 8, .mov (.t 1), none⟩, ⟨some 9, .bi .lenL [.t 8], none⟩, ⟨some 10, .mov (.c (.i .i64 0)), none⟩]) ((.block 0 [] (qfU)))), none, none⟩
def qbJ : C := (.block 1 [2, 3, 4] ((.seq (.ops [⟨some 15, .mov (.t 4), none⟩, ⟨some 16, .call (.f 83) [.t 15], none⟩, ⟨some 5, .alloc true [(.i .i64 0), (.i .i64 0), (.i .i64 0), (.s []), (.i .i32 0)], none⟩, ⟨none, .store (some 5) ⟨5, true⟩ (.t 5) (.mv 16), none⟩]) ((.seq (.ops [⟨some 17, .load true none ⟨1, false⟩ (.t 2), none⟩, ⟨some 18, .load false (some 5) ⟨5, true⟩ (.t 5), none⟩, ⟨some 19, .buildSlice (.agg [(.i .i64 0), (.i .i64 0), (.i .i64 0), (.s []), (.i .i32 0)]) 1 [(0, (.t 18))], none⟩, ⟨some 20, .bi (.append 5 48) [.mv 17, (.t 19)], none⟩, ⟨none, .store none ⟨1, false⟩ (.t 2) (.mv 20), none⟩]) ((.seq (.ops [⟨some 21, .fieldAddr (.t 5) 0 ⟨1, false⟩, none⟩, ⟨some 22, .load false (some 5) ⟨1, false⟩ (.t 21), none⟩, ⟨some 23, .bin .eql .num (.t 22) (.c (.i .i64 0)), none⟩]) ((.cond (.t 23) ((.seq (.ops [⟨some 24, .load false none ⟨1, false⟩ (.t 2), none⟩, ⟨none, .store none ⟨1, false⟩ (.t 2) (.t 24), none⟩, ⟨none, .store none ⟨1, false⟩ (.t 3) (.c .nil), none⟩]) (.ret))) (.skip))))))))))
def qbH : C := .loop [2, 3, 4] qbJ
noncomputable def qdY (pg : Pg) (v2 v3 v4 : V) (H : List Obj) (lo : Nat) : Option (Ex × St) := exL pg qbH ⟨[(2, v2), (3, v3), (4, v4)], H, lo⟩
theorem qgp {pg : Pg} {e : Env} {H : List Obj} {lo : Nat} : exL pg qbH ⟨e, H, lo⟩ = qdY pg (qM (get 2 e)) (qM (get 3 e)) (qM (get 4 e)) H lo := qcn
theorem qkA {pg : Pg} {v2 v3 v4 : V} {H : List Obj} {lo : Nat} : qdY pg v2 v3 v4 H lo = y6 pg (exL pg qbJ ⟨[(2, qM v2), (3, qM v3), (4, qM v4)], H, lo⟩) qbH := by
  unfold qdY qbH; rw [qaA]; simp only [qg, qm, qz, qC, Nat.reduceEqDiff]
def qgT : C := (.seq (.skip) ((.seq (.ops [⟨some 12, .mov (.t 0), none⟩, ⟨some 13, .build [(.s []), (.i .i64 0)] [(0, 1, (.t 12))], none⟩, ⟨some 14, .box false (.t 13), none⟩, ⟨some 4, .mov (.t 14), none⟩]) ((.block 0 [2, 3] (qbH))))))
def f_scan_All : Fn := ⟨1, [(.cell 2 ⟨1, false⟩), (.cell 3 ⟨1, false⟩)], false, (.seq (.ops [⟨some 2, .alloc false [.nil], none⟩, ⟨some 3, .alloc false [.nil], none⟩]) ((.seq ((.seq (.ops [⟨some 6, .mov (.t 0), none⟩, ⟨some 7, .bi .lenS [.t 6], none⟩, ⟨some 8, .bin .gtr .num (.t 7) (.c (.i .i64 20000)), none⟩]) ((.cond (.t 8) ((.seq (.ops [⟨some 9, .build [(.i .i64 0), (.i .i64 0)] [(0, 1, (.c (.i .i64 20000))), (1, 1, (.c (.i .i64 34)))], none⟩, ⟨some 10, .buildSlice (.agg [(.i .i64 0), (.i .i64 0)]) 1 [(0, (.t 9))], none⟩, ⟨none, .store none ⟨1, false⟩ (.t 2) (.c .nil), none⟩, ⟨none, .store none ⟨1, false⟩ (.t 3) (.mv 10), none⟩]) (.ret))) (.skip))))) (.ops [⟨some 11, .mkFn 82 [] [.t 2, (.t 3)], none⟩])))), some (11, qgT), none⟩
def qcm : Fn := ⟨1, [.t 2], true, (.seq (.ops [⟨some 2, .mov (.c (.b false)), none⟩]) ((.seq (.ops [⟨some 3, .call (.f 85) [(.c (.s [73, 78, 84, 69, 71, 69, 82, 32, 67, 72, 65, 82, 32, 66, 79, 79, 76, 69, 65, 78, 32, 83, 69, 84, 32, 65, 66, 83, 32, 79, 68, 68, 32, 76, 83, 76, 32, 65, 83, 82, 32, 82, 79, 82, 32, 79, 82, 68, 32, 67, 72, 82, 32, 76, 69, 78, 32, 73, 78, 67, 32, 68, 69, 67, 32, 73, 78, 67, 76, 32, 69, 88, 67, 76, 32, 78, 69, 87, 32, 65, 83, 83, 69, 82, 84]))], none⟩, ⟨some 4, .mov (.mv 0), none⟩, ⟨some 5, .call (.f 84) [.t 3, (.mv 4)], none⟩, ⟨some 2, .mov (.mv 5), none⟩]) (.ret)))), none, none⟩
def jN : C := (.seq ((.seq (.ops [⟨some 6, .mov (.t 4), none⟩, ⟨some 7, .mov (.t 3), none⟩, ⟨some 8, .bi .lenL [.t 7], none⟩, ⟨some 9, .bin .lss .num (.t 6) (.t 8), none⟩]) ((.cond (.t 9) (.skip) (.exit 0))))) ((.seq ((.block 1 [0, 3, 4] ((.seq (.ops [⟨some 12, .mov (.t 3), none⟩, ⟨some 13, .mov (.t 4), none⟩, ⟨some 14, .indexAddr (.t 12) (.t 13) 1 none, none⟩, ⟨some 15, .load false none ⟨1, false⟩ (.t 14), none⟩, ⟨some 16, .mov (.t 0), none⟩, ⟨some 17, .bin .eql .num (.t 15) (.t 16), none⟩]) ((.cond (.t 17) ((.seq (.ops [⟨some 2, .mov (.c (.b true)), none⟩]) (.ret))) (.skip))))))) (.ops [⟨some 10, .mov (.t 4), none⟩, ⟨some 11, .bin .add .num (.t 10) (.c (.i .i64 1)), none⟩, ⟨some 4, .mov (.t 11), none⟩]))))
def jP : C := .loop [0, 3, 4] jN
noncomputable def yS (pg : Pg) (v0 v3 v4 : V) (H : List Obj) (lo : Nat) : Option (Ex × St) := exL pg jP ⟨[(0, v0), (3, v3), (4, v4)], H, lo⟩
theorem qcg {pg : Pg} {e : Env} {H : List Obj} {lo : Nat} : exL pg jP ⟨e, H, lo⟩ = yS pg (qM (get 0 e)) (qM (get 3 e)) (qM (get 4 e)) H lo := qcn
theorem qb9 {pg : Pg} {v0 v3 v4 : V} {H : List Obj} {lo : Nat} : yS pg v0 v3 v4 H lo = y6 pg (exL pg jN ⟨[(0, qM v0), (3, qM v3), (4, qM v4)], H, lo⟩) jP := by
  unfold yS jP; rw [qaA]; simp only [qg, qm, qz, qC, Nat.reduceEqDiff]
def y9 : C := (.seq (.ops [⟨some 2, .mov (.c (.b false)), none⟩]) (.ret))
def qaO : Fn := ⟨1, [.t 2], true, (.seq (.ops [⟨some 2, .mov (.c (.b false)), none⟩]) ((.seq (.ops [⟨some 5, .call (.f 86) [], none⟩, ⟨some 3, .mov (.mv 5), none⟩]) ((.seq ((.seq (.ops [⟨some 4, .mov (.c (.i .i64 0)), none⟩]) ((.block 0 [] (jP))))) (y9)))))), none, none⟩
def qaE : Fn := ⟨1, [.t 2], true, (.seq (.ops [⟨some 2, .mov (.c (.b false)), none⟩]) ((.seq ((.seq (.ops [⟨some 3, .mov (.t 0), none⟩]) ((.block 0 [] ((.seq ((.seq (.ops [⟨some 5, .bin .eql .num (.t 3) (.c (.s [73, 78, 84, 69, 71, 69, 82])), none⟩,
 ⟨some 4, .mov (.t 5), none⟩]) ((.cond (.t 4) (.skip) ((.seq (.ops [⟨some 6, .bin .eql .num (.t 3) (.c (.s [67, 72, 65, 82])), none⟩,
 ⟨some 4, .mov (.t 6), none⟩]) ((.cond (.t 4) (.skip) ((.seq (.ops [⟨some 7, .bin .eql .num (.t 3) (.c (.s [66, 79, 79, 76, 69, 65, 78])), none⟩,
 ⟨some 4, .mov (.t 7), none⟩]) ((.cond (.t 4) (.skip) ((.seq (.ops [⟨some 8, .bin .eql .num (.t 3) (.c (.s [83, 69, 84])), none⟩,
 ⟨some 4, .mov (.t 8), none⟩]) ((.cond (.t 4) (.skip) ((.seq (.ops [⟨some 9, .bin .eql .num (.t 3) (.c (.s [65, 66, 83])), none⟩,
 ⟨some 4, .mov (.t 9), none⟩]) ((.cond (.t 4) (.skip) ((.seq (.ops [⟨some 10, .bin .eql .num (.t 3) (.c (.s [79, 68, 68])), none⟩,
 ⟨some 4, .mov (.t 10), none⟩]) ((.cond (.t 4) (.skip) ((.seq (.ops [⟨some 11, .bin .eql .num (.t 3) (.c (.s [76, 83, 76])), none⟩,
 ⟨some 4, .mov (.t 11), none⟩]) ((.cond (.t 4) (.skip) ((.seq (.ops [⟨some 12, .bin .eql .num (.t 3) (.c (.s [65, 83, 82])), none⟩,
 ⟨some 4, .mov (.t 12), none⟩]) ((.cond (.t 4) (.skip) ((.seq (.ops [⟨some 13, .bin .eql .num (.t 3) (.c (.s [82, 79, 82])), none⟩,
 ⟨some 4, .mov (.t 13), none⟩]) ((.cond (.t 4) (.skip) ((.seq (.ops [⟨some 14, .bin .eql .num (.t 3) (.c (.s [79, 82, 68])), none⟩,
 ⟨some 4, .mov (.t 14), none⟩]) ((.cond (.t 4) (.skip) ((.seq (.ops [⟨some 15, .bin .eql .num (.t 3) (.c (.s [67, 72, 82])), none⟩,
 ⟨some 4, .mov (.t 15), none⟩]) ((.cond (.t 4) (.skip) ((.seq (.ops [⟨some 16, .bin .eql .num (.t 3) (.c (.s [76, 69, 78])), none⟩,
 ⟨some 4, .mov (.t 16), none⟩]) ((.cond (.t 4) (.skip) ((.seq (.ops [⟨some 17, .bin .eql .num (.t 3) (.c (.s [73, 78, 67])), none⟩,
 ⟨some 4, .mov (.t 17), none⟩]) ((.cond (.t 4) (.skip) ((.seq (.ops [⟨some 18, .bin .eql .num (.t 3) (.c (.s [68, 69, 67])), none⟩,
 ⟨some 4, .mov (.t 18), none⟩]) ((.cond (.t 4) (.skip) ((.seq (.ops [⟨some 19, .bin .eql .num (.t 3) (.c (.s [73, 78, 67, 76])), none⟩,
 ⟨some 4, .mov (.t 19), none⟩]) ((.cond (.t 4) (.skip) ((.seq (.ops [⟨some 20, .bin .eql .num (.t 3) (.c (.s [69, 88, 67, 76])), none⟩,
 ⟨some 4, .mov (.t 20), none⟩]) ((.cond (.t 4) (.skip) ((.seq (.ops [⟨some 21, .bin .eql .num (.t 3) (.c (.s [78, 69, 87])), none⟩,
 ⟨some 4, .mov (.t 21), none⟩]) ((.cond (.t 4) (.skip) (.ops [⟨some 22, .bin .eql .num (.t 3) (.c (.s [65, 83, 83, 69, 82, 84])), none⟩,
 ⟨some 4, .mov (.t 22), none⟩]))))))))))))))))))))))))))))))))))))))))))))))))))))))))))))))))))))) ((.cond (.t 4) ((.seq (.ops [⟨some 2, .mov (.c (.b true)), none⟩]) (.ret))) (.skip))))))))) ((.seq (.ops [⟨some 2, .mov (.c (.b false)), none⟩]) (.ret)))))), none, none⟩
def qla : Fn := ⟨1, [.t 2], true, (.seq (.ops [⟨some 2, .mov (.c (.b false)), none⟩]) ((.seq (.ops [⟨some 3, .mov (.t 0), none⟩, ⟨some 4, .bin .leq .num (.t 3) (.c (.i .i64 1000)), none⟩, ⟨some 2, .mov (.t 4), none⟩]) (.ret)))), none, none⟩
def qle : Fn := ⟨1, [.t 2], true, (.seq (.ops [⟨some 2, .mov (.c (.b false)), none⟩]) ((.seq (.ops [⟨some 3, .mov (.t 0), none⟩, ⟨some 4, .bi .lenS [.t 3], none⟩, ⟨some 5, .bin .leq .num (.t 4) (.c (.i .i64 65)), none⟩, ⟨some 2, .mov (.t 5), none⟩]) (.ret)))), none, none⟩
def qgv : Fn := ⟨1, [.t 2], true, (.seq (.ops [⟨some 2, .mov (.c (.b false)), none⟩]) ((.seq (.ops [⟨some 3, .mov (.t 0), none⟩, ⟨some 4, .bi .lenL [.t 3], none⟩, ⟨some 5, .call (.f 49) [.t 4], none⟩, ⟨some 6, .mov (.mv 5), none⟩, ⟨some 7, .mov (.t 0), some (6, true)⟩, ⟨some 8, .call (.f 125) [.t 7, (.f 126)], some (6, true)⟩, ⟨some 9, .un .not (.t 8), some (6, true)⟩, ⟨some 10, .pick (.t 6) (.t 9) (.c (.b false)), none⟩, ⟨some 2, .mov (.t 10), none⟩]) (.ret)))), none, none⟩
def qlX : C := (.seq (.ops [⟨some 20, .bin .lss .num (.t 19) (.t 18), none⟩]) ((.seq ((.cond (.t 20) (.skip) (.exit 2))) ((.seq ((.block 3 [3, 8, 9, 10, 17, 18, 19] ((.seq (.ops [⟨some 21, .indexAddr (.t 17) (.t 19) 1 none, none⟩, ⟨some 22, .load false none ⟨1, false⟩ (.t 21), none⟩, ⟨some 7, .mov (.t 22), none⟩]) (.ops [⟨some 23, .mov (.t 3), none⟩, ⟨some 24, .mov (.mv 7), none⟩, ⟨some 25, .call (.f 52) [.mv 24], none⟩, ⟨some 26, .bin .add .num (.c (.i .i64 1)) (.t 25), none⟩, ⟨some 27, .bi .max [.t 23, (.t 26)], none⟩, ⟨some 3, .mov (.t 27), none⟩]))))) (.ops [⟨some 28, .bin .add .num (.t 19) (.c (.i .i64 1)), none⟩, ⟨some 19, .mov (.t 28), none⟩]))))))
def qnu : C := .loop [3, 8, 9, 10, 17, 18, 19] qlX
def qmF : C := .ops [⟨some 29, .bin .add .num (.t 10) (.c (.i .i64 1)), none⟩, ⟨some 10, .mov (.t 29), none⟩]
def qmj : C := (.seq (.ops [⟨some 11, .bin .lss .num (.t 10) (.t 9), none⟩]) ((.seq ((.cond (.t 11) (.skip) (.exit 0))) ((.seq ((.block 1 [3, 8, 9, 10] ((.seq (.ops [⟨some 12, .indexAddr (.t 8) (.t 10) 4 none, none⟩, ⟨some 13, .load false none ⟨4, true⟩ (.t 12), none⟩, ⟨some 5, .alloc true [(.i .i64 0), .nil, .nil, .nil], none⟩, ⟨none, .store (some 5) ⟨4, true⟩ (.t 5) (.t 13), none⟩]) ((.seq (.ops [⟨some 14, .mov (.t 3), none⟩, ⟨some 15, .bi .max [.t 14, (.c (.i .i64 1))], none⟩, ⟨some 3, .mov (.t 15), none⟩]) ((.seq (.ops [⟨some 16, .fieldAddr (.t 5) 2 ⟨1, false⟩, none⟩, ⟨some 17, .load false (some 5) ⟨1, false⟩ (.t 16), none⟩, ⟨some 18, .bi .lenL [.t 17], none⟩, ⟨some 19, .mov (.c (.i .i64 0)), none⟩]) ((.block 2 [3, 8, 9, 10] (qnu))))))))))) (qmF))))))
def qma : C := .loop [3, 8, 9, 10] qmj
def qnl : C := (.seq (.ops [⟨some 30, .mov (.t 3), none⟩, ⟨some 2, .mov (.t 30), none⟩]) (.ret))
def qlq : Fn := ⟨1, [.t 2], true, (.seq (.ops [⟨some 2, .mov (.c (.i .i64 0)), none⟩]) ((.seq (.ops [⟨some 3, .mov (.c (.i .i64 0)), none⟩]) ((.seq ((.seq (.ops [⟨some 8, .mov (.t 0), none⟩, ⟨some 9, .bi .lenL [.t 8], none⟩, ⟨some 10, .mov (.c (.i .i64 0)), none⟩]) ((.block 0 [3] (qma))))) (qnl)))))), none, none⟩
def qiD : C := (.seq (.ops [⟨some 12, .bin .lss .num (.t 11) (.t 10), none⟩]) ((.seq ((.cond (.t 12) (.skip) (.exit 0))) ((.seq ((.block 1 [9, 10, 11] ((.seq (.ops [⟨some 13, .indexAddr (.t 9) (.t 11) 4 none, none⟩,
 ⟨some 14, .load false none ⟨4, true⟩ (.t 13), none⟩,
 ⟨some 4, .alloc true [(.i .i64 0), .nil, .nil, .nil], none⟩,
 ⟨none, .store (some 4) ⟨4, true⟩ (.t 4) (.t 14), none⟩]) ((.seq (.ops [⟨some 15, .fieldAddr (.t 4) 1 ⟨1, false⟩, none⟩,
 ⟨some 16, .load false (some 4) ⟨1, false⟩ (.t 15), none⟩,
 ⟨some 17, .bi .lenL [.t 16], none⟩,
 ⟨some 18, .call (.f 49) [.t 17], none⟩,
 ⟨some 19, .un .not (.t 18), none⟩,
 ⟨some 20, .mov (.t 19), none⟩,
 ⟨some 21, .fieldAddr (.t 4) 2 ⟨1, false⟩, some (20, false)⟩,
 ⟨some 22, .load false (some 4) ⟨1, false⟩ (.t 21), some (20, false)⟩,
 ⟨some 23, .bi .lenL [.t 22], some (20, false)⟩,
 ⟨some 24, .call (.f 49) [.t 23], some (20, false)⟩,
 ⟨some 25, .un .not (.t 24), some (20, false)⟩,
 ⟨some 26, .pick (.t 20) (.c (.b true)) (.t 25), none⟩,
 ⟨some 27, .mov (.t 26), none⟩,
 ⟨some 28, .fieldAddr (.t 4) 3 ⟨1, false⟩, some (27, false)⟩,
 ⟨some 29, .load false (some 4) ⟨1, false⟩ (.t 28), some (27, false)⟩,
 ⟨some 30, .bi .lenL [.t 29], some (27, false)⟩,
 ⟨some 31, .call (.f 49) [.t 30], some (27, false)⟩,
 ⟨some 32, .un .not (.t 31), some (27, false)⟩,
 ⟨some 33, .pick (.t 27) (.c (.b true)) (.t 32), none⟩,
 ⟨some 34, .mov (.t 33), none⟩,
 ⟨some 35, .fieldAddr (.t 4) 1 ⟨1, false⟩, some (34, false)⟩,
 ⟨some 36, .load false (some 4) ⟨1, false⟩ (.t 35), some (34, false)⟩,
 ⟨some 37, .call (.f 128) [.t 36, (.f 129)], some (34, false)⟩,
 ⟨some 38, .pick (.t 34) (.c (.b true)) (.t 37), none⟩,
 ⟨some 39, .mov (.t 38), none⟩,
 ⟨some 40, .fieldAddr (.t 4) 2 ⟨1, false⟩, some (39, false)⟩,
 ⟨some 41, .load false (some 4) ⟨1, false⟩ (.t 40), some (39, false)⟩,
 ⟨some 42, .call (.f 130) [.t 41, (.f 131)], some (39, false)⟩,
 ⟨some 43, .pick (.t 39) (.c (.b true)) (.t 42), none⟩]) ((.cond (.t 43) ((.seq (.ops [⟨some 2, .mov (.c (.b false)), none⟩]) (.ret))) (.skip))))))))) (.ops [⟨some 44, .bin .add .num (.t 11) (.c (.i .i64 1)), none⟩,
 ⟨some 11, .mov (.t 44), none⟩]))))))
def qiz : C := .loop [9, 10, 11] qiD
def qiE : C := (.seq (.ops [⟨some 2, .mov (.c (.b true)), none⟩]) (.ret))
def qgE : Fn := ⟨1, [.t 2], true, (.seq (.ops [⟨some 2, .mov (.c (.b false)), none⟩]) ((.seq ((.seq (.ops [⟨some 5, .mov (.t 0), none⟩, ⟨some 6, .bi .lenL [.t 5], none⟩, ⟨some 7, .call (.f 49) [.t 6], none⟩, ⟨some 8, .un .not (.t 7), none⟩]) ((.cond (.t 8) ((.seq (.ops [⟨some 2, .mov (.c (.b false)), none⟩]) (.ret))) (.skip))))) ((.seq ((.seq (.ops [⟨some 9, .mov (.t 0), none⟩, ⟨some 10, .bi .lenL [.t 9], none⟩, ⟨some 11, .mov (.c (.i .i64 0)), none⟩]) ((.block 0 [] (qiz))))) (qiE)))))), none, none⟩
def yM : Fn := ⟨2, [.t 4], true, (.seq (.ops [⟨some 4, .mov (.c (.b false)), none⟩]) ((.seq (.ops [⟨some 5, .mov (.mv 0), none⟩, ⟨some 6, .mov (.mv 1), none⟩, ⟨some 7, .call (.f 132) [.mv 5, (.mv 6)], none⟩, ⟨some 8, .bin .geq .num (.t 7) (.c (.i .i64 0)), none⟩, ⟨some 4, .mov (.t 8), none⟩]) (.ret)))), none, none⟩
def jM : Fn := ⟨2, [.t 4], true, (.seq (.ops [⟨some 4, .mov (.c (.b false)), none⟩]) ((.seq (.ops [⟨some 5, .mov (.mv 0), none⟩, ⟨some 6, .mov (.mv 1), none⟩, ⟨some 7, .call (.f 133) [.mv 5, (.mv 6)], none⟩, ⟨some 8, .bin .geq .num (.t 7) (.c (.i .i64 0)), none⟩, ⟨some 4, .mov (.t 8), none⟩]) (.ret)))), none, none⟩
def qhp : Fn := ⟨1, [.t 2], true, (.seq (.ops [⟨some 1, .box true (.t 0), none⟩, ⟨some 2, .mov (.c (.b false)), none⟩]) ((.seq (.ops [⟨some 3, .load false (some 1) ⟨8, true⟩ (.t 1), none⟩, ⟨some 4, .call (.f 134) [.t 3], none⟩, ⟨some 5, .bin .leq .num (.t 4) (.c (.i .i64 64)), none⟩, ⟨some 6, .mov (.t 5), none⟩, ⟨some 7, .load false (some 1) ⟨8, true⟩ (.t 1), some (6, true)⟩, ⟨some 8, .call (.f 135) [.t 7], some (6, true)⟩, ⟨some 9, .pick (.t 6) (.t 8) (.c (.b false)), none⟩, ⟨some 2, .mov (.t 9), none⟩]) (.ret)))), none, none⟩
def yq : Fn := ⟨2, [.t 4], true, (.seq (.ops [⟨some 4, .mov (.c (.b false)), none⟩]) ((.seq (.ops [⟨some 5, .mov (.mv 0), none⟩, ⟨some 6, .mov (.mv 1), none⟩, ⟨some 7, .call (.f 136) [.mv 5, (.mv 6)], none⟩, ⟨some 8, .bin .geq .num (.t 7) (.c (.i .i64 0)), none⟩, ⟨some 4, .mov (.t 8), none⟩]) (.ret)))), none, none⟩
def ya : Fn := ⟨2, [.t 4], true, (.seq (.ops [⟨some 4, .mov (.c (.b false)), none⟩]) ((.seq (.ops [⟨some 5, .mov (.mv 0), none⟩, ⟨some 6, .mov (.mv 1), none⟩, ⟨some 7, .call (.f 137) [.mv 5, (.mv 6)], none⟩, ⟨some 8, .bin .geq .num (.t 7) (.c (.i .i64 0)), none⟩, ⟨some 4, .mov (.t 8), none⟩]) (.ret)))), none, none⟩
def qhy : Fn := ⟨1, [], false, .ops [⟨some 2, .mov (.mv 0), none⟩, ⟨some 3, .call (.f 21) [.mv 2, (.c (.i .i64 32))], none⟩], none, none⟩
def qcu : Fn := ⟨2, [], false, (.seq (.ops [⟨some 3, .mov (.t 0), none⟩, ⟨some 4, .call (.f 14) [.t 3], none⟩, ⟨some 5, .mov (.mv 4), none⟩, ⟨some 6, .load false none ⟨1, false⟩ (.t 1), some (5, true)⟩, ⟨some 7, .mov (.t 0), some (5, true)⟩, ⟨some 8, .lookup 2 (.b false) (.t 6) (.t 7) false, some (5, true)⟩, ⟨some 9, .un .not (.t 8), some (5, true)⟩, ⟨some 10, .pick (.t 5) (.t 9) (.c (.b false)), none⟩, ⟨some 11, .call (.f 65) [.t 10], none⟩]) (.ops [⟨some 12, .load false none ⟨1, false⟩ (.t 1), none⟩, ⟨some 13, .mov (.t 0), none⟩, ⟨none, .mapUpdate 2 (.t 12) (.t 13) (.c (.b true)), none⟩])), none, none⟩
def qdz : Fn := ⟨2, [.t 4], true, (.seq (.ops [⟨some 4, .mov (.c (.s [])), none⟩]) ((.seq (.ops [⟨some 5, .mov (.t 0), none⟩, ⟨some 6, .nilCheck (.t 5), none⟩, ⟨some 7, .fieldAddr (.t 6) 0 ⟨8, true⟩, none⟩, ⟨some 8, .fieldAddr (.t 7) 0 ⟨1, false⟩, none⟩, ⟨some 9, .load false none ⟨1, false⟩ (.t 8), none⟩, ⟨some 10, .bin .add .num (.t 9) (.c (.s [46])), none⟩, ⟨some 11, .mov (.t 1), none⟩, ⟨some 12, .bin .add .num (.t 10) (.t 11), none⟩, ⟨some 4, .mov (.t 12), none⟩]) (.ret)))), none, none⟩
def qdF : Fn := ⟨2, [.t 4], true, (.seq (.ops [⟨some 3, .box true (.t 1), none⟩, ⟨some 4, .mov (.c (.i .i64 0)), none⟩]) ((.seq (.ops [⟨some 7, .load false (some 3) ⟨4, true⟩ (.t 3), none⟩, ⟨some 8, .call (.f 147) [.t 7], none⟩, ⟨some 9, .call (.f 72) [.t 8], none⟩]) ((.seq ((.seq (.opsD [(⟨some 10, .mov (.t 0), none⟩, false, []), (⟨some 11, .nilCheck (.t 10), none⟩, false, []), (⟨some 12, .fieldAddr (.t 11) 8 ⟨1, false⟩, none⟩, false, []), (⟨some 13, .load false none ⟨1, false⟩ (.t 12), none⟩, false, []), (⟨some 14, .load false (some 3) ⟨4, true⟩ (.t 3), none⟩, false, []), (⟨some 15, .call (.f 148) [.t 13, (.t 14)], none⟩, true, [])]) (.ops [⟨some 16, .call (.f 65) [.t 15], none⟩]))) ((.seq (.opsD [(⟨some 18, .load false (some 3) ⟨4, true⟩ (.t 3), none⟩, false, []), (⟨some 19, .mov (.t 0), none⟩, false, []), (⟨some 20, .nilCheck (.t 19), none⟩, false, []), (⟨some 21, .fieldAddr (.t 20) 8 ⟨1, false⟩, none⟩, false, []), (⟨some 22, .load false none ⟨1, false⟩ (.t 21), none⟩, false, []), (⟨some 23, .nilCheck (.t 22), none⟩, false, []), (⟨some 24, .fieldAddr (.t 23) 1 ⟨1, false⟩, none⟩, false, []), (⟨some 25, .load false none ⟨1, false⟩ (.t 24), none⟩, false, []), (⟨some 26, .call (.f 149) [.t 18, (.t 25)], none⟩, true, []), (⟨some 17, .mov (.t 26), none⟩, true, []), (⟨some 27, .extract (.t 17) 0, none⟩, false, []), (⟨some 28, .extract (.t 17) 1, none⟩, false, []), (⟨some 5, .mov (.t 27), none⟩, false, []), (⟨some 6, .mov (.t 28), none⟩, true, [])]) ((.seq (.ops [⟨some 29, .mov (.mv 6), none⟩, ⟨some 30, .call (.f 72) [.mv 29], none⟩]) ((.seq (.ops [⟨some 31, .mov (.t 5), none⟩, ⟨some 4, .mov (.t 31), none⟩]) (.ret)))))))))))), none, none⟩
def qfT : C := (.seq (.ops [⟨some 26, .bin .lss .num (.t 25) (.t 24), none⟩]) ((.seq ((.cond (.t 26) (.skip) (.exit 0))) ((.seq ((.block 1 [0, 23, 24, 25] ((.seq (.ops [⟨some 27, .indexAddr (.t 23) (.t 25) 8 none, none⟩, ⟨some 28, .load false none ⟨8, true⟩ (.t 27), none⟩, ⟨some 5, .alloc true [(.i .i64 0), (.i .i64 0), (.i .i64 0), (.s []), .nil, (.i .i32 0), (.s []), .nil], none⟩, ⟨none, .store (some 5) ⟨8, true⟩ (.t 5) (.t 28), none⟩]) (.ops [⟨some 29, .mov (.t 0), none⟩, ⟨some 30, .load false (some 5) ⟨8, true⟩ (.t 5), none⟩, ⟨some 31, .call (.f 152) [.t 29, (.t 30)], none⟩]))))) (.ops [⟨some 32, .bin .add .num (.t 25) (.c (.i .i64 1)), none⟩, ⟨some 25, .mov (.t 32), none⟩]))))))
def qfV : C := .loop [0, 23, 24, 25] qfT
def qfK : C := .ret
def qfO : C := (.seq (.ops [⟨some 37, .bin .lss .num (.t 36) (.t 35), none⟩]) ((.seq ((.cond (.t 37) (.skip) (.exit 2))) ((.seq ((.block 3 [0, 3, 34, 35, 36] ((.seq (.ops [⟨some 38, .indexAddr (.t 34) (.t 36) 8 none, none⟩, ⟨some 39, .load false none ⟨8, true⟩ (.t 38), none⟩, ⟨some 7, .alloc true [(.i .i64 0), (.i .i64 0), (.i .i64 0), (.s []), .nil, (.i .i32 0), (.s []), .nil], none⟩, ⟨none, .store (some 7) ⟨8, true⟩ (.t 7) (.t 39), none⟩]) (.ops [⟨some 40, .mov (.t 0), none⟩, ⟨some 41, .load false (some 7) ⟨8, true⟩ (.t 7), none⟩, ⟨some 42, .call (.f 71) [.t 40, (.t 41)], none⟩]))))) (.ops [⟨some 43, .bin .add .num (.t 36) (.c (.i .i64 1)), none⟩, ⟨some 36, .mov (.t 43), none⟩]))))))
def qfZ : C := .loop [0, 3, 34, 35, 36] qfO
def qfP : C := (.seq (.ops [⟨some 44, .fieldAddr (.t 3) 0 ⟨1, false⟩, none⟩,
 ⟨some 45, .load false (some 3) ⟨1, false⟩ (.t 44), none⟩]) ((.block 4 [] ((.seq (.ops [⟨some 71, .bin .eql .num (.t 45) (.c (.i .i64 0)), none⟩,
 ⟨some 70, .mov (.t 71), none⟩]) ((.cond (.t 70) (.ops [⟨some 72, .mov (.mv 0), none⟩,
 ⟨some 73, .load false (some 3) ⟨8, true⟩ (.t 3), none⟩,
 ⟨some 74, .call (.f 153) [.mv 72, (.t 73)], none⟩]) ((.seq (.ops [⟨some 76, .bin .eql .num (.t 45) (.c (.i .i64 1)), none⟩,
 ⟨some 75, .mov (.t 76), none⟩]) ((.cond (.t 75) (.ops [⟨some 77, .mov (.mv 0), none⟩,
 ⟨some 78, .load false (some 3) ⟨8, true⟩ (.t 3), none⟩,
 ⟨some 79, .call (.f 154) [.mv 77, (.t 78)], none⟩]) ((.seq ((.seq (.ops [⟨some 81, .bin .eql .num (.t 45) (.c (.i .i64 2)), none⟩,
 ⟨some 80, .mov (.t 81), none⟩]) ((.cond (.t 80) (.skip) ((.seq (.ops [⟨some 82, .bin .eql .num (.t 45) (.c (.i .i64 3)), none⟩,
 ⟨some 80, .mov (.t 82), none⟩]) ((.cond (.t 80) (.skip) ((.seq (.ops [⟨some 83, .bin .eql .num (.t 45) (.c (.i .i64 4)), none⟩,
 ⟨some 80, .mov (.t 83), none⟩]) ((.cond (.t 80) (.skip) (.ops [⟨some 84, .bin .eql .num (.t 45) (.c (.i .i64 5)), none⟩,
 ⟨some 80, .mov (.t 84), none⟩]))))))))))))) ((.cond (.t 80) (.ops [⟨some 85, .mov (.mv 0), none⟩,
 ⟨some 86, .load false (some 3) ⟨8, true⟩ (.t 3), none⟩,
 ⟨some 87, .call (.f 155) [.mv 85, (.t 86)], none⟩]) ((.seq (.ops [⟨some 89, .bin .eql .num (.t 45) (.c (.i .i64 6)), none⟩,
 ⟨some 88, .mov (.t 89), none⟩]) ((.cond (.t 88) ((.seq (.ops [⟨some 90, .mov (.mv 0), none⟩,
 ⟨some 91, .load false (some 3) ⟨8, true⟩ (.t 3), none⟩,
 ⟨some 92, .call (.f 156) [.mv 90, (.t 91)], none⟩]) (.ops [⟨some 93, .fieldAddr (.t 3) 1 ⟨4, true⟩, none⟩,
 ⟨some 94, .fieldAddr (.t 93) 0 ⟨1, false⟩, none⟩,
 ⟨some 95, .load false (some 3) ⟨1, false⟩ (.t 94), none⟩,
 ⟨some 96, .bin .neq .num (.t 95) (.c (.i .i64 0)), none⟩,
 ⟨some 97, .call (.f 72) [.t 96], none⟩]))) ((.seq (.ops [⟨some 99, .bin .eql .num (.t 45) (.c (.i .i64 23)), none⟩,
 ⟨some 98, .mov (.t 99), none⟩]) ((.cond (.t 98) ((.seq (.opsD [(⟨some 100, .fieldAddr (.t 3) 7 ⟨1, false⟩, none⟩, true, []), (⟨some 101, .load false (some 3) ⟨1, false⟩ (.t 100), none⟩, true, []), (⟨some 102, .bi .lenL [.t 101], none⟩, true, []), (⟨some 103, .bin .eql .num (.t 102) (.c (.i .i64 1)), none⟩, true, []), (⟨some 104, .mov (.t 103), none⟩, true, []), (⟨some 105, .mov (.t 0), some (104, true)⟩, false, []), (⟨some 106, .nilCheck (.t 105), some (104, true)⟩, false, []), (⟨some 107, .fieldAddr (.t 106) 8 ⟨1, false⟩, some (104, true)⟩, false, []), (⟨some 108, .load false none ⟨1, false⟩ (.t 107), some (104, true)⟩, false, []), (⟨some 109, .fieldAddr (.t 3) 7 ⟨1, false⟩, some (104, true)⟩, false, []), (⟨some 110, .load false (some 3) ⟨1, false⟩ (.t 109), some (104, true)⟩, false, []), (⟨some 111, .indexAddr (.t 110) (.c (.i .i64 0)) 8 none, some (104, true)⟩, false, []), (⟨some 112, .fieldAddr (.t 111) 1 ⟨4, true⟩, some (104, true)⟩, false, []), (⟨some 113, .load false none ⟨4, true⟩ (.t 112), some (104, true)⟩, false, []), (⟨some 114, .fieldAddr (.t 3) 6 ⟨1, false⟩, some (104, true)⟩, false, []), (⟨some 115, .load false (some 3) ⟨1, false⟩ (.t 114), some (104, true)⟩, false, []), (⟨some 116, .call (.f 157) [.t 108, (.t 113), (.t 115)], some (104, true)⟩, true, []), (⟨some 117, .pick (.t 104) (.t 116) (.c (.b false)), none⟩, true, []), (⟨some 118, .mov (.t 117), none⟩, true, []), (⟨some 119, .fieldAddr (.t 3) 1 ⟨4, true⟩, some (118, true)⟩, false, []), (⟨some 120, .load false (some 3) ⟨4, true⟩ (.t 119), some (118, true)⟩, false, []), (⟨some 121, .call (.f 150) [(.c (.i .i64 3))], some (118, true)⟩, true, []), (⟨some 122, .call (.f 75) [.t 120, (.t 121)], some (118, true)⟩, true, []), (⟨some 123, .pick (.t 118) (.t 122) (.c (.b false)), none⟩, true, []), (⟨some 124, .mov (.t 123), none⟩, true, []), (⟨some 125, .load false (some 3) ⟨8, true⟩ (.t 3), some (124, true)⟩, true, []), (⟨some 126, .call (.f 151) [.t 125, (.c (.b false)), (.c (.b true))], some (124, true)⟩, true, []), (⟨some 127, .pick (.t 124) (.t 126) (.c (.b false)), none⟩, true, [])]) (.ops [⟨some 128, .call (.f 72) [.t 127], none⟩]))) ((.seq (.ops [⟨some 130, .bin .eql .num (.t 45) (.c (.i .i64 34)), none⟩,
 ⟨some 129, .mov (.t 130), none⟩]) ((.cond (.t 129) ((.seq (.ops [⟨some 131, .mov (.t 0), none⟩,
 ⟨some 132, .nilCheck (.t 131), none⟩,
 ⟨some 133, .fieldAddr (.t 132) 0 ⟨8, true⟩, none⟩,
 ⟨some 134, .fieldAddr (.t 133) 1 ⟨1, false⟩, none⟩,
 ⟨some 135, .load false none ⟨1, false⟩ (.t 134), none⟩,
 ⟨some 136, .call (.f 84) [.t 135, (.c (.s [73, 110]))], none⟩,
 ⟨some 137, .call (.f 65) [.t 136], none⟩]) ((.seq (.opsD [(⟨some 138, .fieldAddr (.t 3) 7 ⟨1, false⟩, none⟩, true, []), (⟨some 139, .load false (some 3) ⟨1, false⟩ (.t 138), none⟩, true, []), (⟨some 140, .bi .lenL [.t 139], none⟩, true, []), (⟨some 141, .bin .eql .num (.t 140) (.c (.i .i64 0)), none⟩, true, []), (⟨some 142, .mov (.t 141), none⟩, true, []), (⟨some 143, .fieldAddr (.t 3) 1 ⟨4, true⟩, some (142, true)⟩, false, []), (⟨some 144, .load false (some 3) ⟨4, true⟩ (.t 143), some (142, true)⟩, false, []), (⟨some 145, .call (.f 150) [(.c (.i .i64 3))], some (142, true)⟩, true, []), (⟨some 146, .call (.f 75) [.t 144, (.t 145)], some (142, true)⟩, true, []), (⟨some 147, .pick (.t 142) (.t 146) (.c (.b false)), none⟩, true, []), (⟨some 148, .mov (.t 147), none⟩, true, []), (⟨some 149, .load false (some 3) ⟨8, true⟩ (.t 3), some (148, true)⟩, true, []), (⟨some 150, .call (.f 151) [.t 149, (.c (.b false)), (.c (.b false))], some (148, true)⟩, true, []), (⟨some 151, .pick (.t 148) (.t 150) (.c (.b false)), none⟩, true, [])]) (.ops [⟨some 152, .call (.f 72) [.t 151], none⟩]))))) ((.seq (.opsD [(⟨some 47, .mov (.t 0), none⟩, false, [8]), (⟨some 48, .nilCheck (.t 47), none⟩, false, [8]), (⟨some 49, .fieldAddr (.t 48) 8 ⟨1, false⟩, none⟩, false, [8]), (⟨some 50, .load false none ⟨1, false⟩ (.t 49), none⟩, false, [8]), (⟨some 51, .fieldAddr (.t 3) 0 ⟨1, false⟩, none⟩, false, [8]), (⟨some 52, .load false (some 3) ⟨1, false⟩ (.t 51), none⟩, false, [8]), (⟨some 53, .fieldAddr (.t 3) 7 ⟨1, false⟩, none⟩, false, [8]), (⟨some 54, .load false (some 3) ⟨1, false⟩ (.t 53), none⟩, false, [8]), (⟨some 55, .call (.f 158) [.t 50, (.t 52), (.t 54)], none⟩, true, [8]), (⟨some 46, .mov (.t 55), none⟩, false, [8]), (⟨some 56, .extract (.t 46) 0, none⟩, false, [8]), (⟨some 57, .extract (.t 46) 1, none⟩, false, [8]), (⟨some 8, .alloc true [(.i .i64 0), (.i .i64 0), (.s []), .nil], none⟩, false, [8]), (⟨none, .store (some 8) ⟨4, true⟩ (.t 8) (.t 56), none⟩, false, []), (⟨some 9, .mov (.t 57), none⟩, true, [])]) (.ops [⟨some 58, .mov (.t 9), none⟩,
 ⟨some 59, .mov (.t 58), none⟩,
 ⟨some 60, .fieldAddr (.t 3) 1 ⟨4, true⟩, some (59, true)⟩,
 ⟨some 61, .load false (some 3) ⟨4, true⟩ (.t 60), some (59, true)⟩,
 ⟨some 62, .load false (some 8) ⟨4, true⟩ (.t 8), some (59, true)⟩,
 ⟨some 63, .call (.f 75) [.t 61, (.t 62)], some (59, true)⟩,
 ⟨some 64, .pick (.t 59) (.t 63) (.c (.b false)), none⟩,
 ⟨some 65, .mov (.t 64), none⟩,
 ⟨some 66, .load false (some 3) ⟨8, true⟩ (.t 3), some (65, true)⟩,
 ⟨some 67, .call (.f 151) [.t 66, (.c (.b false)), (.c (.b false))], some (65, true)⟩,
 ⟨some 68, .pick (.t 65) (.t 67) (.c (.b false)), none⟩,
 ⟨some 69, .call (.f 72) [.t 68], none⟩]))))))))))))))))))))))))))))))
def qfX : C := (.seq ((.seq (.ops [⟨some 33, .fieldAddr (.t 3) 7 ⟨1, false⟩, none⟩, ⟨some 34, .load false (some 3) ⟨1, false⟩ (.t 33), none⟩, ⟨some 35, .bi .lenL [.t 34], none⟩, ⟨some 36, .mov (.c (.i .i64 0)), none⟩]) ((.block 2 [0, 3] (qfZ))))) (qfP))
def qdn : Fn := ⟨2, [], false, (.seq (.ops [⟨some 3, .box true (.t 1), none⟩]) ((.seq ((.seq (.ops [⟨some 10, .fieldAddr (.t 3) 0 ⟨1, false⟩, none⟩, ⟨some 11, .load false (some 3) ⟨1, false⟩ (.t 10), none⟩, ⟨some 12, .bin .eql .num (.t 11) (.c (.i .i64 24)), none⟩]) ((.cond (.t 12) ((.seq ((.seq (.opsD [(⟨some 13, .fieldAddr (.t 3) 1 ⟨4, true⟩, none⟩, false, []), (⟨some 14, .load false (some 3) ⟨4, true⟩ (.t 13), none⟩, false, []), (⟨some 15, .call (.f 150) [(.c (.i .i64 4))], none⟩, true, []), (⟨some 16, .call (.f 75) [.t 14, (.t 15)], none⟩, true, []), (⟨some 17, .mov (.mv 16), none⟩, true, []), (⟨some 18, .load false (some 3) ⟨8, true⟩ (.t 3), some (17, true)⟩, true, []), (⟨some 19, .call (.f 151) [.t 18, (.c (.b false)), (.c (.b false))], some (17, true)⟩, true, []), (⟨some 20, .pick (.t 17) (.t 19) (.c (.b false)), none⟩, true, [])]) (.ops [⟨some 21, .call (.f 72) [.t 20], none⟩]))) ((.seq ((.seq (.ops [⟨some 22, .fieldAddr (.t 3) 7 ⟨1, false⟩, none⟩, ⟨some 23, .load false (some 3) ⟨1, false⟩ (.t 22), none⟩, ⟨some 24, .bi .lenL [.t 23], none⟩, ⟨some 25, .mov (.c (.i .i64 0)), none⟩]) ((.block 0 [] (qfV))))) (qfK))))) (.skip))))) (qfX)))), none, none⟩
def qhf : Fn := ⟨1, [], false, .ops [⟨some 2, .mov (.mv 0), none⟩, ⟨some 3, .call (.f 21) [.mv 2, (.c (.i .i64 33))], none⟩], none, none⟩
def qh7 : Fn := ⟨2, [.t 4], true, (.seq (.ops [⟨some 2, .box true (.t 0), none⟩, ⟨some 3, .box true (.t 1), none⟩, ⟨some 4, .mov (.c (.b false)), none⟩]) ((.seq (.ops [⟨some 5, .load false (some 2) ⟨4, true⟩ (.t 2), none⟩, ⟨some 6, .build [(.i .i64 0), (.i .i64 0), (.i .i64 0), (.s []), .nil, (.i .i32 0), (.s []), .nil] [(1, 4, (.t 5))], none⟩, ⟨some 7, .load false (some 3) ⟨4, true⟩ (.t 3), none⟩, ⟨some 8, .build [(.i .i64 0), (.i .i64 0), (.i .i64 0), (.s []), .nil, (.i .i32 0), (.s []), .nil] [(1, 4, (.t 7))], none⟩, ⟨some 9, .call (.f 160) [.t 6, (.t 8)], none⟩, ⟨some 4, .mov (.mv 9), none⟩]) (.ret)))), none, none⟩
def qfL : C := (.seq (.ops [⟨some 83, .bin .lss .num (.t 82) (.t 81), none⟩]) ((.seq ((.cond (.t 83) (.skip) (.exit 1))) ((.seq ((.block 2 [0, 4, 80, 81, 82] ((.seq (.ops [⟨some 84, .indexAddr (.t 80) (.t 82) 8 none, none⟩, ⟨some 85, .load false none ⟨8, true⟩ (.t 84), none⟩, ⟨some 6, .alloc true [(.i .i64 0), (.i .i64 0), (.i .i64 0), (.s []), .nil, (.i .i32 0), (.s []), .nil], none⟩, ⟨none, .store (some 6) ⟨8, true⟩ (.t 6) (.t 85), none⟩]) (.ops [⟨some 86, .mov (.t 0), none⟩, ⟨some 87, .load false (some 6) ⟨8, true⟩ (.t 6), none⟩, ⟨some 88, .call (.f 71) [.t 86, (.t 87)], none⟩]))))) (.ops [⟨some 89, .bin .add .num (.t 82) (.c (.i .i64 1)), none⟩, ⟨some 82, .mov (.t 89), none⟩]))))))
def qfW : C := .loop [0, 4, 80, 81, 82] qfL
def qfY : C := .ops [⟨some 90, .mov (.mv 0), none⟩, ⟨some 91, .load false (some 4) ⟨8, true⟩ (.t 4), none⟩, ⟨some 92, .call (.f 156) [.mv 90, (.t 91)], none⟩]
def qdp : Fn := ⟨2, [], false, (.seq (.ops [⟨some 3, .box true (.t 1), none⟩]) ((.seq (.ops [⟨some 7, .fieldAddr (.t 3) 0 ⟨1, false⟩, none⟩,
 ⟨some 8, .load false (some 3) ⟨1, false⟩ (.t 7), none⟩]) ((.block 0 [] ((.seq (.ops [⟨some 13, .bin .eql .num (.t 8) (.c (.i .i64 0)), none⟩,
 ⟨some 12, .mov (.t 13), none⟩]) ((.cond (.t 12) ((.seq (.ops [⟨some 14, .load false (some 3) ⟨4, true⟩ (.t 3), none⟩,
 ⟨some 15, .call (.f 164) [.t 14, (.c (.i .i64 2)), (.c (.i .i64 0)), (.c (.i .i64 0))], none⟩]) ((.seq (.ops [⟨some 16, .mov (.t 0), none⟩,
 ⟨some 17, .fieldAddr (.t 3) 1 ⟨1, false⟩, none⟩,
 ⟨some 18, .load false (some 3) ⟨1, false⟩ (.t 17), none⟩,
 ⟨some 19, .indexAddr (.t 18) (.c (.i .i64 0)) 8 none, none⟩,
 ⟨some 20, .load false none ⟨8, true⟩ (.t 19), none⟩,
 ⟨some 21, .call (.f 71) [.t 16, (.t 20)], none⟩]) ((.seq (.ops [⟨some 22, .mov (.t 0), none⟩,
 ⟨some 23, .fieldAddr (.t 3) 1 ⟨1, false⟩, none⟩,
 ⟨some 24, .load false (some 3) ⟨1, false⟩ (.t 23), none⟩,
 ⟨some 25, .indexAddr (.t 24) (.c (.i .i64 1)) 8 none, none⟩,
 ⟨some 26, .load false none ⟨8, true⟩ (.t 25), none⟩,
 ⟨some 27, .call (.f 71) [.t 22, (.t 26)], none⟩]) ((.seq (.opsD [(⟨some 28, .fieldAddr (.t 3) 1 ⟨1, false⟩, none⟩, true, []), (⟨some 29, .load false (some 3) ⟨1, false⟩ (.t 28), none⟩, true, []), (⟨some 30, .indexAddr (.t 29) (.c (.i .i64 0)) 8 none, none⟩, true, []), (⟨some 31, .load false none ⟨8, true⟩ (.t 30), none⟩, true, []), (⟨some 32, .call (.f 165) [.t 31], none⟩, true, []), (⟨some 33, .mov (.mv 32), none⟩, true, []), (⟨some 34, .mov (.t 0), some (33, true)⟩, false, []), (⟨some 35, .nilCheck (.t 34), some (33, true)⟩, false, []), (⟨some 36, .fieldAddr (.t 35) 8 ⟨1, false⟩, some (33, true)⟩, false, []), (⟨some 37, .load false none ⟨1, false⟩ (.t 36), some (33, true)⟩, false, []), (⟨some 38, .fieldAddr (.t 3) 1 ⟨1, false⟩, some (33, true)⟩, false, []), (⟨some 39, .load false (some 3) ⟨1, false⟩ (.t 38), some (33, true)⟩, false, []), (⟨some 40, .indexAddr (.t 39) (.c (.i .i64 0)) 8 none, some (33, true)⟩, false, []), (⟨some 41, .load false none ⟨8, true⟩ (.t 40), some (33, true)⟩, false, []), (⟨some 42, .call (.f 166) [.t 37, (.t 41)], some (33, true)⟩, true, []), (⟨some 43, .pick (.t 33) (.t 42) (.c (.b false)), none⟩, true, []), (⟨some 44, .mov (.t 43), none⟩, true, []), (⟨some 45, .mov (.t 0), some (44, true)⟩, false, []), (⟨some 46, .nilCheck (.t 45), some (44, true)⟩, false, []), (⟨some 47, .fieldAddr (.t 46) 8 ⟨1, false⟩, some (44, true)⟩, false, []), (⟨some 48, .load false none ⟨1, false⟩ (.t 47), some (44, true)⟩, false, []), (⟨some 49, .fieldAddr (.t 3) 1 ⟨1, false⟩, some (44, true)⟩, false, []), (⟨some 50, .load false (some 3) ⟨1, false⟩ (.t 49), some (44, true)⟩, false, []), (⟨some 51, .indexAddr (.t 50) (.c (.i .i64 0)) 8 none, some (44, true)⟩, false, []), (⟨some 52, .fieldAddr (.t 51) 1 ⟨4, true⟩, some (44, true)⟩, false, []), (⟨some 53, .load false none ⟨4, true⟩ (.t 52), some (44, true)⟩, false, []), (⟨some 54, .fieldAddr (.t 3) 1 ⟨1, false⟩, some (44, true)⟩, false, []), (⟨some 55, .load false (some 3) ⟨1, false⟩ (.t 54), some (44, true)⟩, false, []), (⟨some 56, .indexAddr (.t 55) (.c (.i .i64 1)) 8 none, some (44, true)⟩, false, []), (⟨some 57, .load false none ⟨8, true⟩ (.t 56), some (44, true)⟩, false, []), (⟨some 58, .call (.f 167) [.t 48, (.t 53), (.t 57)], some (44, true)⟩, true, []), (⟨some 59, .pick (.t 44) (.t 58) (.c (.b false)), none⟩, true, [])]) (.ops [⟨some 60, .call (.f 72) [.t 59], none⟩]))))))))) ((.seq (.ops [⟨some 62, .bin .eql .num (.t 8) (.c (.i .i64 1)), none⟩,
 ⟨some 61, .mov (.t 62), none⟩]) ((.cond (.t 61) ((.seq (.ops [⟨some 63, .load false (some 3) ⟨4, true⟩ (.t 3), none⟩,
 ⟨some 64, .call (.f 164) [.t 63, (.c (.i .i64 1)), (.c (.i .i64 0)), (.c (.i .i64 0))], none⟩]) ((.seq (.ops [⟨some 65, .fieldAddr (.t 3) 1 ⟨1, false⟩, none⟩,
 ⟨some 66, .load false (some 3) ⟨1, false⟩ (.t 65), none⟩,
 ⟨some 67, .indexAddr (.t 66) (.c (.i .i64 0)) 8 none, none⟩,
 ⟨some 68, .load false none ⟨8, true⟩ (.t 67), none⟩,
 ⟨some 4, .alloc true [(.i .i64 0), (.i .i64 0), (.i .i64 0), (.s []), .nil, (.i .i32 0), (.s []), .nil], none⟩,
 ⟨none, .store (some 4) ⟨8, true⟩ (.t 4) (.t 68), none⟩]) ((.seq (.ops [⟨some 69, .fieldAddr (.t 4) 0 ⟨1, false⟩, none⟩,
 ⟨some 70, .load false (some 4) ⟨1, false⟩ (.t 69), none⟩,
 ⟨some 71, .bin .eql .num (.t 70) (.c (.i .i64 6)), none⟩,
 ⟨some 72, .mov (.t 71), none⟩,
 ⟨some 73, .fieldAddr (.t 4) 1 ⟨4, true⟩, some (72, true)⟩,
 ⟨some 74, .fieldAddr (.t 73) 0 ⟨1, false⟩, some (72, true)⟩,
 ⟨some 75, .load false (some 4) ⟨1, false⟩ (.t 74), some (72, true)⟩,
 ⟨some 76, .bin .eql .num (.t 75) (.c (.i .i64 0)), some (72, true)⟩,
 ⟨some 77, .pick (.t 72) (.t 76) (.c (.b false)), none⟩,
 ⟨some 78, .call (.f 72) [.t 77], none⟩]) ((.seq ((.seq (.ops [⟨some 79, .fieldAddr (.t 4) 7 ⟨1, false⟩, none⟩,
 ⟨some 80, .load false (some 4) ⟨1, false⟩ (.t 79), none⟩,
 ⟨some 81, .bi .lenL [.t 80], none⟩,
 ⟨some 82, .mov (.c (.i .i64 0)), none⟩]) ((.block 1 [0, 4] (qfW))))) (qfY))))))))) ((.seq (.ops [⟨some 94, .bin .eql .num (.t 8) (.c (.i .i64 2)), none⟩,
 ⟨some 93, .mov (.t 94), none⟩]) ((.cond (.t 93) ((.seq (.ops [⟨some 95, .mov (.mv 0), none⟩,
 ⟨some 96, .load false (some 3) ⟨4, true⟩ (.t 3), none⟩,
 ⟨some 97, .call (.f 168) [.mv 95, (.t 96)], none⟩]) (.ops [⟨some 98, .fieldAddr (.t 3) 2 ⟨1, false⟩, none⟩,
 ⟨some 99, .load false (some 3) ⟨1, false⟩ (.t 98), none⟩,
 ⟨some 100, .bi .lenL [.t 99], none⟩,
 ⟨some 101, .fieldAddr (.t 3) 1 ⟨1, false⟩, none⟩,
 ⟨some 102, .load false (some 3) ⟨1, false⟩ (.t 101), none⟩,
 ⟨some 103, .bi .lenL [.t 102], none⟩,
 ⟨some 104, .bin .eql .num (.t 100) (.t 103), none⟩,
 ⟨some 105, .mov (.t 104), none⟩,
 ⟨some 106, .fieldAddr (.t 3) 2 ⟨1, false⟩, some (105, false)⟩,
 ⟨some 107, .load false (some 3) ⟨1, false⟩ (.t 106), some (105, false)⟩,
 ⟨some 108, .bi .lenL [.t 107], some (105, false)⟩,
 ⟨some 109, .fieldAddr (.t 3) 1 ⟨1, false⟩, some (105, false)⟩,
 ⟨some 110, .load false (some 3) ⟨1, false⟩ (.t 109), some (105, false)⟩,
 ⟨some 111, .bi .lenL [.t 110], some (105, false)⟩,
 ⟨some 112, .bin .add .num (.t 111) (.c (.i .i64 1)), some (105, false)⟩,
 ⟨some 113, .bin .eql .num (.t 108) (.t 112), some (105, false)⟩,
 ⟨some 114, .pick (.t 105) (.c (.b true)) (.t 113), none⟩,
 ⟨some 115, .mov (.t 114), none⟩,
 ⟨some 116, .fieldAddr (.t 3) 3 ⟨1, false⟩, some (115, true)⟩,
 ⟨some 117, .load false (some 3) ⟨1, false⟩ (.t 116), some (115, true)⟩,
 ⟨some 118, .bi .lenL [.t 117], some (115, true)⟩,
 ⟨some 119, .bin .eql .num (.t 118) (.c (.i .i64 0)), some (115, true)⟩,
 ⟨some 120, .pick (.t 115) (.t 119) (.c (.b false)), none⟩,
 ⟨some 121, .call (.f 72) [.t 120], none⟩]))) ((.seq (.ops [⟨some 123, .bin .eql .num (.t 8) (.c (.i .i64 3)), none⟩,
 ⟨some 122, .mov (.t 123), none⟩]) ((.cond (.t 122) ((.seq (.ops [⟨some 124, .mov (.mv 0), none⟩,
 ⟨some 125, .load false (some 3) ⟨4, true⟩ (.t 3), none⟩,
 ⟨some 126, .call (.f 168) [.mv 124, (.t 125)], none⟩]) (.ops [⟨some 127, .load false (some 3) ⟨4, true⟩ (.t 3), none⟩,
 ⟨some 128, .fieldAddr (.t 3) 1 ⟨1, false⟩, none⟩,
 ⟨some 129, .load false (some 3) ⟨1, false⟩ (.t 128), none⟩,
 ⟨some 130, .bi .lenL [.t 129], none⟩,
 ⟨some 131, .fieldAddr (.t 3) 1 ⟨1, false⟩, none⟩,
 ⟨some 132, .load false (some 3) ⟨1, false⟩ (.t 131), none⟩,
 ⟨some 133, .bi .lenL [.t 132], none⟩,
 ⟨some 134, .call (.f 164) [.t 127, (.t 130), (.t 133), (.c (.i .i64 0))], none⟩]))) ((.seq (.ops [⟨some 136, .bin .eql .num (.t 8) (.c (.i .i64 4)), none⟩,
 ⟨some 135, .mov (.t 136), none⟩]) ((.cond (.t 135) ((.seq (.ops [⟨some 137, .load false (some 3) ⟨4, true⟩ (.t 3), none⟩,
 ⟨some 138, .call (.f 164) [.t 137, (.c (.i .i64 1)), (.c (.i .i64 1)), (.c (.i .i64 0))], none⟩]) (.ops [⟨some 139, .mov (.mv 0), none⟩,
 ⟨some 140, .load false (some 3) ⟨4, true⟩ (.t 3), none⟩,
 ⟨some 141, .call (.f 168) [.mv 139, (.t 140)], none⟩]))) ((.seq (.ops [⟨some 143, .bin .eql .num (.t 8) (.c (.i .i64 5)), none⟩,
 ⟨some 142, .mov (.t 143), none⟩]) ((.cond (.t 142) (.ops [⟨some 144, .mov (.mv 0), none⟩,
 ⟨some 145, .load false (some 3) ⟨4, true⟩ (.t 3), none⟩,
 ⟨some 146, .call (.f 169) [.mv 144, (.t 145)], none⟩]) ((.seq (.ops [⟨some 148, .bin .eql .num (.t 8) (.c (.i .i64 6)), none⟩,
 ⟨some 147, .mov (.t 148), none⟩]) ((.cond (.t 147) (.ops [⟨some 149, .mov (.mv 0), none⟩,
 ⟨some 150, .load false (some 3) ⟨4, true⟩ (.t 3), none⟩,
 ⟨some 151, .call (.f 170) [.mv 149, (.t 150)], none⟩]) (.ops [⟨some 9, .mov (.mv 0), none⟩,
 ⟨some 10, .load false (some 3) ⟨4, true⟩ (.t 3), none⟩,
 ⟨some 11, .call (.f 171) [.mv 9, (.t 10)], none⟩])))))))))))))))))))))))))))))))))), none, none⟩
def f_scan_All_1 : Fn := ⟨2, [], false, (.seq (.ops [⟨some 2, .mov (.t 5), none⟩]) ((.seq (.ops [⟨some 6, .mov (.t 2), none⟩, ⟨some 7, .bin .neq .iface (.t 6) (.c .ni), none⟩]) ((.cond (.t 7) ((.seq (.ops [⟨some 9, .mov (.t 2), none⟩, ⟨some 10, .assertOk 157 (.agg [(.i .i64 0), (.i .i64 0)]) (.t 9), none⟩, ⟨some 8, .mov (.t 10), none⟩, ⟨some 11, .extract (.t 8) 0, none⟩, ⟨some 12, .extract (.t 8) 1, none⟩, ⟨some 3, .alloc true [(.i .i64 0), (.i .i64 0)], none⟩, ⟨none, .store (some 3) ⟨2, true⟩ (.t 3) (.t 11), none⟩, ⟨some 4, .mov (.t 12), none⟩]) ((.seq ((.seq (.ops [⟨some 13, .mov (.t 4), none⟩, ⟨some 14, .un .not (.t 13), none⟩]) ((.cond (.t 14) (.ops [⟨some 15, .mov (.t 2), none⟩, ⟨none, .panic (.t 15), none⟩]) (.skip))))) (.opsD [(⟨some 16, .fieldAddr (.t 3) 0 ⟨2, true⟩, none⟩, false, []), (⟨some 17, .load false (some 3) ⟨2, true⟩ (.t 16), none⟩, false, []), (⟨some 18, .buildSlice (.agg [(.i .i64 0), (.i .i64 0)]) 1 [(0, (.t 17))], none⟩, false, []), (⟨none, .store none ⟨1, false⟩ (.t 0) (.c .nil), none⟩, true, []), (⟨none, .store none ⟨1, false⟩ (.t 1) (.mv 18), none⟩, true, [])]))))) (.skip)))))), none, (some 5)⟩
def f_scan_scanner_next : Fn := ⟨1, [(.cell 2 ⟨5, true⟩)], true, (.seq (.ops [⟨some 2, .alloc true [(.i .i64 0), (.i .i64 0), (.i .i64 0), (.s []), (.i .i32 0)], none⟩]) ((.seq (.ops [⟨some 5, .mov (.t 0), none⟩,
 ⟨some 6, .call (.f 173) [.t 5], none⟩]) ((.seq (.ops [⟨some 7, .mov (.t 0), none⟩,
 ⟨some 8, .nilCheck (.t 7), none⟩,
 ⟨some 9, .fieldAddr (.t 8) 1 ⟨1, false⟩, none⟩,
 ⟨some 10, .load false none ⟨1, false⟩ (.t 9), none⟩,
 ⟨some 3, .mov (.t 10), none⟩]) ((.seq (.ops [⟨some 4, .alloc true [(.i .i64 0), (.i .i64 0), (.i .i64 0), (.s []), (.i .i32 0)], none⟩]) ((.seq ((.block 0 [0, 2, 3, 4] ((.seq (.opsD [(⟨some 14, .mov (.t 0), none⟩, false, []), (⟨some 15, .nilCheck (.t 14), none⟩, false, []), (⟨some 16, .fieldAddr (.t 15) 1 ⟨1, false⟩, none⟩, false, []), (⟨some 17, .load false none ⟨1, false⟩ (.t 16), none⟩, false, []), (⟨some 18, .mov (.t 0), none⟩, false, []), (⟨some 19, .nilCheck (.t 18), none⟩, false, []), (⟨some 20, .fieldAddr (.t 19) 0 ⟨1, false⟩, none⟩, false, []), (⟨some 21, .load false none ⟨1, false⟩ (.t 20), none⟩, false, []), (⟨some 22, .bi .lenS [.t 21], none⟩, false, []), (⟨some 23, .bin .eql .num (.t 17) (.t 22), none⟩, true, []), (⟨some 13, .mov (.t 23), none⟩, true, [])]) ((.cond (.t 13) (.ops [⟨some 24, .build [(.i .i64 0), (.i .i64 0), (.i .i64 0), (.s []), (.i .i32 0)] [(0, 1, (.c (.i .i64 0)))], none⟩,
 ⟨none, .store (some 4) ⟨5, true⟩ (.t 4) (.t 24), none⟩]) ((.seq (.opsD [(⟨some 26, .mov (.t 0), none⟩, false, []), (⟨some 27, .nilCheck (.t 26), none⟩, false, []), (⟨some 28, .fieldAddr (.t 27) 0 ⟨1, false⟩, none⟩, false, []), (⟨some 29, .load false none ⟨1, false⟩ (.t 28), none⟩, false, []), (⟨some 30, .mov (.t 0), none⟩, false, []), (⟨some 31, .nilCheck (.t 30), none⟩, false, []), (⟨some 32, .fieldAddr (.t 31) 1 ⟨1, false⟩, none⟩, false, []), (⟨some 33, .load false none ⟨1, false⟩ (.t 32), none⟩, false, []), (⟨some 34, .index (.t 29) (.t 33), none⟩, true, []), (⟨some 35, .call (.f 174) [.t 34], none⟩, true, []), (⟨some 25, .mov (.mv 35), none⟩, true, [])]) ((.cond (.t 25) (.ops [⟨some 36, .mov (.t 0), none⟩,
 ⟨some 37, .call (.f 175) [.t 36], none⟩,
 ⟨none, .store (some 4) ⟨5, true⟩ (.t 4) (.mv 37), none⟩]) ((.seq (.opsD [(⟨some 39, .mov (.t 0), none⟩, false, []), (⟨some 40, .nilCheck (.t 39), none⟩, false, []), (⟨some 41, .fieldAddr (.t 40) 0 ⟨1, false⟩, none⟩, false, []), (⟨some 42, .load false none ⟨1, false⟩ (.t 41), none⟩, false, []), (⟨some 43, .mov (.t 0), none⟩, false, []), (⟨some 44, .nilCheck (.t 43), none⟩, false, []), (⟨some 45, .fieldAddr (.t 44) 1 ⟨1, false⟩, none⟩, false, []), (⟨some 46, .load false none ⟨1, false⟩ (.t 45), none⟩, false, []), (⟨some 47, .index (.t 42) (.t 46), none⟩, true, []), (⟨some 48, .call (.f 176) [.t 47], none⟩, true, []), (⟨some 38, .mov (.mv 48), none⟩, true, [])]) ((.cond (.t 38) (.ops [⟨some 49, .mov (.t 0), none⟩,
 ⟨some 50, .call (.f 177) [.t 49], none⟩,
 ⟨none, .store (some 4) ⟨5, true⟩ (.t 4) (.mv 50), none⟩]) ((.seq (.ops [⟨some 52, .mov (.t 0), none⟩,
 ⟨some 53, .call (.f 178) [.t 52, (.c (.s [34]))], none⟩,
 ⟨some 51, .mov (.mv 53), none⟩]) ((.cond (.t 51) (.ops [⟨some 54, .mov (.t 0), none⟩,
 ⟨some 55, .call (.f 179) [.t 54], none⟩,
 ⟨none, .store (some 4) ⟨5, true⟩ (.t 4) (.mv 55), none⟩]) (.ops [⟨some 11, .mov (.t 0), none⟩,
 ⟨some 12, .call (.f 180) [.t 11], none⟩,
 ⟨none, .store (some 4) ⟨5, true⟩ (.t 4) (.mv 12), none⟩]))))))))))))))))))) ((.seq (.opsD [(⟨some 56, .mov (.t 3), none⟩, false, []), (⟨some 57, .mov (.t 0), none⟩, false, []), (⟨some 58, .nilCheck (.t 57), none⟩, false, []), (⟨some 59, .fieldAddr (.t 58) 1 ⟨1, false⟩, none⟩, false, []), (⟨some 60, .load false none ⟨1, false⟩ (.t 59), none⟩, false, []), (⟨some 61, .fieldAddr (.t 4) 1 ⟨1, false⟩, none⟩, false, []), (⟨none, .store (some 4) ⟨1, false⟩ (.t 61) (.t 56), none⟩, false, []), (⟨some 62, .fieldAddr (.t 4) 2 ⟨1, false⟩, none⟩, true, []), (⟨none, .store (some 4) ⟨1, false⟩ (.t 62) (.t 60), none⟩, true, [])]) ((.seq (.ops [⟨some 63, .load false (some 4) ⟨5, true⟩ (.t 4), none⟩,
 ⟨none, .store (some 2) ⟨5, true⟩ (.t 2) (.t 63), none⟩]) (.ret)))))))))))))), none, none⟩
def kU : Fn := ⟨2, [.t 4], true, (.seq (.ops [⟨some 4, .mov (.c (.b false)), none⟩]) ((.seq (.ops [⟨some 5, .mov (.mv 0), none⟩, ⟨some 6, .mov (.mv 1), none⟩, ⟨some 7, .call (.f 181) [.mv 5, (.mv 6)], none⟩, ⟨some 8, .bin .geq .num (.t 7) (.c (.i .i64 0)), none⟩, ⟨some 4, .mov (.t 8), none⟩]) (.ret)))), none, none⟩
def qeB : C := (.seq ((.seq (.ops [⟨some 13, .mov (.t 6), none⟩, ⟨some 14, .mov (.t 0), none⟩, ⟨some 15, .bi .lenS [.t 14], none⟩, ⟨some 16, .bin .lss .num (.t 13) (.t 15), none⟩]) ((.cond (.t 16) (.skip) (.exit 0))))) ((.seq ((.block 1 [0, 3, 4, 5, 6] ((.seq (.ops [⟨some 19, .mov (.t 0), none⟩, ⟨some 20, .mov (.t 6), none⟩, ⟨some 21, .index (.t 19) (.t 20), none⟩, ⟨some 7, .mov (.t 21), none⟩]) ((.seq (.ops [⟨some 22, .mov (.t 5), none⟩, ⟨some 23, .mov (.t 7), none⟩, ⟨some 24, .bin .or .num (.t 22) (.t 23), none⟩, ⟨some 5, .mov (.t 24), none⟩]) ((.seq (.ops [⟨some 25, .mov (.t 7), none⟩, ⟨some 26, .indexAddr (.g 0 (glD 0)) (.t 25) 1 (some 256), none⟩, ⟨some 27, .load false none ⟨1, false⟩ (.t 26), none⟩, ⟨some 28, .conv .i64 (.t 27), none⟩, ⟨some 8, .mov (.mv 28), none⟩]) ((.seq (.ops [⟨some 29, .mov (.t 3), none⟩, ⟨some 30, .mov (.t 4), none⟩, ⟨some 31, .mov (.t 8), none⟩, ⟨some 32, .un .xor (.t 31), none⟩, ⟨some 33, .bin .and .num (.t 30) (.t 32), none⟩, ⟨some 34, .bin .add .num (.t 29) (.t 33), none⟩, ⟨some 3, .mov (.t 34), none⟩]) (.ops [⟨some 35, .mov (.t 8), none⟩, ⟨some 4, .mov (.t 35), none⟩]))))))))))) (.ops [⟨some 17, .mov (.t 6), none⟩, ⟨some 18, .bin .add .num (.t 17) (.c (.i .i64 1)), none⟩, ⟨some 6, .mov (.t 18), none⟩]))))
def qah : C := .loop [0, 3, 4, 5, 6] qeB
noncomputable def qcA (pg : Pg) (v0 v3 v4 v5 v6 : V) (H : List Obj) (lo : Nat) : Option (Ex × St) := exL pg qah ⟨[(0, v0), (3, v3), (4, v4), (5, v5), (6, v6)], H, lo⟩
theorem qpQ {pg : Pg} {e : Env} {H : List Obj} {lo : Nat} : exL pg qah ⟨e, H, lo⟩ = qcA pg (qM (get 0 e)) (qM (get 3 e)) (qM (get 4 e)) (qM (get 5 e)) (qM (get 6 e)) H lo := qcn
theorem qoX {pg : Pg} {v0 v3 v4 v5 v6 : V} {H : List Obj} {lo : Nat} : qcA pg v0 v3 v4 v5 v6 H lo = y6 pg (exL pg qeB ⟨[(0, qM v0), (3, qM v3), (4, qM v4), (5, qM v5), (6, qM v6)], H, lo⟩) qah := by
  unfold qcA qah; rw [qaA]; simp only [qg, qm, qz, qC, Nat.reduceEqDiff]
def qeC : C := (.seq ((.seq (.ops [⟨some 42, .mov (.t 12), none⟩, ⟨some 43, .mov (.t 0), none⟩, ⟨some 44, .bi .lenS [.t 43], none⟩, ⟨some 45, .bin .lss .num (.t 42) (.t 44), none⟩, ⟨some 46, .mov (.t 45), none⟩, ⟨some 47, .mov (.t 0), some (46, true)⟩, ⟨some 48, .mov (.t 12), some (46, true)⟩, ⟨some 49, .index (.t 47) (.t 48), some (46, true)⟩, ⟨some 50, .indexAddr (.g 0 (glD 0)) (.t 49) 1 (some 256), some (46, true)⟩, ⟨some 51, .load false none ⟨1, false⟩ (.t 50), some (46, true)⟩, ⟨some 52, .bin .neq .num (.t 51) (.c (.i .u8 0)), some (46, true)⟩, ⟨some 53, .pick (.t 46) (.t 52) (.c (.b false)), none⟩]) ((.cond (.t 53) (.skip) (.exit 2))))) ((.block 3 [0, 9, 10, 12] (.ops [⟨some 54, .mov (.t 12), none⟩, ⟨some 55, .bin .add .num (.t 54) (.c (.i .i64 1)), none⟩, ⟨some 12, .mov (.t 55), none⟩]))))
def qaj : C := .loop [0, 9, 10, 12] qeC
noncomputable def qcz (pg : Pg) (v0 v9 v10 v12 : V) (H : List Obj) (lo : Nat) : Option (Ex × St) := exL pg qaj ⟨[(0, v0), (9, v9), (10, v10), (12, v12)], H, lo⟩
theorem qoV {pg : Pg} {e : Env} {H : List Obj} {lo : Nat} : exL pg qaj ⟨e, H, lo⟩ = qcz pg (qM (get 0 e)) (qM (get 9 e)) (qM (get 10 e)) (qM (get 12 e)) H lo := qcn
theorem qpW {pg : Pg} {v0 v9 v10 v12 : V} {H : List Obj} {lo : Nat} : qcz pg v0 v9 v10 v12 H lo = y6 pg (exL pg qeC ⟨[(0, qM v0), (9, qM v9), (10, qM v10), (12, qM v12)], H, lo⟩) qaj := by
  unfold qcz qaj; rw [qaA]; simp only [qg, qm, qz, qC, Nat.reduceEqDiff]
def qez : C := (.seq ((.seq (.ops [⟨some 80, .mov (.t 12), none⟩, ⟨some 81, .mov (.t 0), none⟩, ⟨some 82, .bi .lenS [.t 81], none⟩, ⟨some 83, .bin .lss .num (.t 80) (.t 82), none⟩, ⟨some 84, .mov (.t 83), none⟩, ⟨some 85, .mov (.t 0), some (84, true)⟩, ⟨some 86, .mov (.t 12), some (84, true)⟩, ⟨some 87, .index (.t 85) (.t 86), some (84, true)⟩, ⟨some 88, .indexAddr (.g 0 (glD 0)) (.t 87) 1 (some 256), some (84, true)⟩, ⟨some 89, .load false none ⟨1, false⟩ (.t 88), some (84, true)⟩, ⟨some 90, .bin .neq .num (.t 89) (.c (.i .u8 0)), some (84, true)⟩, ⟨some 91, .pick (.t 84) (.t 90) (.c (.b false)), none⟩]) ((.cond (.t 91) (.skip) (.exit 6))))) ((.block 7 [0, 9, 10, 12] (.ops [⟨some 92, .mov (.t 12), none⟩, ⟨some 93, .bin .add .num (.t 92) (.c (.i .i64 1)), none⟩, ⟨some 12, .mov (.t 93), none⟩]))))
def qal : C := .loop [0, 9, 10, 12] qez
noncomputable def qcv (pg : Pg) (v0 v9 v10 v12 : V) (H : List Obj) (lo : Nat) : Option (Ex × St) := exL pg qal ⟨[(0, v0), (9, v9), (10, v10), (12, v12)], H, lo⟩
theorem qpm {pg : Pg} {e : Env} {H : List Obj} {lo : Nat} : exL pg qal ⟨e, H, lo⟩ = qcv pg (qM (get 0 e)) (qM (get 9 e)) (qM (get 10 e)) (qM (get 12 e)) H lo := qcn
theorem qpP {pg : Pg} {v0 v9 v10 v12 : V} {H : List Obj} {lo : Nat} : qcv pg v0 v9 v10 v12 H lo = y6 pg (exL pg qez ⟨[(0, qM v0), (9, qM v9), (10, qM v10), (12, qM v12)], H, lo⟩) qal := by
  unfold qcv qal; rw [qaA]; simp only [qg, qm, qz, qC, Nat.reduceEqDiff]
def qiB : C := .ops [⟨some 94, .mov (.t 12), none⟩, ⟨some 11, .mov (.t 94), none⟩]
def qeF : C := (.seq ((.seq (.ops [⟨some 57, .mov (.t 12), none⟩, ⟨some 58, .mov (.t 0), none⟩, ⟨some 59, .bi .lenS [.t 58], none⟩, ⟨some 60, .bin .lss .num (.t 57) (.t 59), none⟩]) ((.cond (.t 60) (.skip) (.exit 4))))) ((.block 5 [0, 9, 10, 11, 12] ((.seq ((.seq (.ops [⟨some 61, .mov (.t 0), none⟩, ⟨some 62, .mov (.t 12), none⟩, ⟨some 63, .index (.t 61) (.t 62), none⟩, ⟨some 64, .indexAddr (.g 0 (glD 0)) (.t 63) 1 (some 256), none⟩, ⟨some 65, .load false none ⟨1, false⟩ (.t 64), none⟩, ⟨some 66, .bin .eql .num (.t 65) (.c (.i .u8 0)), none⟩]) ((.cond (.t 66) ((.seq (.ops [⟨some 67, .mov (.t 12), none⟩, ⟨some 68, .bin .add .num (.t 67) (.c (.i .i64 1)), none⟩, ⟨some 12, .mov (.t 68), none⟩]) (.exit 5))) (.skip))))) ((.seq (.ops [⟨some 69, .mov (.t 9), none⟩, ⟨some 70, .mov (.t 10), none⟩, ⟨some 71, .mov (.t 0), none⟩, ⟨some 72, .mov (.t 11), none⟩, ⟨some 73, .mov (.t 12), none⟩, ⟨some 74, .sliceS (.t 71) (some (.t 72)) (some (.t 73)), none⟩, ⟨some 75, .indexAddr (.t 69) (.t 70) 1 none, none⟩, ⟨none, .store none ⟨1, false⟩ (.t 75) (.t 74), none⟩]) ((.seq (.ops [⟨some 76, .mov (.t 10), none⟩, ⟨some 77, .bin .add .num (.t 76) (.c (.i .i64 1)), none⟩, ⟨some 10, .mov (.t 77), none⟩]) ((.seq (.ops [⟨some 78, .mov (.t 12), none⟩, ⟨some 79, .bin .add .num (.t 78) (.c (.i .i64 1)), none⟩, ⟨some 12, .mov (.t 79), none⟩]) ((.seq ((.block 6 [0, 9, 10, 12] (qal))) (qiB))))))))))))))
def qag : C := .loop [0, 9, 10, 11, 12] qeF
noncomputable def qcB (pg : Pg) (v0 v9 v10 v11 v12 : V) (H : List Obj) (lo : Nat) : Option (Ex × St) := exL pg qag ⟨[(0, v0), (9, v9), (10, v10), (11, v11), (12, v12)], H, lo⟩
theorem qoZ {pg : Pg} {e : Env} {H : List Obj} {lo : Nat} : exL pg qag ⟨e, H, lo⟩ = qcB pg (qM (get 0 e)) (qM (get 9 e)) (qM (get 10 e)) (qM (get 11 e)) (qM (get 12 e)) H lo := qcn
theorem qpt {pg : Pg} {v0 v9 v10 v11 v12 : V} {H : List Obj} {lo : Nat} : qcB pg v0 v9 v10 v11 v12 H lo = y6 pg (exL pg qeF ⟨[(0, qM v0), (9, qM v9), (10, qM v10), (11, qM v11), (12, qM v12)], H, lo⟩) qag := by
  unfold qcB qag; rw [qaA]; simp only [qg, qm, qz, qC, Nat.reduceEqDiff]
def qiF : C := (.seq ((.seq (.ops [⟨some 95, .mov (.t 11), none⟩, ⟨some 96, .mov (.t 0), none⟩, ⟨some 97, .bi .lenS [.t 96], none⟩, ⟨some 98, .bin .lss .num (.t 95) (.t 97), none⟩]) ((.cond (.t 98) (.ops [⟨some 99, .mov (.t 9), none⟩, ⟨some 100, .mov (.t 10), none⟩, ⟨some 101, .mov (.t 0), none⟩, ⟨some 102, .mov (.t 11), none⟩, ⟨some 103, .sliceS (.t 101) (some (.t 102)) none, none⟩, ⟨some 104, .indexAddr (.t 99) (.t 100) 1 none, none⟩, ⟨none, .store none ⟨1, false⟩ (.t 104) (.t 103), none⟩]) (.skip))))) ((.seq (.ops [⟨some 105, .mov (.t 9), none⟩, ⟨some 2, .mov (.t 105), none⟩]) (.ret))))
def qiA : C := (.seq (.ops [⟨some 56, .mov (.t 12), none⟩, ⟨some 11, .mov (.t 56), none⟩]) ((.seq ((.block 4 [0, 9, 10, 11] (qag))) (qiF))))
def qiC : C := (.seq ((.seq (.ops [⟨some 36, .mov (.t 5), none⟩, ⟨some 37, .bin .geq .num (.t 36) (.c (.i .u8 128)), none⟩]) ((.cond (.t 37) ((.seq (.ops [⟨some 38, .mov (.mv 0), none⟩, ⟨some 39, .call (.f 182) [.mv 38, (.f 183)], none⟩, ⟨some 2, .mov (.mv 39), none⟩]) (.ret))) (.skip))))) ((.seq (.ops [⟨some 40, .mov (.t 3), none⟩, ⟨some 41, .mkSlice (.s []) (.t 40) (.t 40), none⟩, ⟨some 9, .mov (.mv 41), none⟩]) ((.seq (.ops [⟨some 10, .mov (.c (.i .i64 0)), none⟩]) ((.seq (.ops [⟨some 11, .mov (.c (.i .i64 0)), none⟩]) ((.seq (.ops [⟨some 12, .mov (.c (.i .i64 0)), none⟩]) ((.seq ((.block 2 [0, 9, 10, 12] (qaj))) (qiA))))))))))))
def qgF : Fn := ⟨1, [.t 2], true, (.seq (.ops [⟨some 2, .mov (.c .nil), none⟩]) ((.seq (.ops [⟨some 3, .mov (.c (.i .i64 0)), none⟩]) ((.seq (.ops [⟨some 4, .mov (.c (.i .i64 1)), none⟩]) ((.seq (.ops [⟨some 5, .mov (.c (.i .u8 0)), none⟩]) ((.seq ((.seq (.ops [⟨some 6, .mov (.c (.i .i64 0)), none⟩]) ((.block 0 [0, 3, 5] (qah))))) (qiC)))))))))), none, none⟩
def qaG : Fn := ⟨0, [.t 0], true, (.seq (.ops [⟨some 0, .mov (.c .nil), none⟩]) ((.seq (.ops [⟨some 1, .buildSlice (.s []) 33 [(0, (.c (.s [65, 82, 82, 65, 89]))), (1, (.c (.s [66, 69, 71, 73, 78]))), (2, (.c (.s [66, 89]))), (3, (.c (.s [67, 65, 83, 69]))), (4, (.c (.s [67, 79, 78, 83, 84]))), (5, (.c (.s [68, 73, 86]))), (6, (.c (.s [68, 79]))), (7, (.c (.s [69, 76, 83, 69]))), (8, (.c (.s [69, 76, 83, 73, 70]))), (9, (.c (.s [69, 78, 68]))), (10, (.c (.s [70, 65, 76, 83, 69]))), (11, (.c (.s [70, 79, 82]))), (12, (.c (.s [73, 70]))), (13, (.c (.s [73, 77, 80, 79, 82, 84]))), (14, (.c (.s [73, 78]))), (15, (.c (.s [73, 83]))), (16, (.c (.s [77, 79, 68]))), (17, (.c (.s [77, 79, 68, 85, 76, 69]))), (18, (.c (.s [78, 73, 76]))), (19, (.c (.s [79, 70]))), (20, (.c (.s [79, 82]))), (21, (.c (.s [80, 79, 73, 78, 84, 69, 82]))), (22, (.c (.s [80, 82, 79, 67, 69, 68, 85, 82, 69]))), (23, (.c (.s [82, 69, 67, 79, 82, 68]))), (24, (.c (.s [82, 69, 80, 69, 65, 84]))), (25, (.c (.s [82, 69, 84, 85, 82, 78]))), (26, (.c (.s [84, 72, 69, 78]))), (27, (.c (.s [84, 79]))), (28, (.c (.s [84, 82, 85, 69]))), (29, (.c (.s [84, 89, 80, 69]))), (30, (.c (.s [85, 78, 84, 73, 76]))), (31, (.c (.s [86, 65, 82]))), (32, (.c (.s [87, 72, 73, 76, 69])))], none⟩, ⟨some 0, .mov (.mv 1), none⟩]) (.ret)))), none, none⟩
def yn : Fn := ⟨2, [.t 4], true, (.seq (.ops [⟨some 4, .mov (.c (.b false)), none⟩]) ((.seq (.ops [⟨some 5, .mov (.mv 0), none⟩, ⟨some 6, .mov (.mv 1), none⟩, ⟨some 7, .call (.f 230) [.mv 5, (.mv 6)], none⟩, ⟨some 8, .bin .geq .num (.t 7) (.c (.i .i64 0)), none⟩, ⟨some 4, .mov (.t 8), none⟩]) (.ret)))), none, none⟩
def qfk : Fn := ⟨1, [.t 2], true, (.seq (.ops [⟨some 1, .box true (.t 0), none⟩, ⟨some 2, .mov (.c (.b false)), none⟩]) ((.seq (.ops [⟨some 3, .fieldAddr (.t 1) 0 ⟨1, false⟩, none⟩, ⟨some 4, .load false (some 1) ⟨1, false⟩ (.t 3), none⟩, ⟨some 5, .call (.f 50) [.t 4], none⟩, ⟨some 6, .un .not (.t 5), none⟩, ⟨some 7, .mov (.t 6), none⟩, ⟨some 8, .fieldAddr (.t 1) 2 ⟨4, true⟩, some (7, false)⟩, ⟨some 9, .load false (some 1) ⟨4, true⟩ (.t 8), some (7, false)⟩, ⟨some 10, .call (.f 127) [.t 9, (.c (.i .i64 8))], some (7, false)⟩, ⟨some 11, .un .not (.t 10), some (7, false)⟩, ⟨some 12, .pick (.t 7) (.c (.b true)) (.t 11), none⟩, ⟨some 2, .mov (.t 12), none⟩]) (.ret)))), none, none⟩
def qgq : Fn := ⟨2, [.t 4], true, (.seq (.ops [⟨some 2, .box true (.t 0), none⟩, ⟨some 3, .box false (.t 1), none⟩, ⟨some 4, .mov (.c (.b false)), none⟩]) ((.seq (.ops [⟨some 5, .load false none ⟨1, false⟩ (.t 3), none⟩, ⟨some 6, .bin .gtr .num (.t 5) (.c (.i .i64 0)), none⟩, ⟨some 7, .mov (.t 6), none⟩, ⟨some 8, .fieldAddr (.t 2) 2 ⟨1, false⟩, some (7, true)⟩, ⟨some 9, .load false (some 2) ⟨1, false⟩ (.t 8), some (7, true)⟩, ⟨some 10, .call (.f 50) [.t 9], some (7, true)⟩, ⟨some 11, .pick (.t 7) (.t 10) (.c (.b false)), none⟩, ⟨some 12, .mov (.t 11), none⟩, ⟨some 13, .fieldAddr (.t 2) 3 ⟨1, false⟩, some (12, true)⟩, ⟨some 14, .load false (some 2) ⟨1, false⟩ (.t 13), some (12, true)⟩, ⟨some 15, .bi .lenL [.t 14], some (12, true)⟩, ⟨some 16, .call (.f 49) [.t 15], some (12, true)⟩, ⟨some 17, .pick (.t 12) (.t 16) (.c (.b false)), none⟩, ⟨some 18, .mov (.t 17), none⟩, ⟨some 19, .fieldAddr (.t 2) 3 ⟨1, false⟩, some (18, true)⟩, ⟨some 20, .load false (some 2) ⟨1, false⟩ (.t 19), some (18, true)⟩, ⟨some 21, .mkFn 232 [] [.t 3], some (18, true)⟩, ⟨some 22, .call (.f 231) [.t 20, (.t 21)], some (18, true)⟩, ⟨some 23, .un .not (.t 22), some (18, true)⟩, ⟨some 24, .pick (.t 18) (.t 23) (.c (.b false)), none⟩, ⟨some 4, .mov (.t 24), none⟩]) (.ret)))), none, none⟩
def j2 : Fn := ⟨2, [.t 4], true, (.seq (.ops [⟨some 4, .mov (.c (.b false)), none⟩]) ((.seq (.ops [⟨some 5, .mov (.mv 0), none⟩, ⟨some 6, .mov (.mv 1), none⟩, ⟨some 7, .call (.f 233) [.mv 5, (.mv 6)], none⟩, ⟨some 8, .bin .geq .num (.t 7) (.c (.i .i64 0)), none⟩, ⟨some 4, .mov (.t 8), none⟩]) (.ret)))), none, none⟩
def qfc : Fn := ⟨1, [.t 2], true, (.seq (.ops [⟨some 1, .box true (.t 0), none⟩, ⟨some 2, .mov (.c (.b false)), none⟩]) ((.seq (.ops [⟨some 3, .load false (some 1) ⟨8, true⟩ (.t 1), none⟩, ⟨some 4, .call (.f 58) [.t 3], none⟩, ⟨some 5, .un .not (.t 4), none⟩, ⟨some 2, .mov (.t 5), none⟩]) (.ret)))), none, none⟩
def jH : Fn := ⟨2, [.t 4], true, (.seq (.ops [⟨some 4, .mov (.c (.b false)), none⟩]) ((.seq (.ops [⟨some 5, .mov (.mv 0), none⟩, ⟨some 6, .mov (.mv 1), none⟩, ⟨some 7, .call (.f 234) [.mv 5, (.mv 6)], none⟩, ⟨some 8, .bin .geq .num (.t 7) (.c (.i .i64 0)), none⟩, ⟨some 4, .mov (.t 8), none⟩]) (.ret)))), none, none⟩
def qb8 : C := (.seq (.ops [⟨some 9, .bin .lss .num (.t 8) (.t 7), none⟩]) ((.seq ((.cond (.t 9) (.skip) (.exit 0))) ((.seq ((.block 1 [0, 1, 7, 8] ((.seq (.ops [⟨some 10, .mov (.t 8), none⟩, ⟨some 5, .mov (.t 10), none⟩]) ((.seq (.ops [⟨some 11, .mov (.t 1), none⟩, ⟨some 12, .mov (.t 0), none⟩, ⟨some 13, .mov (.t 5), none⟩, ⟨some 14, .indexAddr (.t 12) (.t 13) 1 none, none⟩, ⟨some 15, .load false none ⟨1, false⟩ (.t 14), none⟩, ⟨some 16, .call (.t 11) [.t 15], none⟩]) ((.cond (.t 16) ((.seq (.ops [⟨some 17, .mov (.t 5), none⟩, ⟨some 4, .mov (.t 17), none⟩]) (.ret))) (.skip))))))))) (.ops [⟨some 18, .bin .add .num (.t 8) (.c (.i .i64 1)), none⟩, ⟨some 8, .mov (.t 18), none⟩]))))))
def qcj : C := .loop [0, 1, 7, 8] qb8
def qck : C := (.seq (.ops [⟨some 4, .mov (.c (.i .i64 (-1))), none⟩]) (.ret))
def qap : Fn := ⟨2, [.t 4], true, (.seq (.ops [⟨some 4, .mov (.c (.i .i64 0)), none⟩]) ((.seq ((.seq (.ops [⟨some 6, .mov (.t 0), none⟩, ⟨some 7, .bi .lenL [.t 6], none⟩, ⟨some 8, .mov (.c (.i .i64 0)), none⟩]) ((.block 0 [] (qcj))))) (qck)))), none, none⟩
def qbe : C := (.seq (.ops [⟨some 9, .bin .lss .num (.t 8) (.t 7), none⟩]) ((.seq ((.cond (.t 9) (.skip) (.exit 0))) ((.seq ((.block 1 [0, 1, 7, 8] ((.seq (.ops [⟨some 10, .mov (.t 8), none⟩, ⟨some 5, .mov (.t 10), none⟩]) ((.seq (.ops [⟨some 11, .mov (.t 1), none⟩, ⟨some 12, .mov (.t 0), none⟩, ⟨some 13, .mov (.t 5), none⟩, ⟨some 14, .indexAddr (.t 12) (.t 13) 10 none, none⟩, ⟨some 15, .load false none ⟨10, true⟩ (.t 14), none⟩, ⟨some 16, .call (.t 11) [.t 15], none⟩]) ((.cond (.t 16) ((.seq (.ops [⟨some 17, .mov (.t 5), none⟩, ⟨some 4, .mov (.t 17), none⟩]) (.ret))) (.skip))))))))) (.ops [⟨some 18, .bin .add .num (.t 8) (.c (.i .i64 1)), none⟩, ⟨some 8, .mov (.t 18), none⟩]))))))
def qbh : C := .loop [0, 1, 7, 8] qbe
def qba : C := (.seq (.ops [⟨some 4, .mov (.c (.i .i64 (-1))), none⟩]) (.ret))
def yi : Fn := ⟨2, [.t 4], true, (.seq (.ops [⟨some 4, .mov (.c (.i .i64 0)), none⟩]) ((.seq ((.seq (.ops [⟨some 6, .mov (.t 0), none⟩, ⟨some 7, .bi .lenL [.t 6], none⟩, ⟨some 8, .mov (.c (.i .i64 0)), none⟩]) ((.block 0 [] (qbh))))) (qba)))), none, none⟩
def qlz : C := (.seq (.ops [⟨some 10, .bin .lss .num (.t 9) (.t 8), none⟩]) ((.seq ((.cond (.t 10) (.skip) (.exit 0))) ((.seq ((.block 1 [3, 7, 8, 9] ((.seq (.ops [⟨some 11, .indexAddr (.t 7) (.t 9) 8 none, none⟩, ⟨some 12, .load false none ⟨8, true⟩ (.t 11), none⟩, ⟨some 5, .alloc true [(.i .i64 0), (.i .i64 0), (.i .i64 0), (.s []), .nil, (.i .i32 0), (.s []), .nil], none⟩, ⟨none, .store (some 5) ⟨8, true⟩ (.t 5) (.t 12), none⟩]) (.ops [⟨some 13, .mov (.t 3), none⟩, ⟨some 14, .load false (some 5) ⟨8, true⟩ (.t 5), none⟩, ⟨some 15, .call (.f 134) [.t 14], none⟩, ⟨some 16, .bi .max [.t 13, (.t 15)], none⟩, ⟨some 3, .mov (.t 16), none⟩]))))) (.ops [⟨some 17, .bin .add .num (.t 9) (.c (.i .i64 1)), none⟩, ⟨some 9, .mov (.t 17), none⟩]))))))
def qlC : C := .loop [3, 7, 8, 9] qlz
def qlE : C := (.seq (.ops [⟨some 18, .mov (.t 3), none⟩, ⟨some 19, .bin .add .num (.t 18) (.c (.i .i64 1)), none⟩, ⟨some 2, .mov (.t 19), none⟩]) (.ret))
def qjS : Fn := ⟨1, [.t 2], true, (.seq (.ops [⟨some 1, .box true (.t 0), none⟩, ⟨some 2, .mov (.c (.i .i64 0)), none⟩]) ((.seq (.ops [⟨some 3, .mov (.c (.i .i64 0)), none⟩]) ((.seq ((.seq (.ops [⟨some 6, .fieldAddr (.t 1) 7 ⟨1, false⟩, none⟩, ⟨some 7, .load false (some 1) ⟨1, false⟩ (.t 6), none⟩, ⟨some 8, .bi .lenL [.t 7], none⟩, ⟨some 9, .mov (.c (.i .i64 0)), none⟩]) ((.block 0 [3] (qlC))))) (qlE)))))), none, none⟩
def qgH : Fn := ⟨1, [.t 2], true, (.seq (.ops [⟨some 1, .box true (.t 0), none⟩, ⟨some 2, .mov (.c (.b false)), none⟩]) ((.seq (.ops [⟨some 3, .fieldAddr (.t 1) 6 ⟨1, false⟩, none⟩, ⟨some 4, .load false (some 1) ⟨1, false⟩ (.t 3), none⟩, ⟨some 5, .bi .lenS [.t 4], none⟩, ⟨some 6, .bin .leq .num (.t 5) (.c (.i .i64 120)), none⟩, ⟨some 7, .mov (.t 6), none⟩, ⟨some 8, .fieldAddr (.t 1) 1 ⟨4, true⟩, some (7, true)⟩, ⟨some 9, .load false (some 1) ⟨4, true⟩ (.t 8), some (7, true)⟩, ⟨some 10, .call (.f 127) [.t 9, (.c (.i .i64 8))], some (7, true)⟩, ⟨some 11, .pick (.t 7) (.t 10) (.c (.b false)), none⟩, ⟨some 12, .mov (.t 11), none⟩, ⟨some 13, .fieldAddr (.t 1) 7 ⟨1, false⟩, some (12, true)⟩, ⟨some 14, .load false (some 1) ⟨1, false⟩ (.t 13), some (12, true)⟩, ⟨some 15, .bi .lenL [.t 14], some (12, true)⟩, ⟨some 16, .call (.f 49) [.t 15], some (12, true)⟩, ⟨some 17, .pick (.t 12) (.t 16) (.c (.b false)), none⟩, ⟨some 18, .mov (.t 17), none⟩, ⟨some 19, .fieldAddr (.t 1) 7 ⟨1, false⟩, some (18, true)⟩, ⟨some 20, .load false (some 1) ⟨1, false⟩ (.t 19), some (18, true)⟩, ⟨some 21, .call (.f 128) [.t 20, (.f 235)], some (18, true)⟩, ⟨some 22, .un .not (.t 21), some (18, true)⟩, ⟨some 23, .pick (.t 18) (.t 22) (.c (.b false)), none⟩, ⟨some 2, .mov (.t 23), none⟩]) (.ret)))), none, none⟩
def qbM : C := (.seq (.ops [⟨some 9, .bin .lss .num (.t 8) (.t 7), none⟩]) ((.seq ((.cond (.t 9) (.skip) (.exit 0))) ((.seq ((.block 1 [0, 1, 7, 8] ((.seq (.ops [⟨some 10, .mov (.t 8), none⟩, ⟨some 5, .mov (.t 10), none⟩]) ((.seq (.ops [⟨some 11, .mov (.t 1), none⟩, ⟨some 12, .mov (.t 0), none⟩, ⟨some 13, .mov (.t 5), none⟩, ⟨some 14, .indexAddr (.t 12) (.t 13) 4 none, none⟩, ⟨some 15, .load false none ⟨4, true⟩ (.t 14), none⟩, ⟨some 16, .call (.t 11) [.t 15], none⟩]) ((.cond (.t 16) ((.seq (.ops [⟨some 17, .mov (.t 5), none⟩, ⟨some 4, .mov (.t 17), none⟩]) (.ret))) (.skip))))))))) (.ops [⟨some 18, .bin .add .num (.t 8) (.c (.i .i64 1)), none⟩, ⟨some 8, .mov (.t 18), none⟩]))))))
def qbN : C := .loop [0, 1, 7, 8] qbM
def qbL : C := (.seq (.ops [⟨some 4, .mov (.c (.i .i64 (-1))), none⟩]) (.ret))
def y7 : Fn := ⟨2, [.t 4], true, (.seq (.ops [⟨some 4, .mov (.c (.i .i64 0)), none⟩]) ((.seq ((.seq (.ops [⟨some 6, .mov (.t 0), none⟩, ⟨some 7, .bi .lenL [.t 6], none⟩, ⟨some 8, .mov (.c (.i .i64 0)), none⟩]) ((.block 0 [] (qbN))))) (qbL)))), none, none⟩
def qbs : C := (.seq (.ops [⟨some 9, .bin .lss .num (.t 8) (.t 7), none⟩]) ((.seq ((.cond (.t 9) (.skip) (.exit 0))) ((.seq ((.block 1 [0, 1, 7, 8] ((.seq (.ops [⟨some 10, .mov (.t 8), none⟩, ⟨some 5, .mov (.t 10), none⟩]) ((.seq (.ops [⟨some 11, .mov (.t 1), none⟩, ⟨some 12, .mov (.t 0), none⟩, ⟨some 13, .mov (.t 5), none⟩, ⟨some 14, .indexAddr (.t 12) (.t 13) 10 none, none⟩, ⟨some 15, .load false none ⟨10, true⟩ (.t 14), none⟩, ⟨some 16, .call (.t 11) [.t 15], none⟩]) ((.cond (.t 16) ((.seq (.ops [⟨some 17, .mov (.t 5), none⟩, ⟨some 4, .mov (.t 17), none⟩]) (.ret))) (.skip))))))))) (.ops [⟨some 18, .bin .add .num (.t 8) (.c (.i .i64 1)), none⟩, ⟨some 8, .mov (.t 18), none⟩]))))))
def qbr : C := .loop [0, 1, 7, 8] qbs
def qby : C := (.seq (.ops [⟨some 4, .mov (.c (.i .i64 (-1))), none⟩]) (.ret))
def yD : Fn := ⟨2, [.t 4], true, (.seq (.ops [⟨some 4, .mov (.c (.i .i64 0)), none⟩]) ((.seq ((.seq (.ops [⟨some 6, .mov (.t 0), none⟩, ⟨some 7, .bi .lenL [.t 6], none⟩, ⟨some 8, .mov (.c (.i .i64 0)), none⟩]) ((.block 0 [] (qbr))))) (qby)))), none, none⟩
def qiO : Fn := ⟨1, [.t 2], true, (.seq (.ops [⟨some 1, .box true (.t 0), none⟩,
 ⟨some 2, .mov (.c (.b false)), none⟩]) ((.seq ((.block 0 [] ((.seq (.ops [⟨some 4, .fieldAddr (.t 1) 0 ⟨1, false⟩, none⟩,
 ⟨some 5, .load false (some 1) ⟨1, false⟩ (.t 4), none⟩,
 ⟨some 6, .call (.f 162) [.t 5], none⟩,
 ⟨some 3, .mov (.mv 6), none⟩]) ((.cond (.t 3) ((.seq (.ops [⟨some 7, .fieldAddr (.t 1) 1 ⟨1, false⟩, none⟩,
 ⟨some 8, .load false (some 1) ⟨1, false⟩ (.t 7), none⟩,
 ⟨some 9, .bin .eql .num (.t 8) (.c (.i .i64 0)), none⟩,
 ⟨some 10, .mov (.t 9), none⟩,
 ⟨some 11, .fieldAddr (.t 1) 2 ⟨1, false⟩, some (10, true)⟩,
 ⟨some 12, .load false (some 1) ⟨1, false⟩ (.t 11), some (10, true)⟩,
 ⟨some 13, .bin .eql .num (.t 12) (.c (.s [])), some (10, true)⟩,
 ⟨some 14, .pick (.t 10) (.t 13) (.c (.b false)), none⟩,
 ⟨some 15, .mov (.t 14), none⟩,
 ⟨some 16, .fieldAddr (.t 1) 3 ⟨1, false⟩, some (15, true)⟩,
 ⟨some 17, .load false (some 1) ⟨1, false⟩ (.t 16), some (15, true)⟩,
 ⟨some 18, .bi .lenL [.t 17], some (15, true)⟩,
 ⟨some 19, .bin .eql .num (.t 18) (.c (.i .i64 0)), some (15, true)⟩,
 ⟨some 20, .pick (.t 15) (.t 19) (.c (.b false)), none⟩,
 ⟨some 2, .mov (.t 20), none⟩]) (.ret))) ((.seq (.ops [⟨some 22, .fieldAddr (.t 1) 0 ⟨1, false⟩, none⟩,
 ⟨some 23, .load false (some 1) ⟨1, false⟩ (.t 22), none⟩,
 ⟨some 24, .bin .eql .num (.t 23) (.c (.i .i64 7)), none⟩,
 ⟨some 21, .mov (.t 24), none⟩]) ((.cond (.t 21) ((.seq (.ops [⟨some 25, .fieldAddr (.t 1) 1 ⟨1, false⟩, none⟩,
 ⟨some 26, .load false (some 1) ⟨1, false⟩ (.t 25), none⟩,
 ⟨some 27, .bin .geq .num (.t 26) (.c (.i .i64 1)), none⟩,
 ⟨some 28, .mov (.t 27), none⟩,
 ⟨some 29, .fieldAddr (.t 1) 1 ⟨1, false⟩, some (28, true)⟩,
 ⟨some 30, .load false (some 1) ⟨1, false⟩ (.t 29), some (28, true)⟩,
 ⟨some 31, .bin .leq .num (.t 30) (.c (.i .i64 1024)), some (28, true)⟩,
 ⟨some 32, .pick (.t 28) (.t 31) (.c (.b false)), none⟩,
 ⟨some 33, .mov (.t 32), none⟩,
 ⟨some 34, .fieldAddr (.t 1) 2 ⟨1, false⟩, some (33, true)⟩,
 ⟨some 35, .load false (some 1) ⟨1, false⟩ (.t 34), some (33, true)⟩,
 ⟨some 36, .bin .eql .num (.t 35) (.c (.s [])), some (33, true)⟩,
 ⟨some 37, .pick (.t 33) (.t 36) (.c (.b false)), none⟩,
 ⟨some 38, .mov (.t 37), none⟩,
 ⟨some 39, .fieldAddr (.t 1) 3 ⟨1, false⟩, some (38, true)⟩,
 ⟨some 40, .load false (some 1) ⟨1, false⟩ (.t 39), some (38, true)⟩,
 ⟨some 41, .bi .lenL [.t 40], some (38, true)⟩,
 ⟨some 42, .bin .eql .num (.t 41) (.c (.i .i64 1)), some (38, true)⟩,
 ⟨some 43, .pick (.t 38) (.t 42) (.c (.b false)), none⟩,
 ⟨some 44, .mov (.t 43), none⟩,
 ⟨some 45, .fieldAddr (.t 1) 3 ⟨1, false⟩, some (44, true)⟩,
 ⟨some 46, .load false (some 1) ⟨1, false⟩ (.t 45), some (44, true)⟩,
 ⟨some 47, .indexAddr (.t 46) (.c (.i .i64 0)) 4 none, some (44, true)⟩,
 ⟨some 48, .load false none ⟨4, true⟩ (.t 47), some (44, true)⟩,
 ⟨some 49, .call (.f 147) [.t 48], some (44, true)⟩,
 ⟨some 50, .pick (.t 44) (.t 49) (.c (.b false)), none⟩,
 ⟨some 2, .mov (.t 50), none⟩]) (.ret))) ((.seq (.ops [⟨some 52, .fieldAddr (.t 1) 0 ⟨1, false⟩, none⟩,
 ⟨some 53, .load false (some 1) ⟨1, false⟩ (.t 52), none⟩,
 ⟨some 54, .bin .eql .num (.t 53) (.c (.i .i64 8)), none⟩,
 ⟨some 55, .mov (.t 54), none⟩,
 ⟨some 56, .fieldAddr (.t 1) 0 ⟨1, false⟩, some (55, false)⟩,
 ⟨some 57, .load false (some 1) ⟨1, false⟩ (.t 56), some (55, false)⟩,
 ⟨some 58, .bin .eql .num (.t 57) (.c (.i .i64 9)), some (55, false)⟩,
 ⟨some 59, .pick (.t 55) (.c (.b true)) (.t 58), none⟩,
 ⟨some 51, .mov (.t 59), none⟩]) ((.cond (.t 51) ((.seq (.ops [⟨some 60, .fieldAddr (.t 1) 1 ⟨1, false⟩, none⟩,
 ⟨some 61, .load false (some 1) ⟨1, false⟩ (.t 60), none⟩,
 ⟨some 62, .bin .eql .num (.t 61) (.c (.i .i64 0)), none⟩,
 ⟨some 63, .mov (.t 62), none⟩,
 ⟨some 64, .fieldAddr (.t 1) 2 ⟨1, false⟩, some (63, true)⟩,
 ⟨some 65, .load false (some 1) ⟨1, false⟩ (.t 64), some (63, true)⟩,
 ⟨some 66, .bin .neq .num (.t 65) (.c (.s [])), some (63, true)⟩,
 ⟨some 67, .pick (.t 63) (.t 66) (.c (.b false)), none⟩,
 ⟨some 68, .mov (.t 67), none⟩,
 ⟨some 69, .fieldAddr (.t 1) 3 ⟨1, false⟩, some (68, true)⟩,
 ⟨some 70, .load false (some 1) ⟨1, false⟩ (.t 69), some (68, true)⟩,
 ⟨some 71, .bi .lenL [.t 70], some (68, true)⟩,
 ⟨some 72, .bin .eql .num (.t 71) (.c (.i .i64 0)), some (68, true)⟩,
 ⟨some 73, .pick (.t 68) (.t 72) (.c (.b false)), none⟩,
 ⟨some 2, .mov (.t 73), none⟩]) (.ret))) (.skip))))))))))))))) ((.seq (.ops [⟨some 2, .mov (.c (.b false)), none⟩]) (.ret)))))), none, none⟩
def qga : Fn := ⟨2, [.t 4], true, (.seq (.ops [⟨some 2, .box false (.t 0), none⟩, ⟨some 3, .box true (.t 1), none⟩, ⟨some 4, .mov (.c (.b false)), none⟩]) ((.seq ((.seq (.ops [⟨some 5, .fieldAddr (.t 3) 0 ⟨1, false⟩, none⟩, ⟨some 6, .load false (some 3) ⟨1, false⟩ (.t 5), none⟩]) ((.block 0 [] ((.seq (.ops [⟨some 8, .bin .eql .num (.t 6) (.c (.i .i64 7)), none⟩, ⟨some 7, .mov (.t 8), none⟩]) ((.cond (.t 7) ((.seq (.ops [⟨some 9, .fieldAddr (.t 3) 3 ⟨1, false⟩, none⟩, ⟨some 10, .load false (some 3) ⟨1, false⟩ (.t 9), none⟩, ⟨some 11, .mkFn 241 [] [.t 2], none⟩, ⟨some 12, .call (.f 231) [.t 10, (.t 11)], none⟩, ⟨some 13, .un .not (.t 12), none⟩, ⟨some 4, .mov (.t 13), none⟩]) (.ret))) ((.seq ((.seq (.ops [⟨some 15, .bin .eql .num (.t 6) (.c (.i .i64 8)), none⟩, ⟨some 14, .mov (.t 15), none⟩]) ((.cond (.t 14) (.skip) (.ops [⟨some 16, .bin .eql .num (.t 6) (.c (.i .i64 9)), none⟩, ⟨some 14, .mov (.t 16), none⟩]))))) ((.cond (.t 14) ((.seq (.opsD [(⟨some 17, .load false none ⟨1, false⟩ (.t 2), none⟩, false, []), (⟨some 18, .nilCheck (.t 17), none⟩, false, []), (⟨some 19, .fieldAddr (.t 18) 2 ⟨1, false⟩, none⟩, false, []), (⟨some 20, .load false none ⟨1, false⟩ (.t 19), none⟩, false, []), (⟨some 21, .fieldAddr (.t 3) 2 ⟨1, false⟩, none⟩, false, []), (⟨some 22, .load false (some 3) ⟨1, false⟩ (.t 21), none⟩, false, []), (⟨some 23, .lookup 2 (.b false) (.t 20) (.t 22) false, none⟩, true, []), (⟨some 4, .mov (.t 23), none⟩, true, [])]) (.ret))) (.skip))))))))))))) ((.seq (.ops [⟨some 4, .mov (.c (.b true)), none⟩]) (.ret)))))), none, none⟩
def qiS : Fn := ⟨2, [.t 4, (.t 5)], false, (.seq (.ops [⟨some 2, .box true (.t 0), none⟩, ⟨some 4, .mov (.c (.i .i64 0)), none⟩, ⟨some 5, .mov (.c (.b false)), none⟩]) ((.seq (.ops [⟨some 8, .mov (.t 1), none⟩, ⟨some 9, .mkMap, none⟩, ⟨some 10, .build [.nm, .nm] [(0, 1, (.t 8)), (1, 1, (.t 9))], none⟩, ⟨some 11, .box false (.t 10), none⟩, ⟨some 6, .mov (.t 11), none⟩]) ((.seq (.ops [⟨some 12, .mov (.mv 6), none⟩, ⟨some 13, .load false (some 2) ⟨4, true⟩ (.t 2), none⟩, ⟨some 14, .call (.f 242) [.mv 12, (.t 13)], none⟩, ⟨some 7, .mov (.mv 14), none⟩]) ((.seq (.ops [⟨some 15, .mov (.t 7), none⟩, ⟨some 16, .bi .max [.t 15, (.c (.i .i64 0))], none⟩, ⟨some 17, .mov (.t 7), none⟩, ⟨some 18, .bin .geq .num (.t 17) (.c (.i .i64 0)), none⟩, ⟨some 4, .mov (.t 16), none⟩, ⟨some 5, .mov (.t 18), none⟩]) (.ret)))))))), none, none⟩
def qh8 : Fn := ⟨3, [.t 6], true, (.seq (.ops [⟨some 3, .box true (.t 0), none⟩, ⟨some 6, .mov (.c (.b false)), none⟩]) ((.seq (.ops [⟨some 7, .mov (.t 1), none⟩, ⟨some 8, .mov (.t 7), none⟩, ⟨some 9, .fieldAddr (.t 3) 5 ⟨1, false⟩, some (8, false)⟩, ⟨some 10, .load false (some 3) ⟨1, false⟩ (.t 9), some (8, false)⟩, ⟨some 11, .bin .eql .num (.t 10) (.c (.i .i32 0)), some (8, false)⟩, ⟨some 12, .pick (.t 8) (.c (.b true)) (.t 11), none⟩, ⟨some 13, .mov (.t 12), none⟩, ⟨some 14, .mov (.t 2), some (13, true)⟩, ⟨some 15, .mov (.t 14), some (13, true)⟩, ⟨some 16, .fieldAddr (.t 3) 6 ⟨1, false⟩, some (15, false)⟩, ⟨some 17, .load false (some 3) ⟨1, false⟩ (.t 16), some (15, false)⟩, ⟨some 18, .bin .eql .num (.t 17) (.c (.s [])), some (15, false)⟩, ⟨some 19, .pick (.t 15) (.c (.b true)) (.t 18), some (13, true)⟩, ⟨some 20, .pick (.t 13) (.t 19) (.c (.b false)), none⟩, ⟨some 6, .mov (.t 20), none⟩]) (.ret)))), none, none⟩
def qds : Fn := ⟨2, [], false, (.seq (.ops [⟨some 3, .box true (.t 1), none⟩]) ((.seq (.opsD [(⟨some 7, .mov (.t 0), none⟩, false, [4]), (⟨some 8, .nilCheck (.t 7), none⟩, false, [4]), (⟨some 9, .fieldAddr (.t 8) 9 ⟨1, false⟩, none⟩, false, [4]), (⟨some 10, .load false none ⟨1, false⟩ (.t 9), none⟩, false, [4]), (⟨some 11, .fieldAddr (.t 3) 6 ⟨1, false⟩, none⟩, false, [4]), (⟨some 12, .load false (some 3) ⟨1, false⟩ (.t 11), none⟩, false, [4]), (⟨some 13, .lookup 2 (.agg [(.i .i64 0), (.i .i64 0), (.s []), .nil]) (.t 10) (.t 12) true, none⟩, false, [4]), (⟨some 6, .mov (.t 13), none⟩, false, [4]), (⟨some 14, .extract (.t 6) 0, none⟩, false, [4]), (⟨some 15, .extract (.t 6) 1, none⟩, false, [4]), (⟨some 4, .alloc true [(.i .i64 0), (.i .i64 0), (.s []), .nil], none⟩, false, [4]), (⟨none, .store (some 4) ⟨4, true⟩ (.t 4) (.t 14), none⟩, false, []), (⟨some 5, .mov (.t 15), none⟩, true, [])]) ((.seq ((.seq (.ops [⟨some 16, .fieldAddr (.t 3) 6 ⟨1, false⟩, none⟩,
 ⟨some 17, .load false (some 3) ⟨1, false⟩ (.t 16), none⟩,
 ⟨some 18, .call (.f 244) [.t 17, (.c (.s [46]))], none⟩]) ((.cond (.t 18) (.opsD [(⟨some 20, .mov (.t 0), none⟩, false, []), (⟨some 21, .nilCheck (.t 20), none⟩, false, []), (⟨some 22, .fieldAddr (.t 21) 8 ⟨1, false⟩, none⟩, false, []), (⟨some 23, .load false none ⟨1, false⟩ (.t 22), none⟩, false, []), (⟨some 24, .nilCheck (.t 23), none⟩, false, []), (⟨some 25, .fieldAddr (.t 24) 3 ⟨1, false⟩, none⟩, false, []), (⟨some 26, .load false none ⟨1, false⟩ (.t 25), none⟩, false, []), (⟨some 27, .fieldAddr (.t 3) 6 ⟨1, false⟩, none⟩, false, []), (⟨some 28, .load false (some 3) ⟨1, false⟩ (.t 27), none⟩, false, []), (⟨some 29, .lookup 2 (.agg [(.i .i64 0), (.i .i64 0), (.s []), .nil]) (.t 26) (.t 28) true, none⟩, true, []), (⟨some 19, .mov (.t 29), none⟩, true, []), (⟨some 30, .extract (.t 19) 0, none⟩, false, []), (⟨some 31, .extract (.t 19) 1, none⟩, false, []), (⟨none, .store (some 4) ⟨4, true⟩ (.t 4) (.t 30), none⟩, false, []), (⟨some 5, .mov (.t 31), none⟩, true, [])]) (.skip))))) ((.seq (.ops [⟨some 32, .mov (.mv 5), none⟩,
 ⟨some 33, .call (.f 65) [.mv 32], none⟩]) (.ops [⟨some 34, .fieldAddr (.t 3) 1 ⟨4, true⟩, none⟩,
 ⟨some 35, .load false (some 3) ⟨4, true⟩ (.t 34), none⟩,
 ⟨some 36, .load false (some 4) ⟨4, true⟩ (.t 4), none⟩,
 ⟨some 37, .call (.f 75) [.t 35, (.t 36)], none⟩,
 ⟨some 38, .mov (.mv 37), none⟩,
 ⟨some 39, .fieldAddr (.t 3) 7 ⟨1, false⟩, some (38, true)⟩,
 ⟨some 40, .load false (some 3) ⟨1, false⟩ (.t 39), some (38, true)⟩,
 ⟨some 41, .bi .lenL [.t 40], some (38, true)⟩,
 ⟨some 42, .bin .eql .num (.t 41) (.c (.i .i64 0)), some (38, true)⟩,
 ⟨some 43, .pick (.t 38) (.t 42) (.c (.b false)), none⟩,
 ⟨some 44, .mov (.t 43), none⟩,
 ⟨some 45, .load false (some 3) ⟨8, true⟩ (.t 3), some (44, true)⟩,
 ⟨some 46, .call (.f 151) [.t 45, (.c (.b false)), (.c (.b true))], some (44, true)⟩,
 ⟨some 47, .pick (.t 44) (.t 46) (.c (.b false)), none⟩,
 ⟨some 48, .call (.f 72) [.t 47], none⟩])))))))), none, none⟩
def qhk : Fn := ⟨2, [.t 4], true, (.seq (.ops [⟨some 2, .box true (.t 0), none⟩,
 ⟨some 3, .box true (.t 1), none⟩,
 ⟨some 4, .mov (.c (.b false)), none⟩]) ((.seq (.ops [⟨some 5, .fieldAddr (.t 2) 0 ⟨1, false⟩, none⟩,
 ⟨some 6, .load false (some 2) ⟨1, false⟩ (.t 5), none⟩,
 ⟨some 7, .fieldAddr (.t 3) 0 ⟨1, false⟩, none⟩,
 ⟨some 8, .load false (some 3) ⟨1, false⟩ (.t 7), none⟩,
 ⟨some 9, .bin .eql .num (.t 6) (.t 8), none⟩,
 ⟨some 10, .mov (.t 9), none⟩,
 ⟨some 11, .fieldAddr (.t 2) 1 ⟨4, true⟩, some (10, true)⟩,
 ⟨some 12, .load false (some 2) ⟨4, true⟩ (.t 11), some (10, true)⟩,
 ⟨some 13, .fieldAddr (.t 3) 1 ⟨4, true⟩, some (10, true)⟩,
 ⟨some 14, .load false (some 3) ⟨4, true⟩ (.t 13), some (10, true)⟩,
 ⟨some 15, .call (.f 252) [.t 12, (.t 14)], some (10, true)⟩,
 ⟨some 16, .pick (.t 10) (.t 15) (.c (.b false)), none⟩,
 ⟨some 17, .mov (.t 16), none⟩,
 ⟨some 18, .fieldAddr (.t 2) 5 ⟨1, false⟩, some (17, true)⟩,
 ⟨some 19, .load false (some 2) ⟨1, false⟩ (.t 18), some (17, true)⟩,
 ⟨some 20, .fieldAddr (.t 3) 5 ⟨1, false⟩, some (17, true)⟩,
 ⟨some 21, .load false (some 3) ⟨1, false⟩ (.t 20), some (17, true)⟩,
 ⟨some 22, .bin .eql .num (.t 19) (.t 21), some (17, true)⟩,
 ⟨some 23, .pick (.t 17) (.t 22) (.c (.b false)), none⟩,
 ⟨some 24, .mov (.t 23), none⟩,
 ⟨some 25, .fieldAddr (.t 2) 6 ⟨1, false⟩, some (24, true)⟩,
 ⟨some 26, .load false (some 2) ⟨1, false⟩ (.t 25), some (24, true)⟩,
 ⟨some 27, .fieldAddr (.t 3) 6 ⟨1, false⟩, some (24, true)⟩,
 ⟨some 28, .load false (some 3) ⟨1, false⟩ (.t 27), some (24, true)⟩,
 ⟨some 29, .bin .eql .num (.t 26) (.t 28), some (24, true)⟩,
 ⟨some 30, .pick (.t 24) (.t 29) (.c (.b false)), none⟩,
 ⟨some 31, .mov (.t 30), none⟩,
 ⟨some 32, .fieldAddr (.t 2) 7 ⟨1, false⟩, some (31, true)⟩,
 ⟨some 33, .load false (some 2) ⟨1, false⟩ (.t 32), some (31, true)⟩,
 ⟨some 34, .fieldAddr (.t 3) 7 ⟨1, false⟩, some (31, true)⟩,
 ⟨some 35, .load false (some 3) ⟨1, false⟩ (.t 34), some (31, true)⟩,
 ⟨some 36, .call (.f 253) [.t 33, (.t 35), (.f 160)], some (31, true)⟩,
 ⟨some 37, .pick (.t 31) (.t 36) (.c (.b false)), none⟩,
 ⟨some 4, .mov (.t 37), none⟩]) (.ret)))), none, none⟩
def qiL : Fn := ⟨1, [.t 2], true, (.seq (.ops [⟨some 2, .mov (.c (.b false)), none⟩]) ((.seq (.ops [⟨some 3, .mov (.t 0), none⟩, ⟨some 4, .bin .geq .num (.t 3) (.c (.i .i64 1)), none⟩, ⟨some 5, .mov (.t 4), none⟩, ⟨some 6, .mov (.t 0), some (5, true)⟩, ⟨some 7, .bin .leq .num (.t 6) (.c (.i .i64 4)), some (5, true)⟩, ⟨some 8, .pick (.t 5) (.t 7) (.c (.b false)), none⟩, ⟨some 2, .mov (.t 8), none⟩]) (.ret)))), none, none⟩
def qd3 : C := (.seq (.ops [⟨some 53, .bin .lss .num (.t 52) (.t 51), none⟩]) ((.seq ((.cond (.t 53) (.skip) (.exit 1))) ((.seq ((.block 2 [0, 3, 50, 51, 52] ((.seq (.ops [⟨some 54, .indexAddr (.t 50) (.t 52) 8 none, none⟩, ⟨some 55, .load false none ⟨8, true⟩ (.t 54), none⟩, ⟨some 5, .alloc true [(.i .i64 0), (.i .i64 0), (.i .i64 0), (.s []), .nil, (.i .i32 0), (.s []), .nil], none⟩, ⟨none, .store (some 5) ⟨8, true⟩ (.t 5) (.t 55), none⟩]) (.ops [⟨some 56, .mov (.t 0), none⟩, ⟨some 57, .load false (some 5) ⟨8, true⟩ (.t 5), none⟩, ⟨some 58, .call (.f 71) [.t 56, (.t 57)], none⟩]))))) (.ops [⟨some 59, .bin .add .num (.t 52) (.c (.i .i64 1)), none⟩, ⟨some 52, .mov (.t 59), none⟩]))))))
def qea : C := .loop [0, 3, 50, 51, 52] qd3
def qd6 : C := (.seq (.opsD [(⟨some 60, .mov (.t 0), none⟩, false, []), (⟨some 61, .nilCheck (.t 60), none⟩, false, []), (⟨some 62, .fieldAddr (.t 61) 8 ⟨1, false⟩, none⟩, false, []), (⟨some 63, .load false none ⟨1, false⟩ (.t 62), none⟩, false, []), (⟨some 64, .load false (some 3) ⟨4, true⟩ (.t 3), none⟩, false, []), (⟨some 65, .call (.f 256) [.t 63, (.t 64)], none⟩, true, [])]) (.ops [⟨some 66, .call (.f 72) [.t 65], none⟩]))
def qcd : Fn := ⟨2, [], false, (.seq (.ops [⟨some 3, .box true (.t 1), none⟩]) ((.seq (.ops [⟨some 6, .fieldAddr (.t 3) 0 ⟨1, false⟩, none⟩,
 ⟨some 7, .load false (some 3) ⟨1, false⟩ (.t 6), none⟩,
 ⟨some 8, .bin .geq .num (.t 7) (.c (.i .i64 7)), none⟩,
 ⟨some 9, .mov (.t 8), none⟩,
 ⟨some 10, .fieldAddr (.t 3) 0 ⟨1, false⟩, some (9, true)⟩,
 ⟨some 11, .load false (some 3) ⟨1, false⟩ (.t 10), some (9, true)⟩,
 ⟨some 12, .bin .leq .num (.t 11) (.c (.i .i64 17)), some (9, true)⟩,
 ⟨some 13, .pick (.t 9) (.t 12) (.c (.b false)), none⟩,
 ⟨some 14, .mov (.t 13), none⟩,
 ⟨some 15, .fieldAddr (.t 3) 2 ⟨1, false⟩, some (14, true)⟩,
 ⟨some 16, .load false (some 3) ⟨1, false⟩ (.t 15), some (14, true)⟩,
 ⟨some 17, .bi .lenL [.t 16], some (14, true)⟩,
 ⟨some 18, .bin .eql .num (.t 17) (.c (.i .i64 0)), some (14, true)⟩,
 ⟨some 19, .pick (.t 14) (.t 18) (.c (.b false)), none⟩,
 ⟨some 20, .mov (.t 19), none⟩,
 ⟨some 21, .fieldAddr (.t 3) 3 ⟨1, false⟩, some (20, true)⟩,
 ⟨some 22, .load false (some 3) ⟨1, false⟩ (.t 21), some (20, true)⟩,
 ⟨some 23, .bi .lenL [.t 22], some (20, true)⟩,
 ⟨some 24, .bin .eql .num (.t 23) (.c (.i .i64 0)), some (20, true)⟩,
 ⟨some 25, .pick (.t 20) (.t 24) (.c (.b false)), none⟩,
 ⟨some 26, .call (.f 72) [.t 25], none⟩]) ((.seq ((.block 0 [0, 3] ((.seq (.ops [⟨some 28, .fieldAddr (.t 3) 0 ⟨1, false⟩, none⟩,
 ⟨some 29, .load false (some 3) ⟨1, false⟩ (.t 28), none⟩,
 ⟨some 30, .bin .eql .num (.t 29) (.c (.i .i64 13)), none⟩,
 ⟨some 27, .mov (.t 30), none⟩]) ((.cond (.t 27) (.ops [⟨some 31, .mov (.t 0), none⟩,
 ⟨some 32, .nilCheck (.t 31), none⟩,
 ⟨some 33, .fieldAddr (.t 32) 0 ⟨8, true⟩, none⟩,
 ⟨some 34, .fieldAddr (.t 33) 1 ⟨1, false⟩, none⟩,
 ⟨some 35, .load false none ⟨1, false⟩ (.t 34), none⟩,
 ⟨some 36, .call (.f 84) [.t 35, (.c (.s [73, 110]))], none⟩,
 ⟨some 37, .call (.f 65) [.t 36], none⟩]) ((.seq (.ops [⟨some 39, .fieldAddr (.t 3) 0 ⟨1, false⟩, none⟩,
 ⟨some 40, .load false (some 3) ⟨1, false⟩ (.t 39), none⟩,
 ⟨some 41, .bin .gtr .num (.t 40) (.c (.i .i64 13)), none⟩,
 ⟨some 38, .mov (.t 41), none⟩]) ((.cond (.t 38) (.ops [⟨some 42, .mov (.t 0), none⟩,
 ⟨some 43, .nilCheck (.t 42), none⟩,
 ⟨some 44, .fieldAddr (.t 43) 0 ⟨8, true⟩, none⟩,
 ⟨some 45, .fieldAddr (.t 44) 1 ⟨1, false⟩, none⟩,
 ⟨some 46, .load false none ⟨1, false⟩ (.t 45), none⟩,
 ⟨some 47, .call (.f 84) [.t 46, (.c (.s [79, 117, 116]))], none⟩,
 ⟨some 48, .call (.f 65) [.t 47], none⟩]) (.skip))))))))))) ((.seq ((.seq (.ops [⟨some 49, .fieldAddr (.t 3) 1 ⟨1, false⟩, none⟩,
 ⟨some 50, .load false (some 3) ⟨1, false⟩ (.t 49), none⟩,
 ⟨some 51, .bi .lenL [.t 50], none⟩,
 ⟨some 52, .mov (.c (.i .i64 0)), none⟩]) ((.block 1 [0, 3] (qea))))) (qd6)))))))), none, none⟩
def kX : C := (.seq ((.seq (.opsD [(⟨some 8, .mov (.t 0), none⟩, false, []), (⟨some 9, .nilCheck (.t 8), none⟩, false, []), (⟨some 10, .fieldAddr (.t 9) 1 ⟨1, false⟩, none⟩, false, []), (⟨some 11, .load false none ⟨1, false⟩ (.t 10), none⟩, false, []), (⟨some 12, .mov (.t 0), none⟩, false, []), (⟨some 13, .nilCheck (.t 12), none⟩, false, []), (⟨some 14, .fieldAddr (.t 13) 0 ⟨1, false⟩, none⟩, false, []), (⟨some 15, .load false none ⟨1, false⟩ (.t 14), none⟩, false, []), (⟨some 16, .bi .lenS [.t 15], none⟩, false, []), (⟨some 17, .bin .lss .num (.t 11) (.t 16), none⟩, true, [])]) ((.cond (.t 17) (.skip) (.exit 0))))) ((.block 1 [0, 2, 3] ((.block 2 [0, 2, 3] ((.seq (.ops [⟨some 19, .mov (.t 0), none⟩,
 ⟨some 20, .call (.f 178) [.t 19, (.c (.s [40, 42]))], none⟩,
 ⟨some 18, .mov (.mv 20), none⟩]) ((.cond (.t 18) ((.seq ((.seq (.ops [⟨some 21, .mov (.t 3), none⟩,
 ⟨some 22, .bin .eql .num (.t 21) (.c (.i .i64 0)), none⟩]) ((.cond (.t 22) (.ops [⟨some 23, .mov (.t 0), none⟩,
 ⟨some 24, .nilCheck (.t 23), none⟩,
 ⟨some 25, .fieldAddr (.t 24) 1 ⟨1, false⟩, none⟩,
 ⟨some 26, .load false none ⟨1, false⟩ (.t 25), none⟩,
 ⟨some 2, .mov (.t 26), none⟩]) (.skip))))) ((.seq (.ops [⟨some 27, .mov (.t 3), none⟩,
 ⟨some 28, .bin .add .num (.t 27) (.c (.i .i64 1)), none⟩,
 ⟨some 3, .mov (.t 28), none⟩]) (.ops [⟨some 29, .mov (.t 0), none⟩,
 ⟨some 30, .nilCheck (.t 29), none⟩,
 ⟨some 31, .fieldAddr (.t 30) 1 ⟨1, false⟩, none⟩,
 ⟨some 32, .load false none ⟨1, false⟩ (.t 31), none⟩,
 ⟨some 33, .bin .add .num (.t 32) (.c (.i .i64 2)), none⟩,
 ⟨some 34, .nilCheck (.t 29), none⟩,
 ⟨some 35, .fieldAddr (.t 34) 1 ⟨1, false⟩, none⟩,
 ⟨none, .store none ⟨1, false⟩ (.t 35) (.t 33), none⟩]))))) ((.seq (.ops [⟨some 37, .mov (.t 3), none⟩,
 ⟨some 38, .bin .gtr .num (.t 37) (.c (.i .i64 0)), none⟩,
 ⟨some 39, .mov (.t 38), none⟩,
 ⟨some 40, .mov (.t 0), some (39, true)⟩,
 ⟨some 41, .call (.f 178) [.t 40, (.c (.s [42, 41]))], some (39, true)⟩,
 ⟨some 42, .pick (.t 39) (.t 41) (.c (.b false)), none⟩,
 ⟨some 36, .mov (.t 42), none⟩]) ((.cond (.t 36) ((.seq (.ops [⟨some 43, .mov (.t 3), none⟩,
 ⟨some 44, .bin .sub .num (.t 43) (.c (.i .i64 1)), none⟩,
 ⟨some 3, .mov (.t 44), none⟩]) (.ops [⟨some 45, .mov (.t 0), none⟩,
 ⟨some 46, .nilCheck (.t 45), none⟩,
 ⟨some 47, .fieldAddr (.t 46) 1 ⟨1, false⟩, none⟩,
 ⟨some 48, .load false none ⟨1, false⟩ (.t 47), none⟩,
 ⟨some 49, .bin .add .num (.t 48) (.c (.i .i64 2)), none⟩,
 ⟨some 50, .nilCheck (.t 45), none⟩,
 ⟨some 51, .fieldAddr (.t 50) 1 ⟨1, false⟩, none⟩,
 ⟨none, .store none ⟨1, false⟩ (.t 51) (.t 49), none⟩]))) ((.seq (.opsD [(⟨some 53, .mov (.t 3), none⟩, true, []), (⟨some 54, .bin .gtr .num (.t 53) (.c (.i .i64 0)), none⟩, true, []), (⟨some 55, .mov (.t 54), none⟩, true, []), (⟨some 56, .mov (.t 0), some (55, false)⟩, false, []), (⟨some 57, .nilCheck (.t 56), some (55, false)⟩, false, []), (⟨some 58, .fieldAddr (.t 57) 0 ⟨1, false⟩, some (55, false)⟩, false, []), (⟨some 59, .load false none ⟨1, false⟩ (.t 58), some (55, false)⟩, false, []), (⟨some 60, .mov (.t 0), some (55, false)⟩, false, []), (⟨some 61, .nilCheck (.t 60), some (55, false)⟩, false, []), (⟨some 62, .fieldAddr (.t 61) 1 ⟨1, false⟩, some (55, false)⟩, false, []), (⟨some 63, .load false none ⟨1, false⟩ (.t 62), some (55, false)⟩, false, []), (⟨some 64, .index (.t 59) (.t 63), some (55, false)⟩, true, []), (⟨some 65, .call (.f 257) [(.c (.s [9, 10, 13, 32])), (.t 64)], some (55, false)⟩, true, []), (⟨some 66, .bin .geq .num (.t 65) (.c (.i .i64 0)), some (55, false)⟩, true, []), (⟨some 67, .pick (.t 55) (.c (.b true)) (.t 66), none⟩, true, []), (⟨some 52, .mov (.t 67), none⟩, true, [])]) ((.cond (.t 52) (.ops [⟨some 68, .mov (.t 0), none⟩,
 ⟨some 69, .nilCheck (.t 68), none⟩,
 ⟨some 70, .fieldAddr (.t 69) 1 ⟨1, false⟩, none⟩,
 ⟨some 71, .load false none ⟨1, false⟩ (.t 70), none⟩,
 ⟨some 72, .bin .add .num (.t 71) (.c (.i .i64 1)), none⟩,
 ⟨some 73, .nilCheck (.t 68), none⟩,
 ⟨some 74, .fieldAddr (.t 73) 1 ⟨1, false⟩, none⟩,
 ⟨none, .store none ⟨1, false⟩ (.t 74) (.t 72), none⟩]) (.ret))))))))))))))))))
def j6 : C := .loop [0, 2, 3] kX
noncomputable def jd (pg : Pg) (v0 v2 v3 : V) (H : List Obj) (lo : Nat) : Option (Ex × St) := exL pg j6 ⟨[(0, v0), (2, v2), (3, v3)], H, lo⟩
theorem zC {pg : Pg} {e : Env} {H : List Obj} {lo : Nat} : exL pg j6 ⟨e, H, lo⟩ = jd pg (qM (get 0 e)) (qM (get 2 e)) (qM (get 3 e)) H lo := qcn
theorem jE {pg : Pg} {v0 v2 v3 : V} {H : List Obj} {lo : Nat} : jd pg v0 v2 v3 H lo = y6 pg (exL pg kX ⟨[(0, qM v0), (2, qM v2), (3, qM v3)], H, lo⟩) j6 := by
  unfold jd j6; rw [qaA]; simp only [qg, qm, qz, qC, Nat.reduceEqDiff]
def je : C := (.seq (.ops [⟨some 75, .mov (.t 3), none⟩, ⟨some 76, .bin .gtr .num (.t 75) (.c (.i .i64 0)), none⟩]) ((.cond (.t 76) (.ops [⟨some 77, .mov (.mv 2), none⟩, ⟨some 78, .call (.f 258) [.mv 77, (.c (.i .i64 30))], none⟩]) (.skip))))
def qak : Fn := ⟨1, [], false, (.seq (.ops [⟨some 4, .mov (.t 0), none⟩, ⟨some 5, .nilCheck (.t 4), none⟩, ⟨some 6, .fieldAddr (.t 5) 1 ⟨1, false⟩, none⟩, ⟨some 7, .load false none ⟨1, false⟩ (.t 6), none⟩, ⟨some 2, .mov (.t 7), none⟩, ⟨some 3, .mov (.c (.i .i64 0)), none⟩]) ((.seq ((.block 0 [2, 3] (j6))) (je)))), none, none⟩
def qdX : Fn := ⟨1, [.t 2], true, (.seq (.ops [⟨some 2, .mov (.c (.b false)), none⟩]) ((.seq (.ops [⟨some 3, .mov (.t 0), none⟩, ⟨some 4, .bin .geq .num (.t 3) (.c (.i .u8 97)), none⟩, ⟨some 5, .mov (.t 4), none⟩, ⟨some 6, .mov (.t 0), some (5, true)⟩, ⟨some 7, .bin .leq .num (.t 6) (.c (.i .u8 122)), some (5, true)⟩, ⟨some 8, .pick (.t 5) (.t 7) (.c (.b false)), none⟩, ⟨some 9, .mov (.t 8), none⟩, ⟨some 10, .mov (.t 0), some (9, false)⟩, ⟨some 11, .bin .geq .num (.t 10) (.c (.i .u8 65)), some (9, false)⟩, ⟨some 12, .mov (.t 11), some (9, false)⟩, ⟨some 13, .mov (.t 0), some (12, true)⟩, ⟨some 14, .bin .leq .num (.t 13) (.c (.i .u8 90)), some (12, true)⟩, ⟨some 15, .pick (.t 12) (.t 14) (.c (.b false)), some (9, false)⟩, ⟨some 16, .pick (.t 9) (.c (.b true)) (.t 15), none⟩, ⟨some 2, .mov (.t 16), none⟩]) (.ret)))), none, none⟩
def yf : Fn := ⟨1, [(.cell 2 ⟨5, true⟩)], true, (.seq (.ops [⟨some 2, .alloc true [(.i .i64 0), (.i .i64 0), (.i .i64 0), (.s []), (.i .i32 0)], none⟩]) ((.seq (.ops [⟨some 5, .mov (.t 0), none⟩, ⟨some 6, .nilCheck (.t 5), none⟩, ⟨some 7, .fieldAddr (.t 6) 1 ⟨1, false⟩, none⟩, ⟨some 8, .load false none ⟨1, false⟩ (.t 7), none⟩, ⟨some 3, .mov (.t 8), none⟩]) ((.seq (.ops [⟨some 9, .mov (.mv 0), none⟩, ⟨some 10, .call (.f 259) [.mv 9, (.f 260)], none⟩, ⟨some 4, .mov (.mv 10), none⟩]) ((.seq ((.block 0 [2, 4] ((.seq (.ops [⟨some 12, .mov (.t 4), none⟩, ⟨some 13, .bi .lenS [.t 12], none⟩, ⟨some 14, .bin .gtr .num (.t 13) (.c (.i .i64 32)), none⟩, ⟨some 11, .mov (.t 14), none⟩]) ((.cond (.t 11) (.ops [⟨some 15, .mov (.mv 3), none⟩, ⟨some 16, .call (.f 258) [.mv 15, (.c (.i .i64 34))], none⟩]) ((.seq (.ops [⟨some 18, .call (.f 261) [], none⟩, ⟨some 19, .mov (.t 4), none⟩, ⟨some 20, .call (.f 84) [.t 18, (.t 19)], none⟩, ⟨some 17, .mov (.mv 20), none⟩]) ((.cond (.t 17) ((.seq (.ops [⟨some 21, .mov (.t 4), none⟩, ⟨some 22, .build [(.i .i64 0), (.i .i64 0), (.i .i64 0), (.s []), (.i .i32 0)] [(0, 1, (.c (.i .i64 6))), (3, 1, (.t 21))], none⟩, ⟨none, .store (some 2) ⟨5, true⟩ (.t 2) (.t 22), none⟩]) (.ret))) (.skip))))))))))) ((.seq (.ops [⟨some 23, .mov (.t 4), none⟩, ⟨some 24, .build [(.i .i64 0), (.i .i64 0), (.i .i64 0), (.s []), (.i .i32 0)] [(0, 1, (.c (.i .i64 1))), (3, 1, (.t 23))], none⟩, ⟨none, .store (some 2) ⟨5, true⟩ (.t 2) (.t 24), none⟩]) (.ret)))))))))), none, none⟩
def qeY : Fn := ⟨1, [.t 2], true, (.seq (.ops [⟨some 2, .mov (.c (.b false)), none⟩]) ((.seq (.ops [⟨some 3, .mov (.t 0), none⟩, ⟨some 4, .bin .geq .num (.t 3) (.c (.i .u8 48)), none⟩, ⟨some 5, .mov (.t 4), none⟩, ⟨some 6, .mov (.t 0), some (5, true)⟩, ⟨some 7, .bin .leq .num (.t 6) (.c (.i .u8 57)), some (5, true)⟩, ⟨some 8, .pick (.t 5) (.t 7) (.c (.b false)), none⟩, ⟨some 2, .mov (.t 8), none⟩]) (.ret)))), none, none⟩
def zz : Fn := ⟨1, [(.cell 2 ⟨5, true⟩)], true, (.seq (.ops [⟨some 2, .alloc true [(.i .i64 0), (.i .i64 0), (.i .i64 0), (.s []), (.i .i32 0)], none⟩]) ((.seq (.ops [⟨some 10, .mov (.t 0), none⟩,
 ⟨some 11, .nilCheck (.t 10), none⟩,
 ⟨some 12, .fieldAddr (.t 11) 1 ⟨1, false⟩, none⟩,
 ⟨some 13, .load false none ⟨1, false⟩ (.t 12), none⟩,
 ⟨some 3, .mov (.t 13), none⟩]) ((.seq (.ops [⟨some 14, .mov (.t 0), none⟩,
 ⟨some 15, .call (.f 259) [.t 14, (.f 262)], none⟩,
 ⟨some 4, .mov (.mv 15), none⟩]) ((.seq (.ops [⟨some 5, .mov (.c (.i .i64 2)), none⟩,
 ⟨some 6, .mov (.c (.i .i64 10)), none⟩,
 ⟨some 7, .mov (.c (.i .i64 31)), none⟩]) ((.seq ((.block 0 [2, 3, 4, 5, 6, 7] ((.seq (.ops [⟨some 17, .mov (.t 0), none⟩,
 ⟨some 18, .call (.f 178) [.t 17, (.c (.s [72]))], none⟩,
 ⟨some 16, .mov (.mv 18), none⟩]) ((.cond (.t 16) ((.seq (.ops [⟨some 6, .mov (.c (.i .i64 16)), none⟩,
 ⟨some 7, .mov (.c (.i .i64 32)), none⟩]) (.ops [⟨some 19, .mov (.t 0), none⟩,
 ⟨some 20, .nilCheck (.t 19), none⟩,
 ⟨some 21, .fieldAddr (.t 20) 1 ⟨1, false⟩, none⟩,
 ⟨some 22, .load false none ⟨1, false⟩ (.t 21), none⟩,
 ⟨some 23, .bin .add .num (.t 22) (.c (.i .i64 1)), none⟩,
 ⟨some 24, .nilCheck (.t 19), none⟩,
 ⟨some 25, .fieldAddr (.t 24) 1 ⟨1, false⟩, none⟩,
 ⟨none, .store none ⟨1, false⟩ (.t 25) (.t 23), none⟩]))) ((.seq (.ops [⟨some 27, .mov (.t 0), none⟩,
 ⟨some 28, .call (.f 178) [.t 27, (.c (.s [88]))], none⟩,
 ⟨some 26, .mov (.mv 28), none⟩]) ((.cond (.t 26) ((.seq (.ops [⟨some 5, .mov (.c (.i .i64 3)), none⟩,
 ⟨some 6, .mov (.c (.i .i64 16)), none⟩,
 ⟨some 7, .mov (.c (.i .i64 8)), none⟩]) (.ops [⟨some 29, .mov (.t 0), none⟩,
 ⟨some 30, .nilCheck (.t 29), none⟩,
 ⟨some 31, .fieldAddr (.t 30) 1 ⟨1, false⟩, none⟩,
 ⟨some 32, .load false none ⟨1, false⟩ (.t 31), none⟩,
 ⟨some 33, .bin .add .num (.t 32) (.c (.i .i64 1)), none⟩,
 ⟨some 34, .nilCheck (.t 29), none⟩,
 ⟨some 35, .fieldAddr (.t 34) 1 ⟨1, false⟩, none⟩,
 ⟨none, .store none ⟨1, false⟩ (.t 35) (.t 33), none⟩]))) (.skip))))))))))) ((.seq (.ops [⟨some 37, .mov (.mv 4), none⟩,
 ⟨some 38, .mov (.mv 6), none⟩,
 ⟨some 39, .mov (.mv 7), none⟩,
 ⟨some 40, .call (.f 263) [.mv 37, (.mv 38), (.mv 39)], none⟩,
 ⟨some 36, .mov (.t 40), none⟩,
 ⟨some 41, .extract (.t 36) 0, none⟩,
 ⟨some 42, .extract (.t 36) 1, none⟩,
 ⟨some 8, .mov (.t 41), none⟩,
 ⟨some 9, .mov (.t 42), none⟩]) ((.seq ((.seq (.ops [⟨some 43, .mov (.t 9), none⟩,
 ⟨some 44, .bin .neq .iface (.t 43) (.c .ni), none⟩]) ((.cond (.t 44) (.ops [⟨some 45, .mov (.mv 3), none⟩,
 ⟨some 46, .call (.f 258) [.mv 45, (.c (.i .i64 30))], none⟩]) (.skip))))) ((.seq (.ops [⟨some 47, .mov (.t 5), none⟩,
 ⟨some 48, .mov (.t 8), none⟩,
 ⟨some 49, .conv .u32 (.t 48), none⟩,
 ⟨some 50, .conv .i32 (.t 49), none⟩,
 ⟨some 51, .build [(.i .i64 0), (.i .i64 0), (.i .i64 0), (.s []), (.i .i32 0)] [(0, 1, (.t 47)), (4, 1, (.t 50))], none⟩,
 ⟨none, .store (some 2) ⟨5, true⟩ (.t 2) (.t 51), none⟩]) (.ret)))))))))))))))), none, none⟩
def qbw : Fn := ⟨2, [.t 4], true, (.seq (.ops [⟨some 4, .mov (.c (.b false)), none⟩]) ((.seq (.opsD [(⟨some 5, .mov (.t 0), none⟩, false, []), (⟨some 6, .nilCheck (.t 5), none⟩, false, []), (⟨some 7, .fieldAddr (.t 6) 0 ⟨1, false⟩, none⟩, false, []), (⟨some 8, .load false none ⟨1, false⟩ (.t 7), none⟩, false, []), (⟨some 9, .mov (.t 0), none⟩, false, []), (⟨some 10, .nilCheck (.t 9), none⟩, false, []), (⟨some 11, .fieldAddr (.t 10) 1 ⟨1, false⟩, none⟩, false, []), (⟨some 12, .load false none ⟨1, false⟩ (.t 11), none⟩, false, []), (⟨some 13, .sliceS (.t 8) (some (.t 12)) none, none⟩, false, []), (⟨some 14, .mov (.mv 1), none⟩, false, []), (⟨some 15, .call (.f 255) [.t 13, (.mv 14)], none⟩, true, []), (⟨some 4, .mov (.mv 15), none⟩, true, [])]) (.ret)))), none, none⟩
def ye : Fn := ⟨1, [(.cell 2 ⟨5, true⟩)], true, (.seq (.ops [⟨some 2, .alloc true [(.i .i64 0), (.i .i64 0), (.i .i64 0), (.s []), (.i .i32 0)], none⟩]) ((.seq (.ops [⟨some 5, .mov (.t 0), none⟩,
 ⟨some 6, .nilCheck (.t 5), none⟩,
 ⟨some 7, .fieldAddr (.t 6) 1 ⟨1, false⟩, none⟩,
 ⟨some 8, .load false none ⟨1, false⟩ (.t 7), none⟩,
 ⟨some 3, .mov (.t 8), none⟩]) ((.seq (.ops [⟨some 9, .mov (.t 0), none⟩,
 ⟨some 10, .nilCheck (.t 9), none⟩,
 ⟨some 11, .fieldAddr (.t 10) 1 ⟨1, false⟩, none⟩,
 ⟨some 12, .load false none ⟨1, false⟩ (.t 11), none⟩,
 ⟨some 13, .bin .add .num (.t 12) (.c (.i .i64 1)), none⟩,
 ⟨some 14, .nilCheck (.t 9), none⟩,
 ⟨some 15, .fieldAddr (.t 14) 1 ⟨1, false⟩, none⟩,
 ⟨none, .store none ⟨1, false⟩ (.t 15) (.t 13), none⟩]) ((.seq (.ops [⟨some 16, .mov (.t 0), none⟩,
 ⟨some 17, .call (.f 259) [.t 16, (.f 264)], none⟩,
 ⟨some 4, .mov (.mv 17), none⟩]) ((.seq ((.block 0 [0, 2, 4] ((.seq (.ops [⟨some 19, .mov (.t 0), none⟩,
 ⟨some 20, .call (.f 178) [.t 19, (.c (.s [34]))], none⟩,
 ⟨some 21, .un .not (.t 20), none⟩,
 ⟨some 18, .mov (.t 21), none⟩]) ((.cond (.t 18) (.ops [⟨some 22, .mov (.mv 3), none⟩,
 ⟨some 23, .call (.f 258) [.mv 22, (.c (.i .i64 30))], none⟩]) ((.seq (.ops [⟨some 25, .mov (.t 4), none⟩,
 ⟨some 26, .bi .lenS [.t 25], none⟩,
 ⟨some 27, .bin .gtr .num (.t 26) (.c (.i .i64 120)), none⟩,
 ⟨some 24, .mov (.t 27), none⟩]) ((.cond (.t 24) (.ops [⟨some 28, .mov (.mv 3), none⟩,
 ⟨some 29, .call (.f 258) [.mv 28, (.c (.i .i64 34))], none⟩]) (.skip))))))))))) ((.seq (.ops [⟨some 30, .mov (.t 0), none⟩,
 ⟨some 31, .nilCheck (.t 30), none⟩,
 ⟨some 32, .fieldAddr (.t 31) 1 ⟨1, false⟩, none⟩,
 ⟨some 33, .load false none ⟨1, false⟩ (.t 32), none⟩,
 ⟨some 34, .bin .add .num (.t 33) (.c (.i .i64 1)), none⟩,
 ⟨some 35, .nilCheck (.t 30), none⟩,
 ⟨some 36, .fieldAddr (.t 35) 1 ⟨1, false⟩, none⟩,
 ⟨none, .store none ⟨1, false⟩ (.t 36) (.t 34), none⟩]) ((.seq (.ops [⟨some 37, .mov (.t 4), none⟩,
 ⟨some 38, .build [(.i .i64 0), (.i .i64 0), (.i .i64 0), (.s []), (.i .i32 0)] [(0, 1, (.c (.i .i64 4))), (3, 1, (.t 37))], none⟩,
 ⟨none, .store (some 2) ⟨5, true⟩ (.t 2) (.t 38), none⟩]) (.ret)))))))))))))), none, none⟩
def zF : C := (.seq (.ops [⟨some 8, .bin .lss .num (.t 7) (.t 6), none⟩]) ((.seq ((.cond (.t 8) (.skip) (.exit 0))) ((.seq ((.block 1 [0, 2, 5, 6, 7] ((.seq (.ops [⟨some 9, .indexAddr (.t 5) (.t 7) 1 none, none⟩, ⟨some 10, .loadC ⟨1, false⟩ (.t 9), none⟩, ⟨some 4, .mov (.t 10), none⟩]) ((.seq (.ops [⟨some 11, .mov (.t 0), none⟩, ⟨some 12, .mov (.t 4), none⟩, ⟨some 13, .call (.f 178) [.t 11, (.t 12)], none⟩]) ((.cond (.t 13) ((.seq (.ops [⟨some 14, .mov (.t 0), none⟩, ⟨some 15, .nilCheck (.t 14), none⟩, ⟨some 16, .fieldAddr (.t 15) 1 ⟨1, false⟩, none⟩, ⟨some 17, .load false none ⟨1, false⟩ (.t 16), none⟩, ⟨some 18, .mov (.t 4), none⟩, ⟨some 19, .bi .lenS [.t 18], none⟩, ⟨some 20, .bin .add .num (.t 17) (.t 19), none⟩, ⟨some 21, .nilCheck (.t 14), none⟩, ⟨some 22, .fieldAddr (.t 21) 1 ⟨1, false⟩, none⟩, ⟨none, .store none ⟨1, false⟩ (.t 22) (.t 20), none⟩]) ((.seq (.ops [⟨some 23, .mov (.t 4), none⟩, ⟨some 24, .build [(.i .i64 0), (.i .i64 0), (.i .i64 0), (.s []), (.i .i32 0)] [(0, 1, (.c (.i .i64 5))), (3, 1, (.t 23))], none⟩, ⟨none, .store (some 2) ⟨5, true⟩ (.t 2) (.t 24), none⟩]) (.ret))))) (.skip))))))))) (.ops [⟨some 25, .bin .add .num (.t 7) (.c (.i .i64 1)), none⟩, ⟨some 7, .mov (.t 25), none⟩]))))))
def jW : C := .loop [0, 2, 5, 6, 7] zF
noncomputable def qbq (pg : Pg) (v0 v2 v5 v6 v7 : V) (H : List Obj) (lo : Nat) : Option (Ex × St) := exL pg jW ⟨[(0, v0), (2, v2), (5, v5), (6, v6), (7, v7)], H, lo⟩
theorem ja {pg : Pg} {e : Env} {H : List Obj} {lo : Nat} : exL pg jW ⟨e, H, lo⟩ = qbq pg (qM (get 0 e)) (qM (get 2 e)) (qM (get 5 e)) (qM (get 6 e)) (qM (get 7 e)) H lo := qcn
theorem z7 {pg : Pg} {v0 v2 v5 v6 v7 : V} {H : List Obj} {lo : Nat} : qbq pg v0 v2 v5 v6 v7 H lo = y6 pg (exL pg zF ⟨[(0, qM v0), (2, qM v2), (5, qM v5), (6, qM v6), (7, qM v7)], H, lo⟩) jW := by
  unfold qbq jW; rw [qaA]; simp only [qg, qm, qz, qC, Nat.reduceEqDiff]
def qbz : C := (.seq ((.seq (.opsD [(⟨some 26, .mov (.t 0), none⟩, false, []), (⟨some 27, .nilCheck (.t 26), none⟩, false, []), (⟨some 28, .fieldAddr (.t 27) 0 ⟨1, false⟩, none⟩, false, []), (⟨some 29, .load false none ⟨1, false⟩ (.t 28), none⟩, false, []), (⟨some 30, .mov (.t 0), none⟩, false, []), (⟨some 31, .nilCheck (.t 30), none⟩, false, []), (⟨some 32, .fieldAddr (.t 31) 1 ⟨1, false⟩, none⟩, false, []), (⟨some 33, .load false none ⟨1, false⟩ (.t 32), none⟩, false, []), (⟨some 34, .index (.t 29) (.t 33), none⟩, true, []), (⟨some 35, .call (.f 257) [(.c (.s [43, 45, 42, 47, 38, 126, 61, 35, 60, 62, 46, 44, 59, 58, 40, 41, 91, 93, 123, 125, 94, 124])), (.t 34)], none⟩, true, []), (⟨some 36, .bin .lss .num (.t 35) (.c (.i .i64 0)), none⟩, true, [])]) ((.cond (.t 36) (.ops [⟨some 37, .mov (.t 0), none⟩,
 ⟨some 38, .nilCheck (.t 37), none⟩,
 ⟨some 39, .fieldAddr (.t 38) 1 ⟨1, false⟩, none⟩,
 ⟨some 40, .load false none ⟨1, false⟩ (.t 39), none⟩,
 ⟨some 41, .call (.f 258) [.t 40, (.c (.i .i64 30))], none⟩]) (.skip))))) ((.seq (.ops [⟨some 42, .mov (.t 0), none⟩,
 ⟨some 43, .nilCheck (.t 42), none⟩,
 ⟨some 44, .fieldAddr (.t 43) 1 ⟨1, false⟩, none⟩,
 ⟨some 45, .load false none ⟨1, false⟩ (.t 44), none⟩,
 ⟨some 46, .bin .add .num (.t 45) (.c (.i .i64 1)), none⟩,
 ⟨some 47, .nilCheck (.t 42), none⟩,
 ⟨some 48, .fieldAddr (.t 47) 1 ⟨1, false⟩, none⟩,
 ⟨none, .store none ⟨1, false⟩ (.t 48) (.t 46), none⟩]) ((.seq (.opsD [(⟨some 49, .mov (.t 0), none⟩, false, []), (⟨some 50, .nilCheck (.t 49), none⟩, false, []), (⟨some 51, .fieldAddr (.t 50) 0 ⟨1, false⟩, none⟩, false, []), (⟨some 52, .load false none ⟨1, false⟩ (.t 51), none⟩, false, []), (⟨some 53, .mov (.t 0), none⟩, false, []), (⟨some 54, .nilCheck (.t 53), none⟩, false, []), (⟨some 55, .fieldAddr (.t 54) 1 ⟨1, false⟩, none⟩, false, []), (⟨some 56, .load false none ⟨1, false⟩ (.t 55), none⟩, false, []), (⟨some 57, .bin .sub .num (.t 56) (.c (.i .i64 1)), none⟩, false, []), (⟨some 58, .mov (.t 0), none⟩, false, []), (⟨some 59, .nilCheck (.t 58), none⟩, false, []), (⟨some 60, .fieldAddr (.t 59) 1 ⟨1, false⟩, none⟩, false, []), (⟨some 61, .load false none ⟨1, false⟩ (.t 60), none⟩, false, []), (⟨some 62, .sliceS (.t 52) (some (.t 57)) (some (.t 61)), none⟩, true, []), (⟨some 63, .build [(.i .i64 0), (.i .i64 0), (.i .i64 0), (.s []), (.i .i32 0)] [(0, 1, (.c (.i .i64 5))), (3, 1, (.t 62))], none⟩, true, []), (⟨none, .store (some 2) ⟨5, true⟩ (.t 2) (.t 63), none⟩, true, [])]) (.ret))))))
def zR : Fn := ⟨1, [(.cell 2 ⟨5, true⟩)], true, (.seq (.ops [⟨some 2, .alloc true [(.i .i64 0), (.i .i64 0), (.i .i64 0), (.s []), (.i .i32 0)], none⟩]) ((.seq ((.seq (.ops [⟨some 5, .buildSlice (.s []) 4 [(0, (.c (.s [60, 61]))), (1, (.c (.s [62, 61]))), (2, (.c (.s [58, 61]))), (3, (.c (.s [46, 46])))], none⟩, ⟨some 6, .bi .lenL [.t 5], none⟩, ⟨some 7, .mov (.c (.i .i64 0)), none⟩]) ((.block 0 [0, 2] (jW))))) (qbz)))), none, none⟩
def zu : C := (.seq (.ops [⟨some 9, .bin .lss .num (.t 8) (.t 7), none⟩]) ((.seq ((.cond (.t 9) (.skip) (.exit 0))) ((.seq ((.block 1 [0, 1, 7, 8] ((.seq (.ops [⟨some 10, .mov (.t 8), none⟩, ⟨some 5, .mov (.t 10), none⟩]) ((.seq (.ops [⟨some 11, .mov (.t 1), none⟩, ⟨some 12, .mov (.t 0), none⟩, ⟨some 13, .mov (.t 5), none⟩, ⟨some 14, .indexAddr (.t 12) (.t 13) 1 none, none⟩, ⟨some 15, .load false none ⟨1, false⟩ (.t 14), none⟩, ⟨some 16, .bin .eql .num (.t 11) (.t 15), none⟩]) ((.cond (.t 16) ((.seq (.ops [⟨some 17, .mov (.t 5), none⟩, ⟨some 4, .mov (.t 17), none⟩]) (.ret))) (.skip))))))))) (.ops [⟨some 18, .bin .add .num (.t 8) (.c (.i .i64 1)), none⟩, ⟨some 8, .mov (.t 18), none⟩]))))))
def zw : C := .loop [0, 1, 7, 8] zu
noncomputable def jb (pg : Pg) (v0 v1 v7 v8 : V) (H : List Obj) (lo : Nat) : Option (Ex × St) := exL pg zw ⟨[(0, v0), (1, v1), (7, v7), (8, v8)], H, lo⟩
theorem yW {pg : Pg} {e : Env} {H : List Obj} {lo : Nat} : exL pg zw ⟨e, H, lo⟩ = jb pg (qM (get 0 e)) (qM (get 1 e)) (qM (get 7 e)) (qM (get 8 e)) H lo := qcn
theorem y8 {pg : Pg} {v0 v1 v7 v8 : V} {H : List Obj} {lo : Nat} : jb pg v0 v1 v7 v8 H lo = y6 pg (exL pg zu ⟨[(0, qM v0), (1, qM v1), (7, qM v7), (8, qM v8)], H, lo⟩) zw := by
  unfold jb zw; rw [qaA]; simp only [qg, qm, qz, qC, Nat.reduceEqDiff]
def jc : C := (.seq (.ops [⟨some 4, .mov (.c (.i .i64 (-1))), none⟩]) (.ret))
def ju : Fn := ⟨2, [.t 4], true, (.seq (.ops [⟨some 4, .mov (.c (.i .i64 0)), none⟩]) ((.seq ((.seq (.ops [⟨some 6, .mov (.t 0), none⟩, ⟨some 7, .bi .lenL [.t 6], none⟩, ⟨some 8, .mov (.c (.i .i64 0)), none⟩]) ((.block 0 [] (zw))))) (jc)))), none, none⟩
def qbS : C := (.seq (.ops [⟨some 9, .bin .lss .num (.t 8) (.t 7), none⟩]) ((.seq ((.cond (.t 9) (.skip) (.exit 0))) ((.seq ((.block 1 [0, 1, 7, 8] ((.seq (.ops [⟨some 10, .mov (.t 8), none⟩, ⟨some 5, .mov (.t 10), none⟩]) ((.seq (.ops [⟨some 11, .mov (.t 1), none⟩, ⟨some 12, .mov (.t 0), none⟩, ⟨some 13, .mov (.t 5), none⟩, ⟨some 14, .indexAddr (.t 12) (.t 13) 6 none, none⟩, ⟨some 15, .load false none ⟨6, true⟩ (.t 14), none⟩, ⟨some 16, .call (.t 11) [.t 15], none⟩]) ((.cond (.t 16) ((.seq (.ops [⟨some 17, .mov (.t 5), none⟩, ⟨some 4, .mov (.t 17), none⟩]) (.ret))) (.skip))))))))) (.ops [⟨some 18, .bin .add .num (.t 8) (.c (.i .i64 1)), none⟩, ⟨some 8, .mov (.t 18), none⟩]))))))
def qbO : C := .loop [0, 1, 7, 8] qbS
def qbT : C := (.seq (.ops [⟨some 4, .mov (.c (.i .i64 (-1))), none⟩]) (.ret))
def yX : Fn := ⟨2, [.t 4], true, (.seq (.ops [⟨some 4, .mov (.c (.i .i64 0)), none⟩]) ((.seq ((.seq (.ops [⟨some 6, .mov (.t 0), none⟩, ⟨some 7, .bi .lenL [.t 6], none⟩, ⟨some 8, .mov (.c (.i .i64 0)), none⟩]) ((.block 0 [] (qbO))))) (qbT)))), none, none⟩
def j4 : Fn := ⟨2, [.t 4], true, (.seq (.ops [⟨some 4, .mov (.c (.b false)), none⟩]) ((.seq (.ops [⟨some 5, .mov (.mv 0), none⟩, ⟨some 6, .mov (.mv 1), none⟩, ⟨some 7, .call (.f 292) [.mv 5, (.mv 6)], none⟩, ⟨some 8, .bin .geq .num (.t 7) (.c (.i .i64 0)), none⟩, ⟨some 4, .mov (.t 8), none⟩]) (.ret)))), none, none⟩
def qbB : C := (.seq (.ops [⟨some 9, .bin .lss .num (.t 8) (.t 7), none⟩]) ((.seq ((.cond (.t 9) (.skip) (.exit 0))) ((.seq ((.block 1 [0, 1, 7, 8] ((.seq (.ops [⟨some 10, .mov (.t 8), none⟩, ⟨some 5, .mov (.t 10), none⟩]) ((.seq (.ops [⟨some 11, .mov (.t 1), none⟩, ⟨some 12, .mov (.t 0), none⟩, ⟨some 13, .mov (.t 5), none⟩, ⟨some 14, .indexAddr (.t 12) (.t 13) 8 none, none⟩, ⟨some 15, .load false none ⟨8, true⟩ (.t 14), none⟩, ⟨some 16, .call (.t 11) [.t 15], none⟩]) ((.cond (.t 16) ((.seq (.ops [⟨some 17, .mov (.t 5), none⟩, ⟨some 4, .mov (.t 17), none⟩]) (.ret))) (.skip))))))))) (.ops [⟨some 18, .bin .add .num (.t 8) (.c (.i .i64 1)), none⟩, ⟨some 8, .mov (.t 18), none⟩]))))))
def qbx : C := .loop [0, 1, 7, 8] qbB
def qbo : C := (.seq (.ops [⟨some 4, .mov (.c (.i .i64 (-1))), none⟩]) (.ret))
def yF : Fn := ⟨2, [.t 4], true, (.seq (.ops [⟨some 4, .mov (.c (.i .i64 0)), none⟩]) ((.seq ((.seq (.ops [⟨some 6, .mov (.t 0), none⟩, ⟨some 7, .bi .lenL [.t 6], none⟩, ⟨some 8, .mov (.c (.i .i64 0)), none⟩]) ((.block 0 [] (qbx))))) (qbo)))), none, none⟩
def qaX : C := (.seq (.ops [⟨some 9, .bin .lss .num (.t 8) (.t 7), none⟩]) ((.seq ((.cond (.t 9) (.skip) (.exit 0))) ((.seq ((.block 1 [0, 1, 7, 8] ((.seq (.ops [⟨some 10, .mov (.t 8), none⟩, ⟨some 5, .mov (.t 10), none⟩]) ((.seq (.ops [⟨some 11, .mov (.t 1), none⟩, ⟨some 12, .mov (.t 0), none⟩, ⟨some 13, .mov (.t 5), none⟩, ⟨some 14, .indexAddr (.t 12) (.t 13) 1 none, none⟩, ⟨some 15, .load false none ⟨1, false⟩ (.t 14), none⟩, ⟨some 16, .call (.t 11) [.t 15], none⟩]) ((.cond (.t 16) ((.seq (.ops [⟨some 17, .mov (.t 5), none⟩, ⟨some 4, .mov (.t 17), none⟩]) (.ret))) (.skip))))))))) (.ops [⟨some 18, .bin .add .num (.t 8) (.c (.i .i64 1)), none⟩, ⟨some 8, .mov (.t 18), none⟩]))))))
def qa3 : C := .loop [0, 1, 7, 8] qaX
def qa1 : C := (.seq (.ops [⟨some 4, .mov (.c (.i .i64 (-1))), none⟩]) (.ret))
def jU : Fn := ⟨2, [.t 4], true, (.seq (.ops [⟨some 4, .mov (.c (.i .i64 0)), none⟩]) ((.seq ((.seq (.ops [⟨some 6, .mov (.t 0), none⟩, ⟨some 7, .bi .lenL [.t 6], none⟩, ⟨some 8, .mov (.c (.i .i64 0)), none⟩]) ((.block 0 [] (qa3))))) (qa1)))), none, none⟩
def qeA : Fn := ⟨2, [.t 4], true, (.seq (.ops [⟨some 3, .box true (.t 1), none⟩,
 ⟨some 4, .mov (.c (.i .i64 0)), none⟩]) ((.seq ((.block 0 [] ((.seq (.ops [⟨some 7, .load false (some 3) ⟨4, true⟩ (.t 3), none⟩,
 ⟨some 8, .call (.f 147) [.t 7], none⟩,
 ⟨some 9, .un .not (.t 8), none⟩,
 ⟨some 6, .mov (.t 9), none⟩]) ((.cond (.t 6) ((.seq (.ops [⟨some 4, .mov (.c (.i .i64 (-1))), none⟩]) (.ret))) ((.seq (.ops [⟨some 11, .fieldAddr (.t 3) 0 ⟨1, false⟩, none⟩,
 ⟨some 12, .load false (some 3) ⟨1, false⟩ (.t 11), none⟩,
 ⟨some 13, .bin .eql .num (.t 12) (.c (.i .i64 7)), none⟩,
 ⟨some 10, .mov (.t 13), none⟩]) ((.cond (.t 10) ((.seq (.ops [⟨some 14, .mov (.mv 0), none⟩,
 ⟨some 15, .fieldAddr (.t 3) 3 ⟨1, false⟩, none⟩,
 ⟨some 16, .load false (some 3) ⟨1, false⟩ (.t 15), none⟩,
 ⟨some 17, .indexAddr (.t 16) (.c (.i .i64 0)) 4 none, none⟩,
 ⟨some 18, .load false none ⟨4, true⟩ (.t 17), none⟩,
 ⟨some 19, .call (.f 242) [.mv 14, (.t 18)], none⟩,
 ⟨some 5, .mov (.mv 19), none⟩]) ((.seq ((.seq (.ops [⟨some 20, .mov (.t 5), none⟩,
 ⟨some 21, .bin .lss .num (.t 20) (.c (.i .i64 0)), none⟩,
 ⟨some 22, .mov (.t 21), none⟩,
 ⟨some 23, .mov (.t 5), some (22, false)⟩,
 ⟨some 24, .fieldAddr (.t 3) 1 ⟨1, false⟩, some (22, false)⟩,
 ⟨some 25, .load false (some 3) ⟨1, false⟩ (.t 24), some (22, false)⟩,
 ⟨some 26, .bin .quo .num (.c (.i .i64 16384)) (.t 25), some (22, false)⟩,
 ⟨some 27, .bin .gtr .num (.t 23) (.t 26), some (22, false)⟩,
 ⟨some 28, .pick (.t 22) (.c (.b true)) (.t 27), none⟩]) ((.cond (.t 28) ((.seq (.ops [⟨some 4, .mov (.c (.i .i64 (-1))), none⟩]) (.ret))) (.skip))))) ((.seq (.ops [⟨some 29, .mov (.t 5), none⟩,
 ⟨some 30, .fieldAddr (.t 3) 1 ⟨1, false⟩, none⟩,
 ⟨some 31, .load false (some 3) ⟨1, false⟩ (.t 30), none⟩,
 ⟨some 32, .bin .mul .num (.t 29) (.t 31), none⟩,
 ⟨some 4, .mov (.t 32), none⟩]) (.ret))))))) ((.seq (.ops [⟨some 34, .fieldAddr (.t 3) 0 ⟨1, false⟩, none⟩,
 ⟨some 35, .load false (some 3) ⟨1, false⟩ (.t 34), none⟩,
 ⟨some 36, .bin .eql .num (.t 35) (.c (.i .i64 8)), none⟩,
 ⟨some 33, .mov (.t 36), none⟩]) ((.cond (.t 33) ((.seq (.ops [⟨some 37, .mov (.mv 0), none⟩,
 ⟨some 38, .fieldAddr (.t 3) 2 ⟨1, false⟩, none⟩,
 ⟨some 39, .load false (some 3) ⟨1, false⟩ (.t 38), none⟩,
 ⟨some 40, .call (.f 293) [.mv 37, (.t 39)], none⟩,
 ⟨some 4, .mov (.mv 40), none⟩]) (.ret))) (.skip))))))))))))))) ((.seq (.ops [⟨some 4, .mov (.c (.i .i64 1)), none⟩]) (.ret)))))), none, none⟩
def qfj : Fn := ⟨2, [.t 4], true, (.seq (.ops [⟨some 4, .mov (.c (.b false)), none⟩]) ((.seq (.ops [⟨some 5, .mov (.mv 0), none⟩, ⟨some 6, .mov (.mv 1), none⟩, ⟨some 7, .call (.f 294) [.mv 5, (.mv 6)], none⟩, ⟨some 8, .bin .geq .num (.t 7) (.c (.i .i64 0)), none⟩, ⟨some 4, .mov (.t 8), none⟩]) (.ret)))), none, none⟩
def qhd : Fn := ⟨2, [.t 4], true, (.seq (.ops [⟨some 2, .box true (.t 0), none⟩, ⟨some 3, .box true (.t 1), none⟩, ⟨some 4, .mov (.c (.b false)), none⟩]) ((.seq (.ops [⟨some 5, .fieldAddr (.t 2) 0 ⟨1, false⟩, none⟩, ⟨some 6, .load false (some 2) ⟨1, false⟩ (.t 5), none⟩, ⟨some 7, .fieldAddr (.t 3) 0 ⟨1, false⟩, none⟩, ⟨some 8, .load false (some 3) ⟨1, false⟩ (.t 7), none⟩, ⟨some 9, .bin .eql .num (.t 6) (.t 8), none⟩, ⟨some 10, .mov (.t 9), none⟩, ⟨some 11, .fieldAddr (.t 2) 1 ⟨1, false⟩, some (10, true)⟩, ⟨some 12, .load false (some 2) ⟨1, false⟩ (.t 11), some (10, true)⟩, ⟨some 13, .fieldAddr (.t 3) 1 ⟨1, false⟩, some (10, true)⟩, ⟨some 14, .load false (some 3) ⟨1, false⟩ (.t 13), some (10, true)⟩, ⟨some 15, .bin .eql .num (.t 12) (.t 14), some (10, true)⟩, ⟨some 16, .pick (.t 10) (.t 15) (.c (.b false)), none⟩, ⟨some 17, .mov (.t 16), none⟩, ⟨some 18, .fieldAddr (.t 2) 2 ⟨1, false⟩, some (17, true)⟩, ⟨some 19, .load false (some 2) ⟨1, false⟩ (.t 18), some (17, true)⟩, ⟨some 20, .fieldAddr (.t 3) 2 ⟨1, false⟩, some (17, true)⟩, ⟨some 21, .load false (some 3) ⟨1, false⟩ (.t 20), some (17, true)⟩, ⟨some 22, .bin .eql .num (.t 19) (.t 21), some (17, true)⟩, ⟨some 23, .pick (.t 17) (.t 22) (.c (.b false)), none⟩, ⟨some 24, .mov (.t 23), none⟩, ⟨some 25, .fieldAddr (.t 2) 3 ⟨1, false⟩, some (24, true)⟩, ⟨some 26, .load false (some 2) ⟨1, false⟩ (.t 25), some (24, true)⟩, ⟨some 27, .fieldAddr (.t 3) 3 ⟨1, false⟩, some (24, true)⟩, ⟨some 28, .load false (some 3) ⟨1, false⟩ (.t 27), some (24, true)⟩, ⟨some 29, .call (.f 254) [.t 26, (.t 28), (.f 252)], some (24, true)⟩, ⟨some 30, .pick (.t 24) (.t 29) (.c (.b false)), none⟩, ⟨some 4, .mov (.t 30), none⟩]) (.ret)))), none, none⟩
def j3 : C := (.seq (.ops [⟨some 18, .bin .lss .num (.t 17) (.t 16), none⟩]) ((.seq ((.cond (.t 18) (.skip) (.exit 0))) ((.seq ((.block 1 [1, 2, 15, 16, 17] ((.seq (.ops [⟨some 19, .mov (.t 17), none⟩, ⟨some 20, .indexAddr (.t 15) (.t 17) 8 none, none⟩, ⟨some 21, .load false none ⟨8, true⟩ (.t 20), none⟩, ⟨some 8, .alloc true [(.i .i64 0), (.i .i64 0), (.i .i64 0), (.s []), .nil, (.i .i32 0), (.s []), .nil], none⟩, ⟨some 7, .mov (.t 19), none⟩, ⟨none, .store (some 8) ⟨8, true⟩ (.t 8) (.t 21), none⟩]) ((.seq (.ops [⟨some 22, .mov (.t 1), none⟩, ⟨some 23, .mov (.t 7), none⟩, ⟨some 24, .indexAddr (.t 22) (.t 23) 8 none, none⟩, ⟨some 25, .load false none ⟨8, true⟩ (.t 24), none⟩, ⟨some 9, .alloc true [(.i .i64 0), (.i .i64 0), (.i .i64 0), (.s []), .nil, (.i .i32 0), (.s []), .nil], none⟩, ⟨none, .store (some 9) ⟨8, true⟩ (.t 9) (.t 25), none⟩]) ((.seq (.ops [⟨some 26, .mov (.t 2), none⟩, ⟨some 27, .load false (some 8) ⟨8, true⟩ (.t 8), none⟩, ⟨some 28, .load false (some 9) ⟨8, true⟩ (.t 9), none⟩, ⟨some 29, .call (.t 26) [.t 27, (.t 28)], none⟩, ⟨some 30, .un .not (.t 29), none⟩]) ((.cond (.t 30) ((.seq (.ops [⟨some 6, .mov (.c (.b false)), none⟩]) (.ret))) (.skip))))))))))) (.ops [⟨some 31, .bin .add .num (.t 17) (.c (.i .i64 1)), none⟩, ⟨some 17, .mov (.t 31), none⟩]))))))
def j1 : C := .loop [1, 2, 15, 16, 17] j3
def j5 : C := (.seq (.ops [⟨some 6, .mov (.c (.b true)), none⟩]) (.ret))
def zP : Fn := ⟨3, [.t 6], true, (.seq (.ops [⟨some 6, .mov (.c (.b false)), none⟩]) ((.seq ((.seq (.ops [⟨some 10, .mov (.t 0), none⟩, ⟨some 11, .bi .lenL [.t 10], none⟩, ⟨some 12, .mov (.t 1), none⟩, ⟨some 13, .bi .lenL [.t 12], none⟩, ⟨some 14, .bin .neq .num (.t 11) (.t 13), none⟩]) ((.cond (.t 14) ((.seq (.ops [⟨some 6, .mov (.c (.b false)), none⟩]) (.ret))) (.skip))))) ((.seq ((.seq (.ops [⟨some 15, .mov (.t 0), none⟩, ⟨some 16, .bi .lenL [.t 15], none⟩, ⟨some 17, .mov (.c (.i .i64 0)), none⟩]) ((.block 0 [] (j1))))) (j5)))))), none, none⟩
def j0 : C := (.seq (.ops [⟨some 18, .bin .lss .num (.t 17) (.t 16), none⟩]) ((.seq ((.cond (.t 18) (.skip) (.exit 0))) ((.seq ((.block 1 [1, 2, 15, 16, 17] ((.seq (.ops [⟨some 19, .mov (.t 17), none⟩, ⟨some 20, .indexAddr (.t 15) (.t 17) 4 none, none⟩, ⟨some 21, .load false none ⟨4, true⟩ (.t 20), none⟩, ⟨some 8, .alloc true [(.i .i64 0), (.i .i64 0), (.s []), .nil], none⟩, ⟨some 7, .mov (.t 19), none⟩, ⟨none, .store (some 8) ⟨4, true⟩ (.t 8) (.t 21), none⟩]) ((.seq (.ops [⟨some 22, .mov (.t 1), none⟩, ⟨some 23, .mov (.t 7), none⟩, ⟨some 24, .indexAddr (.t 22) (.t 23) 4 none, none⟩, ⟨some 25, .load false none ⟨4, true⟩ (.t 24), none⟩, ⟨some 9, .alloc true [(.i .i64 0), (.i .i64 0), (.s []), .nil], none⟩, ⟨none, .store (some 9) ⟨4, true⟩ (.t 9) (.t 25), none⟩]) ((.seq (.ops [⟨some 26, .mov (.t 2), none⟩, ⟨some 27, .load false (some 8) ⟨4, true⟩ (.t 8), none⟩, ⟨some 28, .load false (some 9) ⟨4, true⟩ (.t 9), none⟩, ⟨some 29, .call (.t 26) [.t 27, (.t 28)], none⟩, ⟨some 30, .un .not (.t 29), none⟩]) ((.cond (.t 30) ((.seq (.ops [⟨some 6, .mov (.c (.b false)), none⟩]) (.ret))) (.skip))))))))))) (.ops [⟨some 31, .bin .add .num (.t 17) (.c (.i .i64 1)), none⟩, ⟨some 17, .mov (.t 31), none⟩]))))))
def jX : C := .loop [1, 2, 15, 16, 17] j0
def jV : C := (.seq (.ops [⟨some 6, .mov (.c (.b true)), none⟩]) (.ret))
def zO : Fn := ⟨3, [.t 6], true, (.seq (.ops [⟨some 6, .mov (.c (.b false)), none⟩]) ((.seq ((.seq (.ops [⟨some 10, .mov (.t 0), none⟩, ⟨some 11, .bi .lenL [.t 10], none⟩, ⟨some 12, .mov (.t 1), none⟩, ⟨some 13, .bi .lenL [.t 12], none⟩, ⟨some 14, .bin .neq .num (.t 11) (.t 13), none⟩]) ((.cond (.t 14) ((.seq (.ops [⟨some 6, .mov (.c (.b false)), none⟩]) (.ret))) (.skip))))) ((.seq ((.seq (.ops [⟨some 15, .mov (.t 0), none⟩, ⟨some 16, .bi .lenL [.t 15], none⟩, ⟨some 17, .mov (.c (.i .i64 0)), none⟩]) ((.block 0 [] (jX))))) (jV)))))), none, none⟩
def qa5 : Fn := ⟨2, [.t 4], true, (.seq (.ops [⟨some 4, .mov (.c (.b false)), none⟩]) ((.seq (.ops [⟨some 5, .mov (.mv 0), none⟩, ⟨some 6, .mov (.mv 1), none⟩, ⟨some 7, .call (.f 299) [.mv 5, (.mv 6)], none⟩, ⟨some 4, .mov (.mv 7), none⟩]) (.ret)))), none, none⟩
def qhA : C := (.seq (.ops [⟨some 74, .bin .lss .num (.t 73) (.t 72), none⟩]) ((.seq ((.cond (.t 74) (.skip) (.exit 0))) ((.seq ((.block 1 [3, 71, 72, 73] ((.seq (.ops [⟨some 75, .mov (.t 73), none⟩, ⟨some 76, .indexAddr (.t 71) (.t 73) 1 none, none⟩, ⟨some 77, .load false none ⟨1, false⟩ (.t 76), none⟩, ⟨some 7, .mov (.t 75), none⟩, ⟨some 8, .mov (.t 77), none⟩]) ((.seq (.ops [⟨some 78, .fieldAddr (.t 3) 1 ⟨1, false⟩, none⟩, ⟨some 79, .load false (some 3) ⟨1, false⟩ (.t 78), none⟩, ⟨some 80, .mov (.t 7), none⟩, ⟨some 81, .indexAddr (.t 79) (.t 80) 8 none, none⟩, ⟨some 82, .fieldAddr (.t 81) 1 ⟨4, true⟩, none⟩, ⟨some 83, .fieldAddr (.t 82) 0 ⟨1, false⟩, none⟩, ⟨some 84, .load false none ⟨1, false⟩ (.t 83), none⟩, ⟨some 85, .mov (.t 8), none⟩, ⟨some 86, .bin .neq .num (.t 84) (.t 85), none⟩]) ((.cond (.t 86) ((.seq (.ops [⟨some 4, .mov (.c (.b false)), none⟩]) (.ret))) (.skip))))))))) (.ops [⟨some 87, .bin .add .num (.t 73) (.c (.i .i64 1)), none⟩, ⟨some 73, .mov (.t 87), none⟩]))))))
def qhI : C := .loop [3, 71, 72, 73] qhA
def qhD : C := (.seq (.ops [⟨some 4, .mov (.c (.b true)), none⟩]) (.ret))
def qgf : Fn := ⟨2, [.t 4], true, (.seq (.ops [⟨some 3, .box true (.t 1), none⟩,
 ⟨some 4, .mov (.c (.b false)), none⟩]) ((.seq ((.seq (.ops [⟨some 9, .fieldAddr (.t 3) 0 ⟨1, false⟩, none⟩,
 ⟨some 10, .load false (some 3) ⟨1, false⟩ (.t 9), none⟩,
 ⟨some 11, .bin .eql .num (.t 10) (.c (.i .i64 16)), none⟩]) ((.cond (.t 11) ((.seq (.ops [⟨some 12, .fieldAddr (.t 3) 1 ⟨1, false⟩, none⟩,
 ⟨some 13, .load false (some 3) ⟨1, false⟩ (.t 12), none⟩,
 ⟨some 14, .bi .lenL [.t 13], none⟩,
 ⟨some 15, .bin .eql .num (.t 14) (.c (.i .i64 1)), none⟩,
 ⟨some 16, .mov (.t 15), none⟩,
 ⟨some 17, .fieldAddr (.t 3) 1 ⟨1, false⟩, some (16, true)⟩,
 ⟨some 18, .load false (some 3) ⟨1, false⟩ (.t 17), some (16, true)⟩,
 ⟨some 19, .indexAddr (.t 18) (.c (.i .i64 0)) 8 none, some (16, true)⟩,
 ⟨some 20, .fieldAddr (.t 19) 0 ⟨1, false⟩, some (16, true)⟩,
 ⟨some 21, .load false none ⟨1, false⟩ (.t 20), some (16, true)⟩,
 ⟨some 22, .bin .eql .num (.t 21) (.c (.i .i64 0)), some (16, true)⟩,
 ⟨some 23, .mov (.t 22), some (16, true)⟩,
 ⟨some 24, .fieldAddr (.t 3) 1 ⟨1, false⟩, some (23, true)⟩,
 ⟨some 25, .load false (some 3) ⟨1, false⟩ (.t 24), some (23, true)⟩,
 ⟨some 26, .indexAddr (.t 25) (.c (.i .i64 0)) 8 none, some (23, true)⟩,
 ⟨some 27, .fieldAddr (.t 26) 1 ⟨4, true⟩, some (23, true)⟩,
 ⟨some 28, .fieldAddr (.t 27) 0 ⟨1, false⟩, some (23, true)⟩,
 ⟨some 29, .load false none ⟨1, false⟩ (.t 28), some (23, true)⟩,
 ⟨some 30, .bin .eql .num (.t 29) (.c (.i .i64 6)), some (23, true)⟩,
 ⟨some 31, .pick (.t 23) (.t 30) (.c (.b false)), some (16, true)⟩,
 ⟨some 32, .mov (.t 31), some (16, true)⟩,
 ⟨some 33, .fieldAddr (.t 3) 1 ⟨1, false⟩, some (32, false)⟩,
 ⟨some 34, .load false (some 3) ⟨1, false⟩ (.t 33), some (32, false)⟩,
 ⟨some 35, .indexAddr (.t 34) (.c (.i .i64 0)) 8 none, some (32, false)⟩,
 ⟨some 36, .load false none ⟨8, true⟩ (.t 35), some (32, false)⟩,
 ⟨some 37, .call (.f 300) [.t 36], some (32, false)⟩,
 ⟨some 38, .pick (.t 32) (.c (.b true)) (.t 37), some (16, true)⟩,
 ⟨some 39, .pick (.t 16) (.t 38) (.c (.b false)), none⟩,
 ⟨some 4, .mov (.t 39), none⟩]) (.ret))) (.skip))))) ((.seq (.ops [⟨some 41, .fieldAddr (.t 3) 0 ⟨1, false⟩, none⟩,
 ⟨some 42, .load false (some 3) ⟨1, false⟩ (.t 41), none⟩,
 ⟨some 43, .call (.f 301) [.t 42], none⟩,
 ⟨some 40, .mov (.t 43), none⟩,
 ⟨some 44, .extract (.t 40) 0, none⟩,
 ⟨some 45, .extract (.t 40) 1, none⟩,
 ⟨some 5, .mov (.t 44), none⟩,
 ⟨some 6, .mov (.t 45), none⟩]) ((.seq ((.seq (.ops [⟨some 46, .fieldAddr (.t 3) 1 ⟨1, false⟩, none⟩,
 ⟨some 47, .load false (some 3) ⟨1, false⟩ (.t 46), none⟩,
 ⟨some 48, .bi .lenL [.t 47], none⟩,
 ⟨some 49, .mov (.t 5), none⟩,
 ⟨some 50, .bi .lenL [.t 49], none⟩,
 ⟨some 51, .bin .neq .num (.t 48) (.t 50), none⟩,
 ⟨some 52, .mov (.t 51), none⟩,
 ⟨some 53, .mov (.t 6), some (52, false)⟩,
 ⟨some 54, .mov (.t 53), some (52, false)⟩,
 ⟨some 55, .fieldAddr (.t 3) 1 ⟨1, false⟩, some (54, true)⟩,
 ⟨some 56, .load false (some 3) ⟨1, false⟩ (.t 55), some (54, true)⟩,
 ⟨some 57, .indexAddr (.t 56) (.c (.i .i64 0)) 8 none, some (54, true)⟩,
 ⟨some 58, .load false none ⟨8, true⟩ (.t 57), some (54, true)⟩,
 ⟨some 59, .call (.f 165) [.t 58], some (54, true)⟩,
 ⟨some 60, .mov (.mv 59), some (54, true)⟩,
 ⟨some 61, .mov (.t 0), some (60, true)⟩,
 ⟨some 62, .fieldAddr (.t 3) 1 ⟨1, false⟩, some (60, true)⟩,
 ⟨some 63, .load false (some 3) ⟨1, false⟩ (.t 62), some (60, true)⟩,
 ⟨some 64, .indexAddr (.t 63) (.c (.i .i64 0)) 8 none, some (60, true)⟩,
 ⟨some 65, .load false none ⟨8, true⟩ (.t 64), some (60, true)⟩,
 ⟨some 66, .call (.f 166) [.t 61, (.t 65)], some (60, true)⟩,
 ⟨some 67, .pick (.t 60) (.t 66) (.c (.b false)), some (54, true)⟩,
 ⟨some 68, .un .not (.t 67), some (54, true)⟩,
 ⟨some 69, .pick (.t 54) (.t 68) (.c (.b false)), some (52, false)⟩,
 ⟨some 70, .pick (.t 52) (.c (.b true)) (.t 69), none⟩]) ((.cond (.t 70) ((.seq (.ops [⟨some 4, .mov (.c (.b false)), none⟩]) (.ret))) (.skip))))) ((.seq ((.seq (.ops [⟨some 71, .mov (.t 5), none⟩,
 ⟨some 72, .bi .lenL [.t 71], none⟩,
 ⟨some 73, .mov (.c (.i .i64 0)), none⟩]) ((.block 0 [] (qhI))))) (qhD)))))))))), none, none⟩
def qgb : Fn := ⟨2, [], false, .ops [⟨some 4, .mov (.t 0), none⟩, ⟨some 5, .mov (.t 1), none⟩, ⟨some 6, .build [(.i .i64 0), (.i .i64 0)] [(0, 1, (.t 4)), (1, 1, (.t 5))], none⟩, ⟨some 7, .build [(.i .i64 0), (.i .i64 0)] [(0, 2, (.t 6))], none⟩, ⟨some 8, .mkIfc 157 (.t 7), none⟩, ⟨none, .panic (.t 8), none⟩], none, none⟩
def jR : C := (.seq ((.seq (.opsD [(⟨some 10, .mov (.t 0), none⟩, false, []), (⟨some 11, .nilCheck (.t 10), none⟩, false, []), (⟨some 12, .fieldAddr (.t 11) 1 ⟨1, false⟩, none⟩, false, []), (⟨some 13, .load false none ⟨1, false⟩ (.t 12), none⟩, false, []), (⟨some 14, .mov (.t 0), none⟩, false, []), (⟨some 15, .nilCheck (.t 14), none⟩, false, []), (⟨some 16, .fieldAddr (.t 15) 0 ⟨1, false⟩, none⟩, false, []), (⟨some 17, .load false none ⟨1, false⟩ (.t 16), none⟩, false, []), (⟨some 18, .bi .lenS [.t 17], none⟩, false, []), (⟨some 19, .bin .lss .num (.t 13) (.t 18), none⟩, true, []), (⟨some 20, .mov (.t 19), none⟩, true, []), (⟨some 21, .mov (.t 1), some (20, true)⟩, false, []), (⟨some 22, .mov (.t 0), some (20, true)⟩, false, []), (⟨some 23, .nilCheck (.t 22), some (20, true)⟩, false, []), (⟨some 24, .fieldAddr (.t 23) 0 ⟨1, false⟩, some (20, true)⟩, false, []), (⟨some 25, .load false none ⟨1, false⟩ (.t 24), some (20, true)⟩, false, []), (⟨some 26, .mov (.t 0), some (20, true)⟩, false, []), (⟨some 27, .nilCheck (.t 26), some (20, true)⟩, false, []), (⟨some 28, .fieldAddr (.t 27) 1 ⟨1, false⟩, some (20, true)⟩, false, []), (⟨some 29, .load false none ⟨1, false⟩ (.t 28), some (20, true)⟩, false, []), (⟨some 30, .index (.t 25) (.t 29), some (20, true)⟩, false, []), (⟨some 31, .call (.t 21) [.t 30], some (20, true)⟩, true, []), (⟨some 32, .pick (.t 20) (.t 31) (.c (.b false)), none⟩, true, [])]) ((.cond (.t 32) (.skip) (.exit 0))))) ((.block 1 [0, 1, 5] (.ops [⟨some 33, .mov (.t 0), none⟩, ⟨some 34, .nilCheck (.t 33), none⟩, ⟨some 35, .fieldAddr (.t 34) 1 ⟨1, false⟩, none⟩, ⟨some 36, .load false none ⟨1, false⟩ (.t 35), none⟩, ⟨some 37, .bin .add .num (.t 36) (.c (.i .i64 1)), none⟩, ⟨some 38, .nilCheck (.t 33), none⟩, ⟨some 39, .fieldAddr (.t 38) 1 ⟨1, false⟩, none⟩, ⟨none, .store none ⟨1, false⟩ (.t 39) (.t 37), none⟩]))))
def jS : C := .loop [0, 1, 5] jR
noncomputable def yV (pg : Pg) (v0 v1 v5 : V) (H : List Obj) (lo : Nat) : Option (Ex × St) := exL pg jS ⟨[(0, v0), (1, v1), (5, v5)], H, lo⟩
theorem qb2 {pg : Pg} {e : Env} {H : List Obj} {lo : Nat} : exL pg jS ⟨e, H, lo⟩ = yV pg (qM (get 0 e)) (qM (get 1 e)) (qM (get 5 e)) H lo := qcn
theorem qb5 {pg : Pg} {v0 v1 v5 : V} {H : List Obj} {lo : Nat} : yV pg v0 v1 v5 H lo = y6 pg (exL pg jR ⟨[(0, qM v0), (1, qM v1), (5, qM v5)], H, lo⟩) jS := by
  unfold yV jS; rw [qaA]; simp only [qg, qm, qz, qC, Nat.reduceEqDiff]
def qc2 : C := (.seq (.opsD [(⟨some 40, .mov (.t 0), none⟩, false, []), (⟨some 41, .nilCheck (.t 40), none⟩, false, []), (⟨some 42, .fieldAddr (.t 41) 0 ⟨1, false⟩, none⟩, false, []), (⟨some 43, .load false none ⟨1, false⟩ (.t 42), none⟩, false, []), (⟨some 44, .mov (.t 5), none⟩, false, []), (⟨some 45, .mov (.t 0), none⟩, false, []), (⟨some 46, .nilCheck (.t 45), none⟩, false, []), (⟨some 47, .fieldAddr (.t 46) 1 ⟨1, false⟩, none⟩, false, []), (⟨some 48, .load false none ⟨1, false⟩ (.t 47), none⟩, false, []), (⟨some 49, .sliceS (.t 43) (some (.t 44)) (some (.t 48)), none⟩, true, []), (⟨some 4, .mov (.t 49), none⟩, true, [])]) (.ret))
def qaV : Fn := ⟨2, [.t 4], true, (.seq (.ops [⟨some 4, .mov (.c (.s [])), none⟩]) ((.seq (.ops [⟨some 6, .mov (.t 0), none⟩, ⟨some 7, .nilCheck (.t 6), none⟩, ⟨some 8, .fieldAddr (.t 7) 1 ⟨1, false⟩, none⟩, ⟨some 9, .load false none ⟨1, false⟩ (.t 8), none⟩, ⟨some 5, .mov (.t 9), none⟩]) ((.seq ((.block 0 [0, 5] (jS))) (qc2)))))), none, none⟩
def qeK : Fn := ⟨1, [.t 2], true, (.seq (.ops [⟨some 2, .mov (.c (.b false)), none⟩]) ((.seq (.ops [⟨some 3, .mov (.t 0), none⟩, ⟨some 4, .call (.f 174) [.t 3], none⟩, ⟨some 5, .mov (.mv 4), none⟩, ⟨some 6, .mov (.t 0), some (5, false)⟩, ⟨some 7, .call (.f 176) [.t 6], some (5, false)⟩, ⟨some 8, .pick (.t 5) (.c (.b true)) (.t 7), none⟩, ⟨some 2, .mov (.t 8), none⟩]) (.ret)))), none, none⟩
def qhh : Fn := ⟨0, [.t 0], true, (.seq (.ops [⟨some 0, .mov (.c .nil), none⟩]) ((.seq (.ops [⟨some 1, .call (.f 85) [(.c (.s [65, 82, 82, 65, 89, 32, 66, 69, 71, 73, 78, 32, 66, 89, 32, 67, 65, 83, 69, 32, 67, 79, 78, 83, 84, 32, 68, 73, 86, 32, 68, 79, 32, 69, 76, 83, 69, 32, 69, 76, 83, 73, 70, 32, 69, 78, 68, 32, 70, 65, 76, 83, 69, 32, 70, 79, 82, 32, 73, 70, 32, 73, 77, 80, 79, 82, 84, 32, 73, 78, 32, 73, 83, 32, 77, 79, 68, 32, 77, 79, 68, 85, 76, 69, 32, 78, 73, 76, 32, 79, 70, 32, 79, 82, 32, 80, 79, 73, 78, 84, 69, 82, 32, 80, 82, 79, 67, 69, 68, 85, 82, 69, 32, 82, 69, 67, 79, 82, 68, 32, 82, 69, 80, 69, 65, 84, 32, 82, 69, 84, 85, 82, 78, 32, 84, 72, 69, 78, 32, 84, 79, 32, 84, 82, 85, 69, 32, 84, 89, 80, 69, 32, 85, 78, 84, 73, 76, 32, 86, 65, 82, 32, 87, 72, 73, 76, 69]))], none⟩, ⟨some 0, .mov (.mv 1), none⟩]) (.ret)))), none, none⟩
def qgW : Fn := ⟨1, [.t 2], true, (.seq (.ops [⟨some 2, .mov (.c (.b false)), none⟩]) ((.seq (.ops [⟨some 3, .mov (.t 0), none⟩, ⟨some 4, .call (.f 176) [.t 3], none⟩, ⟨some 5, .mov (.mv 4), none⟩, ⟨some 6, .mov (.t 0), some (5, false)⟩, ⟨some 7, .bin .geq .num (.t 6) (.c (.i .u8 65)), some (5, false)⟩, ⟨some 8, .mov (.t 7), some (5, false)⟩, ⟨some 9, .mov (.t 0), some (8, true)⟩, ⟨some 10, .bin .leq .num (.t 9) (.c (.i .u8 70)), some (8, true)⟩, ⟨some 11, .pick (.t 8) (.t 10) (.c (.b false)), some (5, false)⟩, ⟨some 12, .pick (.t 5) (.c (.b true)) (.t 11), none⟩, ⟨some 2, .mov (.t 12), none⟩]) (.ret)))), none, none⟩
def qaf : Fn := ⟨3, [.t 6, (.t 7)], false, (.seq (.ops [⟨some 6, .mov (.c (.i .u64 0)), none⟩, ⟨some 7, .mov (.c .ni), none⟩]) ((.seq (.ops [⟨some 11, .mov (.t 0), none⟩, ⟨some 12, .mov (.t 1), none⟩, ⟨some 13, .mov (.t 2), none⟩, ⟨some 14, .call (.f 303) [.t 11, (.t 12), (.t 13)], none⟩, ⟨some 10, .mov (.t 14), none⟩, ⟨some 15, .extract (.t 10) 0, none⟩, ⟨some 16, .extract (.t 10) 1, none⟩, ⟨some 8, .mov (.t 15), none⟩, ⟨some 9, .mov (.t 16), none⟩]) ((.seq ((.seq (.ops [⟨some 17, .mov (.t 9), none⟩, ⟨some 18, .bin .neq .iface (.t 17) (.c .ni), none⟩]) ((.cond (.t 18) ((.seq (.ops [⟨some 19, .mov (.t 8), none⟩, ⟨some 20, .mov (.mv 0), none⟩, ⟨some 21, .mov (.mv 1), none⟩, ⟨some 22, .mov (.mv 2), none⟩, ⟨some 23, .mov (.mv 9), none⟩, ⟨some 24, .call (.f 304) [(.c (.s [80, 97, 114, 115, 101, 85, 105, 110, 116])), (.mv 20), (.mv 21), (.mv 22), (.mv 23)], none⟩, ⟨some 6, .mov (.t 19), none⟩, ⟨some 7, .mov (.mv 24), none⟩]) (.ret))) (.skip))))) ((.seq (.ops [⟨some 25, .mov (.t 8), none⟩, ⟨some 6, .mov (.t 25), none⟩, ⟨some 7, .mov (.c .ni), none⟩]) (.ret)))))))), none, none⟩
def qaF : Fn := ⟨1, [.t 2], true, (.seq (.ops [⟨some 2, .mov (.c (.b false)), none⟩]) ((.seq (.ops [⟨some 3, .mov (.t 0), none⟩, ⟨some 4, .bin .geq .num (.t 3) (.c (.i .u8 32)), none⟩, ⟨some 5, .mov (.t 4), none⟩, ⟨some 6, .mov (.t 0), some (5, true)⟩, ⟨some 7, .bin .neq .num (.t 6) (.c (.i .u8 34)), some (5, true)⟩, ⟨some 8, .pick (.t 5) (.t 7) (.c (.b false)), none⟩, ⟨some 2, .mov (.t 8), none⟩]) (.ret)))), none, none⟩
def qbu : C := (.seq (.ops [⟨some 9, .bin .lss .num (.t 8) (.t 7), none⟩]) ((.seq ((.cond (.t 9) (.skip) (.exit 0))) ((.seq ((.block 1 [0, 1, 7, 8] ((.seq (.ops [⟨some 10, .mov (.t 8), none⟩, ⟨some 5, .mov (.t 10), none⟩]) ((.seq (.ops [⟨some 11, .mov (.t 1), none⟩, ⟨some 12, .mov (.t 0), none⟩, ⟨some 13, .mov (.t 5), none⟩, ⟨some 14, .indexAddr (.t 12) (.t 13) 4 none, none⟩, ⟨some 15, .load false none ⟨4, true⟩ (.t 14), none⟩, ⟨some 16, .call (.t 11) [.t 15], none⟩]) ((.cond (.t 16) ((.seq (.ops [⟨some 17, .mov (.t 5), none⟩, ⟨some 4, .mov (.t 17), none⟩]) (.ret))) (.skip))))))))) (.ops [⟨some 18, .bin .add .num (.t 8) (.c (.i .i64 1)), none⟩, ⟨some 8, .mov (.t 18), none⟩]))))))
def qbt : C := .loop [0, 1, 7, 8] qbu
def qbp : C := (.seq (.ops [⟨some 4, .mov (.c (.i .i64 (-1))), none⟩]) (.ret))
def yE : Fn := ⟨2, [.t 4], true, (.seq (.ops [⟨some 4, .mov (.c (.i .i64 0)), none⟩]) ((.seq ((.seq (.ops [⟨some 6, .mov (.t 0), none⟩, ⟨some 7, .bi .lenL [.t 6], none⟩, ⟨some 8, .mov (.c (.i .i64 0)), none⟩]) ((.block 0 [] (qbt))))) (qbp)))), none, none⟩
def qhg : Fn := ⟨2, [.t 4], true, (.seq (.ops [⟨some 4, .mov (.c (.i .i64 0)), none⟩]) ((.seq (.ops [⟨some 5, .mov (.mv 0), none⟩, ⟨some 6, .mov (.mv 1), none⟩, ⟨some 7, .call (.f 322) [.mv 5, (.mv 6)], none⟩, ⟨some 4, .mov (.mv 7), none⟩]) (.ret)))), none, none⟩
def zG : Fn := ⟨2, [.t 4], true, (.seq (.ops [⟨some 4, .mov (.c (.b false)), none⟩]) ((.seq (.ops [⟨some 5, .mov (.t 0), none⟩, ⟨some 6, .bi .lenS [.t 5], none⟩, ⟨some 7, .mov (.t 1), none⟩, ⟨some 8, .bi .lenS [.t 7], none⟩, ⟨some 9, .bin .geq .num (.t 6) (.t 8), none⟩, ⟨some 10, .mov (.t 9), none⟩, ⟨some 11, .mov (.t 0), some (10, true)⟩, ⟨some 12, .mov (.t 1), some (10, true)⟩, ⟨some 13, .bi .lenS [.t 12], some (10, true)⟩, ⟨some 14, .sliceS (.t 11) none (some (.t 13)), some (10, true)⟩, ⟨some 15, .mov (.t 1), some (10, true)⟩, ⟨some 16, .bin .eql .num (.t 14) (.t 15), some (10, true)⟩, ⟨some 17, .pick (.t 10) (.t 16) (.c (.b false)), none⟩, ⟨some 4, .mov (.t 17), none⟩]) (.ret)))), none, none⟩
def qiH : Fn := ⟨1, [.t 2, (.t 3)], false, (.seq (.ops [⟨some 2, .mov (.c .nil), none⟩,
 ⟨some 3, .mov (.c (.b false)), none⟩]) ((.seq ((.seq (.ops [⟨some 4, .mov (.t 0), none⟩]) ((.block 0 [] ((.seq ((.seq (.ops [⟨some 6, .bin .eql .num (.t 4) (.c (.i .i64 7)), none⟩,
 ⟨some 5, .mov (.t 6), none⟩]) ((.cond (.t 5) (.skip) (.ops [⟨some 7, .bin .eql .num (.t 4) (.c (.i .i64 8)), none⟩,
 ⟨some 5, .mov (.t 7), none⟩]))))) ((.cond (.t 5) ((.seq (.ops [⟨some 8, .buildSlice (.i .i64 0) 2 [(0, (.c (.i .i64 1))), (1, (.c (.i .i64 1)))], none⟩,
 ⟨some 2, .mov (.mv 8), none⟩,
 ⟨some 3, .mov (.c (.b true)), none⟩]) (.ret))) ((.seq ((.seq (.ops [⟨some 10, .bin .eql .num (.t 4) (.c (.i .i64 9)), none⟩,
 ⟨some 9, .mov (.t 10), none⟩]) ((.cond (.t 9) (.skip) (.ops [⟨some 11, .bin .eql .num (.t 4) (.c (.i .i64 10)), none⟩,
 ⟨some 9, .mov (.t 11), none⟩]))))) ((.cond (.t 9) ((.seq (.ops [⟨some 12, .buildSlice (.i .i64 0) 2 [(0, (.c (.i .i64 4))), (1, (.c (.i .i64 1)))], none⟩,
 ⟨some 2, .mov (.mv 12), none⟩,
 ⟨some 3, .mov (.c (.b true)), none⟩]) (.ret))) ((.seq (.ops [⟨some 14, .bin .eql .num (.t 4) (.c (.i .i64 11)), none⟩,
 ⟨some 13, .mov (.t 14), none⟩]) ((.cond (.t 13) ((.seq (.ops [⟨some 15, .buildSlice (.i .i64 0) 1 [(0, (.c (.i .i64 9)))], none⟩,
 ⟨some 2, .mov (.mv 15), none⟩,
 ⟨some 3, .mov (.c (.b true)), none⟩]) (.ret))) ((.seq (.ops [⟨some 17, .bin .eql .num (.t 4) (.c (.i .i64 13)), none⟩,
 ⟨some 16, .mov (.t 17), none⟩]) ((.cond (.t 16) ((.seq (.ops [⟨some 18, .buildSlice (.i .i64 0) 1 [(0, (.c (.i .i64 2)))], none⟩,
 ⟨some 2, .mov (.mv 18), none⟩,
 ⟨some 3, .mov (.c (.b true)), none⟩]) (.ret))) ((.seq (.ops [⟨some 20, .bin .eql .num (.t 4) (.c (.i .i64 12)), none⟩,
 ⟨some 19, .mov (.t 20), none⟩]) ((.cond (.t 19) ((.seq (.ops [⟨some 21, .buildSlice (.i .i64 0) 1 [(0, (.c (.i .i64 3)))], none⟩,
 ⟨some 2, .mov (.mv 21), none⟩,
 ⟨some 3, .mov (.c (.b false)), none⟩]) (.ret))) ((.seq (.ops [⟨some 23, .bin .eql .num (.t 4) (.c (.i .i64 14)), none⟩,
 ⟨some 22, .mov (.t 23), none⟩]) ((.cond (.t 22) ((.seq (.ops [⟨some 24, .buildSlice (.i .i64 0) 1 [(0, (.c (.i .i64 1)))], none⟩,
 ⟨some 2, .mov (.mv 24), none⟩,
 ⟨some 3, .mov (.c (.b false)), none⟩]) (.ret))) ((.seq (.ops [⟨some 26, .bin .eql .num (.t 4) (.c (.i .i64 15)), none⟩,
 ⟨some 25, .mov (.t 26), none⟩]) ((.cond (.t 25) ((.seq (.ops [⟨some 27, .buildSlice (.i .i64 0) 1 [(0, (.c (.i .i64 2)))], none⟩,
 ⟨some 2, .mov (.mv 27), none⟩,
 ⟨some 3, .mov (.c (.b false)), none⟩]) (.ret))) (.skip))))))))))))))))))))))))))))))))) ((.seq (.ops [⟨some 2, .mov (.c .nil), none⟩,
 ⟨some 3, .mov (.c (.b false)), none⟩]) (.ret)))))), none, none⟩
def kp : C := (.seq (.ops [⟨some 102, .bin .lss .num (.t 101) (.t 100), none⟩]) ((.seq ((.cond (.t 102) (.skip) (.exit 3))) ((.seq ((.block 4 [1, 8, 9, 10, 11, 12, 13, 99, 100, 101] ((.seq (.ops [⟨some 103, .indexAddr (.t 99) (.t 101) 1 none, none⟩,
 ⟨some 104, .load false none ⟨1, false⟩ (.t 103), none⟩,
 ⟨some 15, .mov (.t 104), none⟩]) ((.seq (.ops [⟨some 16, .mov (.c (.i .u8 0)), none⟩]) ((.seq ((.block 5 [1, 8, 9, 10, 11, 12, 13, 16, 99, 100, 101] ((.seq (.ops [⟨some 107, .mov (.t 15), none⟩,
 ⟨some 108, .bin .eql .num (.t 107) (.c (.i .u8 95)), none⟩,
 ⟨some 109, .mov (.t 108), none⟩,
 ⟨some 110, .mov (.t 8), some (109, true)⟩,
 ⟨some 111, .pick (.t 109) (.t 110) (.c (.b false)), none⟩,
 ⟨some 106, .mov (.t 111), none⟩]) ((.cond (.t 106) ((.seq (.ops [⟨some 12, .mov (.c (.b true)), none⟩]) (.exit 4))) ((.seq (.ops [⟨some 113, .mov (.t 15), none⟩,
 ⟨some 114, .bin .leq .num (.c (.i .u8 48)) (.t 113), none⟩,
 ⟨some 115, .mov (.t 114), none⟩,
 ⟨some 116, .mov (.t 15), some (115, true)⟩,
 ⟨some 117, .bin .leq .num (.t 116) (.c (.i .u8 57)), some (115, true)⟩,
 ⟨some 118, .pick (.t 115) (.t 117) (.c (.b false)), none⟩,
 ⟨some 112, .mov (.t 118), none⟩]) ((.cond (.t 112) (.ops [⟨some 119, .mov (.t 15), none⟩,
 ⟨some 120, .bin .sub .num (.t 119) (.c (.i .u8 48)), none⟩,
 ⟨some 16, .mov (.t 120), none⟩]) ((.seq (.ops [⟨some 122, .mov (.t 15), none⟩,
 ⟨some 123, .call (.f 324) [.t 122], none⟩,
 ⟨some 124, .bin .leq .num (.c (.i .u8 97)) (.t 123), none⟩,
 ⟨some 125, .mov (.t 124), none⟩,
 ⟨some 126, .mov (.t 15), some (125, true)⟩,
 ⟨some 127, .call (.f 324) [.t 126], some (125, true)⟩,
 ⟨some 128, .bin .leq .num (.t 127) (.c (.i .u8 122)), some (125, true)⟩,
 ⟨some 129, .pick (.t 125) (.t 128) (.c (.b false)), none⟩,
 ⟨some 121, .mov (.t 129), none⟩]) ((.cond (.t 121) (.ops [⟨some 130, .mov (.mv 15), none⟩,
 ⟨some 131, .call (.f 324) [.mv 130], none⟩,
 ⟨some 132, .bin .sub .num (.t 131) (.c (.i .u8 97)), none⟩,
 ⟨some 133, .bin .add .num (.t 132) (.c (.i .u8 10)), none⟩,
 ⟨some 16, .mov (.t 133), none⟩]) ((.seq (.ops [⟨some 105, .mkIfc 323 (.c (.i .i64 2)), none⟩,
 ⟨some 6, .mov (.c (.i .u64 0)), none⟩,
 ⟨some 7, .mov (.t 105), none⟩]) (.ret))))))))))))))))) ((.seq ((.seq (.ops [⟨some 134, .mov (.t 16), none⟩,
 ⟨some 135, .mov (.t 1), none⟩,
 ⟨some 136, .conv .u8 (.t 135), none⟩,
 ⟨some 137, .bin .geq .num (.t 134) (.t 136), none⟩]) ((.cond (.t 137) ((.seq (.ops [⟨some 138, .mkIfc 323 (.c (.i .i64 2)), none⟩,
 ⟨some 6, .mov (.c (.i .u64 0)), none⟩,
 ⟨some 7, .mov (.t 138), none⟩]) (.ret))) (.skip))))) ((.seq ((.seq (.ops [⟨some 139, .mov (.t 13), none⟩,
 ⟨some 140, .mov (.t 10), none⟩,
 ⟨some 141, .bin .geq .num (.t 139) (.t 140), none⟩]) ((.cond (.t 141) ((.seq (.ops [⟨some 142, .mov (.t 11), none⟩,
 ⟨some 143, .mkIfc 323 (.c (.i .i64 1)), none⟩,
 ⟨some 6, .mov (.t 142), none⟩,
 ⟨some 7, .mov (.t 143), none⟩]) (.ret))) (.skip))))) ((.seq (.ops [⟨some 144, .mov (.t 13), none⟩,
 ⟨some 145, .mov (.t 1), none⟩,
 ⟨some 146, .conv .u64 (.t 145), none⟩,
 ⟨some 147, .bin .mul .num (.t 144) (.t 146), none⟩,
 ⟨some 13, .mov (.t 147), none⟩]) ((.seq (.ops [⟨some 148, .mov (.t 13), none⟩,
 ⟨some 149, .mov (.t 16), none⟩,
 ⟨some 150, .conv .u64 (.t 149), none⟩,
 ⟨some 151, .bin .add .num (.t 148) (.t 150), none⟩,
 ⟨some 17, .mov (.t 151), none⟩]) ((.seq ((.seq (.ops [⟨some 152, .mov (.t 17), none⟩,
 ⟨some 153, .mov (.t 13), none⟩,
 ⟨some 154, .bin .lss .num (.t 152) (.t 153), none⟩,
 ⟨some 155, .mov (.t 154), none⟩,
 ⟨some 156, .mov (.t 17), some (155, false)⟩,
 ⟨some 157, .mov (.t 11), some (155, false)⟩,
 ⟨some 158, .bin .gtr .num (.t 156) (.t 157), some (155, false)⟩,
 ⟨some 159, .pick (.t 155) (.c (.b true)) (.t 158), none⟩]) ((.cond (.t 159) ((.seq (.ops [⟨some 160, .mov (.t 11), none⟩,
 ⟨some 161, .mkIfc 323 (.c (.i .i64 1)), none⟩,
 ⟨some 6, .mov (.t 160), none⟩,
 ⟨some 7, .mov (.t 161), none⟩]) (.ret))) (.skip))))) (.ops [⟨some 162, .mov (.t 17), none⟩,
 ⟨some 13, .mov (.t 162), none⟩]))))))))))))))))))) (.ops [⟨some 163, .bin .add .num (.t 101) (.c (.i .i64 1)), none⟩,
 ⟨some 101, .mov (.t 163), none⟩]))))))
def zM : C := .loop [1, 8, 9, 10, 11, 12, 13, 99, 100, 101] kp
noncomputable def zN (pg : Pg) (v1 v8 v9 v10 v11 v12 v13 v99 v100 v101 : V) (H : List Obj) (lo : Nat) : Option (Ex × St) := exL pg zM ⟨[(1, v1), (8, v8), (9, v9), (10, v10), (11, v11), (12, v12), (13, v13), (99, v99), (100, v100), (101, v101)], H, lo⟩
theorem zy {pg : Pg} {e : Env} {H : List Obj} {lo : Nat} : exL pg zM ⟨e, H, lo⟩ = zN pg (qM (get 1 e)) (qM (get 8 e)) (qM (get 9 e)) (qM (get 10 e)) (qM (get 11 e)) (qM (get 12 e)) (qM (get 13 e)) (qM (get 99 e)) (qM (get 100 e)) (qM (get 101 e)) H lo := qcn
theorem qaC {pg : Pg} {v1 v8 v9 v10 v11 v12 v13 v99 v100 v101 : V} {H : List Obj} {lo : Nat} : zN pg v1 v8 v9 v10 v11 v12 v13 v99 v100 v101 H lo = y6 pg (exL pg kp ⟨[(1, qM v1), (8, qM v8), (9, qM v9), (10, qM v10), (11, qM v11), (12, qM v12), (13, qM v13), (99, qM v99), (100, qM v100), (101, qM v101)], H, lo⟩) zM := by
  unfold zN zM; rw [qaA]; simp only [qg, qm, qz, qC, Nat.reduceEqDiff]
def jv : C := (.seq ((.seq (.ops [⟨some 164, .mov (.t 12), none⟩, ⟨some 165, .mov (.t 164), none⟩, ⟨some 166, .mov (.t 9), some (165, true)⟩, ⟨some 167, .call (.f 325) [.t 166], some (165, true)⟩, ⟨some 168, .un .not (.t 167), some (165, true)⟩, ⟨some 169, .pick (.t 165) (.t 168) (.c (.b false)), none⟩]) ((.cond (.t 169) ((.seq (.ops [⟨some 170, .mkIfc 323 (.c (.i .i64 2)), none⟩, ⟨some 6, .mov (.c (.i .u64 0)), none⟩, ⟨some 7, .mov (.t 170), none⟩]) (.ret))) (.skip))))) ((.seq (.ops [⟨some 171, .mov (.t 13), none⟩, ⟨some 6, .mov (.t 171), none⟩, ⟨some 7, .mov (.c .ni), none⟩]) (.ret))))
def zD : Fn := ⟨3, [.t 6, (.t 7)], false, (.seq (.ops [⟨some 6, .mov (.c (.i .u64 0)), none⟩,
 ⟨some 7, .mov (.c .ni), none⟩]) ((.seq ((.seq (.ops [⟨some 18, .mov (.t 0), none⟩,
 ⟨some 19, .bin .eql .num (.t 18) (.c (.s [])), none⟩]) ((.cond (.t 19) ((.seq (.ops [⟨some 20, .mkIfc 323 (.c (.i .i64 2)), none⟩,
 ⟨some 6, .mov (.c (.i .u64 0)), none⟩,
 ⟨some 7, .mov (.t 20), none⟩]) (.ret))) (.skip))))) ((.seq (.ops [⟨some 21, .mov (.t 1), none⟩,
 ⟨some 22, .bin .eql .num (.t 21) (.c (.i .i64 0)), none⟩,
 ⟨some 8, .mov (.t 22), none⟩]) ((.seq (.ops [⟨some 23, .mov (.t 0), none⟩,
 ⟨some 9, .mov (.t 23), none⟩]) ((.seq ((.block 0 [0, 1, 2, 8, 9] ((.seq (.ops [⟨some 26, .mov (.t 1), none⟩,
 ⟨some 27, .bin .leq .num (.c (.i .i64 2)) (.t 26), none⟩,
 ⟨some 28, .mov (.t 27), none⟩,
 ⟨some 29, .mov (.t 1), some (28, true)⟩,
 ⟨some 30, .bin .leq .num (.t 29) (.c (.i .i64 36)), some (28, true)⟩,
 ⟨some 31, .pick (.t 28) (.t 30) (.c (.b false)), none⟩,
 ⟨some 25, .mov (.t 31), none⟩]) ((.cond (.t 25) (.skip) ((.seq (.ops [⟨some 33, .mov (.t 1), none⟩,
 ⟨some 34, .bin .eql .num (.t 33) (.c (.i .i64 0)), none⟩,
 ⟨some 32, .mov (.t 34), none⟩]) ((.cond (.t 32) ((.seq (.ops [⟨some 1, .mov (.c (.i .i64 10)), none⟩]) ((.seq (.ops [⟨some 35, .mov (.t 0), none⟩,
 ⟨some 36, .index (.t 35) (.c (.i .i64 0)), none⟩,
 ⟨some 37, .bin .eql .num (.t 36) (.c (.i .u8 48)), none⟩]) ((.cond (.t 37) ((.block 1 [0, 1, 2, 8, 9] ((.seq (.ops [⟨some 41, .mov (.t 0), none⟩,
 ⟨some 42, .bi .lenS [.t 41], none⟩,
 ⟨some 43, .bin .geq .num (.t 42) (.c (.i .i64 3)), none⟩,
 ⟨some 44, .mov (.t 43), none⟩,
 ⟨some 45, .mov (.t 0), some (44, true)⟩,
 ⟨some 46, .index (.t 45) (.c (.i .i64 1)), some (44, true)⟩,
 ⟨some 47, .call (.f 324) [.t 46], some (44, true)⟩,
 ⟨some 48, .bin .eql .num (.t 47) (.c (.i .u8 98)), some (44, true)⟩,
 ⟨some 49, .pick (.t 44) (.t 48) (.c (.b false)), none⟩,
 ⟨some 40, .mov (.t 49), none⟩]) ((.cond (.t 40) ((.seq (.ops [⟨some 1, .mov (.c (.i .i64 2)), none⟩]) (.ops [⟨some 50, .mov (.t 0), none⟩,
 ⟨some 51, .sliceS (.t 50) (some (.c (.i .i64 2))) none, none⟩,
 ⟨some 0, .mov (.t 51), none⟩]))) ((.seq (.ops [⟨some 53, .mov (.t 0), none⟩,
 ⟨some 54, .bi .lenS [.t 53], none⟩,
 ⟨some 55, .bin .geq .num (.t 54) (.c (.i .i64 3)), none⟩,
 ⟨some 56, .mov (.t 55), none⟩,
 ⟨some 57, .mov (.t 0), some (56, true)⟩,
 ⟨some 58, .index (.t 57) (.c (.i .i64 1)), some (56, true)⟩,
 ⟨some 59, .call (.f 324) [.t 58], some (56, true)⟩,
 ⟨some 60, .bin .eql .num (.t 59) (.c (.i .u8 111)), some (56, true)⟩,
 ⟨some 61, .pick (.t 56) (.t 60) (.c (.b false)), none⟩,
 ⟨some 52, .mov (.t 61), none⟩]) ((.cond (.t 52) ((.seq (.ops [⟨some 1, .mov (.c (.i .i64 8)), none⟩]) (.ops [⟨some 62, .mov (.t 0), none⟩,
 ⟨some 63, .sliceS (.t 62) (some (.c (.i .i64 2))) none, none⟩,
 ⟨some 0, .mov (.t 63), none⟩]))) ((.seq (.ops [⟨some 65, .mov (.t 0), none⟩,
 ⟨some 66, .bi .lenS [.t 65], none⟩,
 ⟨some 67, .bin .geq .num (.t 66) (.c (.i .i64 3)), none⟩,
 ⟨some 68, .mov (.t 67), none⟩,
 ⟨some 69, .mov (.t 0), some (68, true)⟩,
 ⟨some 70, .index (.t 69) (.c (.i .i64 1)), some (68, true)⟩,
 ⟨some 71, .call (.f 324) [.t 70], some (68, true)⟩,
 ⟨some 72, .bin .eql .num (.t 71) (.c (.i .u8 120)), some (68, true)⟩,
 ⟨some 73, .pick (.t 68) (.t 72) (.c (.b false)), none⟩,
 ⟨some 64, .mov (.t 73), none⟩]) ((.cond (.t 64) ((.seq (.ops [⟨some 1, .mov (.c (.i .i64 16)), none⟩]) (.ops [⟨some 74, .mov (.t 0), none⟩,
 ⟨some 75, .sliceS (.t 74) (some (.c (.i .i64 2))) none, none⟩,
 ⟨some 0, .mov (.t 75), none⟩]))) ((.seq (.ops [⟨some 1, .mov (.c (.i .i64 8)), none⟩]) (.ops [⟨some 38, .mov (.t 0), none⟩,
 ⟨some 39, .sliceS (.t 38) (some (.c (.i .i64 1))) none, none⟩,
 ⟨some 0, .mov (.t 39), none⟩]))))))))))))))))) (.skip))))))) ((.seq (.ops [⟨some 24, .mkIfc 323 (.c (.i .i64 3)), none⟩,
 ⟨some 6, .mov (.c (.i .u64 0)), none⟩,
 ⟨some 7, .mov (.t 24), none⟩]) (.ret))))))))))))) ((.seq ((.seq (.ops [⟨some 76, .mov (.t 2), none⟩,
 ⟨some 77, .bin .eql .num (.t 76) (.c (.i .i64 0)), none⟩]) ((.cond (.t 77) (.ops [⟨some 2, .mov (.c (.i .i64 64)), none⟩]) ((.seq (.ops [⟨some 78, .mov (.t 2), none⟩,
 ⟨some 79, .bin .lss .num (.t 78) (.c (.i .i64 0)), none⟩,
 ⟨some 80, .mov (.t 79), none⟩,
 ⟨some 81, .mov (.t 2), some (80, false)⟩,
 ⟨some 82, .bin .gtr .num (.t 81) (.c (.i .i64 64)), some (80, false)⟩,
 ⟨some 83, .pick (.t 80) (.c (.b true)) (.t 82), none⟩]) ((.cond (.t 83) ((.seq (.ops [⟨some 84, .mkIfc 323 (.c (.i .i64 4)), none⟩,
 ⟨some 6, .mov (.c (.i .u64 0)), none⟩,
 ⟨some 7, .mov (.t 84), none⟩]) (.ret))) (.skip))))))))) ((.seq (.ops [⟨some 10, .mov (.c (.i .u64 0)), none⟩]) ((.seq ((.seq (.ops [⟨some 85, .mov (.t 1), none⟩]) ((.block 2 [0, 1, 2, 8, 9, 10] ((.seq (.ops [⟨some 91, .bin .eql .num (.t 85) (.c (.i .i64 10)), none⟩,
 ⟨some 90, .mov (.t 91), none⟩]) ((.cond (.t 90) (.ops [⟨some 10, .mov (.c (.i .u64 1844674407370955162)), none⟩]) ((.seq (.ops [⟨some 93, .bin .eql .num (.t 85) (.c (.i .i64 16)), none⟩,
 ⟨some 92, .mov (.t 93), none⟩]) ((.cond (.t 92) (.ops [⟨some 10, .mov (.c (.i .u64 1152921504606846976)), none⟩]) (.ops [⟨some 86, .mov (.t 1), none⟩,
 ⟨some 87, .conv .u64 (.t 86), none⟩,
 ⟨some 88, .bin .quo .num (.c (.i .u64 18446744073709551615)) (.t 87), none⟩,
 ⟨some 89, .bin .add .num (.t 88) (.c (.i .u64 1)), none⟩,
 ⟨some 10, .mov (.t 89), none⟩]))))))))))))) ((.seq (.ops [⟨some 94, .mov (.t 2), none⟩,
 ⟨some 95, .conv .u64 (.t 94), none⟩,
 ⟨some 96, .bin .shl .num (.c (.i .u64 1)) (.t 95), none⟩,
 ⟨some 97, .bin .sub .num (.t 96) (.c (.i .u64 1)), none⟩,
 ⟨some 11, .mov (.t 97), none⟩]) ((.seq (.ops [⟨some 12, .mov (.c (.b false)), none⟩]) ((.seq (.ops [⟨some 13, .mov (.c (.i .u64 0)), none⟩]) ((.seq ((.seq (.ops [⟨some 98, .mov (.t 0), none⟩,
 ⟨some 99, .bytes (.t 98), none⟩,
 ⟨some 100, .bi .lenL [.t 99], none⟩,
 ⟨some 101, .mov (.c (.i .i64 0)), none⟩]) ((.block 3 [9, 12, 13] (zM))))) (jv)))))))))))))))))))))))), none, none⟩
def qdv : C := (.seq ((.seq (.ops [⟨some 57, .mov (.t 8), none⟩,
 ⟨some 58, .mov (.t 9), none⟩,
 ⟨some 59, .bin .lss .num (.t 57) (.t 58), none⟩]) ((.cond (.t 59) (.skip) (.exit 1))))) ((.block 2 [0, 1, 5, 6, 7, 8, 9, 10] ((.seq ((.seq (.ops [⟨some 60, .mov (.t 0), none⟩,
 ⟨some 61, .mov (.t 8), none⟩,
 ⟨some 62, .index (.t 60) (.t 61), none⟩,
 ⟨some 63, .mov (.t 6), none⟩,
 ⟨some 64, .bin .neq .num (.t 62) (.t 63), none⟩]) ((.cond (.t 64) ((.seq (.ops [⟨some 65, .mov (.t 0), none⟩,
 ⟨some 66, .mov (.t 8), none⟩,
 ⟨some 67, .bin .add .num (.t 66) (.c (.i .i64 1)), none⟩,
 ⟨some 68, .mov (.t 9), none⟩,
 ⟨some 69, .sliceS (.t 65) (some (.t 67)) (some (.t 68)), none⟩,
 ⟨some 70, .mov (.t 6), none⟩,
 ⟨some 71, .call (.f 302) [.t 69, (.t 70)], none⟩,
 ⟨some 11, .mov (.mv 71), none⟩]) ((.seq ((.seq (.ops [⟨some 72, .mov (.t 11), none⟩,
 ⟨some 73, .bin .lss .num (.t 72) (.c (.i .i64 0)), none⟩]) ((.cond (.t 73) ((.seq (.ops [⟨some 4, .mov (.c (.i .i64 (-1))), none⟩]) (.ret))) (.skip))))) (.ops [⟨some 74, .mov (.t 8), none⟩,
 ⟨some 75, .mov (.t 11), none⟩,
 ⟨some 76, .bin .add .num (.t 75) (.c (.i .i64 1)), none⟩,
 ⟨some 77, .bin .add .num (.t 74) (.t 76), none⟩,
 ⟨some 8, .mov (.t 77), none⟩]))))) (.skip))))) ((.seq ((.seq (.ops [⟨some 78, .mov (.t 0), none⟩,
 ⟨some 79, .mov (.t 8), none⟩,
 ⟨some 80, .bin .add .num (.t 79) (.c (.i .i64 1)), none⟩,
 ⟨some 81, .index (.t 78) (.t 80), none⟩,
 ⟨some 82, .mov (.t 7), none⟩,
 ⟨some 83, .bin .eql .num (.t 81) (.t 82), none⟩,
 ⟨some 84, .mov (.t 83), none⟩,
 ⟨some 85, .mov (.t 0), some (84, true)⟩,
 ⟨some 86, .mov (.t 8), some (84, true)⟩,
 ⟨some 87, .mov (.t 8), some (84, true)⟩,
 ⟨some 88, .mov (.t 5), some (84, true)⟩,
 ⟨some 89, .bin .add .num (.t 87) (.t 88), some (84, true)⟩,
 ⟨some 90, .sliceS (.t 85) (some (.t 86)) (some (.t 89)), some (84, true)⟩,
 ⟨some 91, .mov (.t 1), some (84, true)⟩,
 ⟨some 92, .bin .eql .num (.t 90) (.t 91), some (84, true)⟩,
 ⟨some 93, .pick (.t 84) (.t 92) (.c (.b false)), none⟩]) ((.cond (.t 93) ((.seq (.ops [⟨some 94, .mov (.t 8), none⟩,
 ⟨some 4, .mov (.t 94), none⟩]) (.ret))) (.skip))))) ((.seq (.ops [⟨some 95, .mov (.t 8), none⟩,
 ⟨some 96, .bin .add .num (.t 95) (.c (.i .i64 1)), none⟩,
 ⟨some 8, .mov (.t 96), none⟩]) ((.seq (.ops [⟨some 97, .mov (.t 10), none⟩,
 ⟨some 98, .bin .add .num (.t 97) (.c (.i .i64 1)), none⟩,
 ⟨some 10, .mov (.t 98), none⟩]) ((.seq (.ops [⟨some 99, .mov (.t 5), none⟩,
 ⟨some 100, .stuck, none⟩,
 ⟨some 101, .bin .leq .num (.t 99) (.t 100), none⟩,
 ⟨some 102, .mov (.t 101), none⟩,
 ⟨some 103, .mov (.t 10), some (102, true)⟩,
 ⟨some 104, .mov (.t 8), some (102, true)⟩,
 ⟨some 105, .call (.f 340) [.t 104], some (102, true)⟩,
 ⟨some 106, .bin .gtr .num (.t 103) (.t 105), some (102, true)⟩,
 ⟨some 107, .pick (.t 102) (.t 106) (.c (.b false)), none⟩]) ((.cond (.t 107) ((.seq (.ops [⟨some 108, .mov (.t 0), none⟩,
 ⟨some 109, .mov (.t 8), none⟩,
 ⟨some 110, .sliceS (.t 108) (some (.t 109)) none, none⟩,
 ⟨some 111, .mov (.mv 1), none⟩,
 ⟨some 112, .call (.f 339) [.t 110, (.mv 111)], none⟩,
 ⟨some 12, .mov (.t 112), none⟩]) ((.seq ((.seq (.ops [⟨some 113, .mov (.t 12), none⟩,
 ⟨some 114, .bin .geq .num (.t 113) (.c (.i .i64 0)), none⟩]) ((.cond (.t 114) ((.seq (.ops [⟨some 115, .mov (.t 12), none⟩,
 ⟨some 116, .mov (.t 8), none⟩,
 ⟨some 117, .bin .add .num (.t 115) (.t 116), none⟩,
 ⟨some 4, .mov (.t 117), none⟩]) (.ret))) (.skip))))) ((.seq (.ops [⟨some 4, .mov (.c (.i .i64 (-1))), none⟩]) (.ret))))))) ((.seq (.ops [⟨some 118, .mov (.t 5), none⟩,
 ⟨some 119, .stuck, none⟩,
 ⟨some 120, .bin .gtr .num (.t 118) (.t 119), none⟩,
 ⟨some 121, .mov (.t 120), none⟩,
 ⟨some 122, .mov (.t 10), some (121, true)⟩,
 ⟨some 123, .mov (.t 8), some (121, true)⟩,
 ⟨some 124, .bin .shr .num (.t 123) (.c (.i .u64 4)), some (121, true)⟩,
 ⟨some 125, .bin .add .num (.c (.i .i64 4)) (.t 124), some (121, true)⟩,
 ⟨some 126, .bin .geq .num (.t 122) (.t 125), some (121, true)⟩,
 ⟨some 127, .pick (.t 121) (.t 126) (.c (.b false)), none⟩,
 ⟨some 128, .mov (.t 127), none⟩,
 ⟨some 129, .mov (.t 8), some (128, true)⟩,
 ⟨some 130, .mov (.t 9), some (128, true)⟩,
 ⟨some 131, .bin .lss .num (.t 129) (.t 130), some (128, true)⟩,
 ⟨some 132, .pick (.t 128) (.t 131) (.c (.b false)), none⟩]) ((.cond (.t 132) ((.seq (.ops [⟨some 133, .mov (.t 0), none⟩,
 ⟨some 134, .mov (.t 8), none⟩,
 ⟨some 135, .sliceS (.t 133) (some (.t 134)) none, none⟩,
 ⟨some 136, .mov (.mv 1), none⟩,
 ⟨some 137, .call (.f 341) [.t 135, (.mv 136)], none⟩,
 ⟨some 13, .mov (.mv 137), none⟩]) ((.seq ((.seq (.ops [⟨some 138, .mov (.t 13), none⟩,
 ⟨some 139, .bin .lss .num (.t 138) (.c (.i .i64 0)), none⟩]) ((.cond (.t 139) ((.seq (.ops [⟨some 4, .mov (.c (.i .i64 (-1))), none⟩]) (.ret))) (.skip))))) ((.seq (.ops [⟨some 140, .mov (.t 8), none⟩,
 ⟨some 141, .mov (.t 13), none⟩,
 ⟨some 142, .bin .add .num (.t 140) (.t 141), none⟩,
 ⟨some 4, .mov (.t 142), none⟩]) (.ret))))))) (.skip))))))))))))))))))))
def qdx : C := .loop [0, 1, 5, 6, 7, 8, 9, 10] qdv
def qdw : C := (.seq (.ops [⟨some 4, .mov (.c (.i .i64 (-1))), none⟩]) (.ret))
def qbF : Fn := ⟨2, [.t 4], true, (.seq (.ops [⟨some 4, .mov (.c (.i .i64 0)), none⟩]) ((.seq (.ops [⟨some 14, .mov (.t 1), none⟩,
 ⟨some 15, .bi .lenS [.t 14], none⟩,
 ⟨some 5, .mov (.t 15), none⟩]) ((.seq ((.block 0 [0, 1, 5] ((.seq (.ops [⟨some 17, .mov (.t 5), none⟩,
 ⟨some 18, .bin .eql .num (.t 17) (.c (.i .i64 0)), none⟩,
 ⟨some 19, .mov (.t 18), none⟩,
 ⟨some 20, .mov (.t 1), some (19, false)⟩,
 ⟨some 21, .mov (.t 0), some (19, false)⟩,
 ⟨some 22, .bin .eql .num (.t 20) (.t 21), some (19, false)⟩,
 ⟨some 23, .pick (.t 19) (.c (.b true)) (.t 22), none⟩,
 ⟨some 16, .mov (.t 23), none⟩]) ((.cond (.t 16) ((.seq (.ops [⟨some 4, .mov (.c (.i .i64 0)), none⟩]) (.ret))) ((.seq (.ops [⟨some 25, .mov (.t 5), none⟩,
 ⟨some 26, .bin .eql .num (.t 25) (.c (.i .i64 1)), none⟩,
 ⟨some 24, .mov (.t 26), none⟩]) ((.cond (.t 24) ((.seq (.ops [⟨some 27, .mov (.mv 0), none⟩,
 ⟨some 28, .mov (.t 1), none⟩,
 ⟨some 29, .index (.t 28) (.c (.i .i64 0)), none⟩,
 ⟨some 30, .call (.f 302) [.mv 27, (.t 29)], none⟩,
 ⟨some 4, .mov (.mv 30), none⟩]) (.ret))) ((.seq (.ops [⟨some 32, .mov (.t 5), none⟩,
 ⟨some 33, .mov (.t 0), none⟩,
 ⟨some 34, .bi .lenS [.t 33], none⟩,
 ⟨some 35, .bin .geq .num (.t 32) (.t 34), none⟩,
 ⟨some 31, .mov (.t 35), none⟩]) ((.cond (.t 31) ((.seq (.ops [⟨some 4, .mov (.c (.i .i64 (-1))), none⟩]) (.ret))) ((.seq (.ops [⟨some 37, .mov (.t 5), none⟩,
 ⟨some 38, .stuck, none⟩,
 ⟨some 39, .bin .leq .num (.t 37) (.t 38), none⟩,
 ⟨some 40, .mov (.t 39), none⟩,
 ⟨some 41, .mov (.t 0), some (40, true)⟩,
 ⟨some 42, .bi .lenS [.t 41], some (40, true)⟩,
 ⟨some 43, .bin .leq .num (.t 42) (.c (.i .i64 64)), some (40, true)⟩,
 ⟨some 44, .pick (.t 40) (.t 43) (.c (.b false)), none⟩,
 ⟨some 36, .mov (.t 44), none⟩]) ((.cond (.t 36) ((.seq (.ops [⟨some 45, .mov (.mv 0), none⟩,
 ⟨some 46, .mov (.mv 1), none⟩,
 ⟨some 47, .call (.f 339) [.mv 45, (.mv 46)], none⟩,
 ⟨some 4, .mov (.t 47), none⟩]) (.ret))) (.skip))))))))))))))))))) ((.seq (.ops [⟨some 48, .mov (.t 1), none⟩,
 ⟨some 49, .index (.t 48) (.c (.i .i64 0)), none⟩,
 ⟨some 6, .mov (.t 49), none⟩]) ((.seq (.ops [⟨some 50, .mov (.t 1), none⟩,
 ⟨some 51, .index (.t 50) (.c (.i .i64 1)), none⟩,
 ⟨some 7, .mov (.t 51), none⟩]) ((.seq (.ops [⟨some 8, .mov (.c (.i .i64 0)), none⟩]) ((.seq (.ops [⟨some 52, .mov (.t 0), none⟩,
 ⟨some 53, .bi .lenS [.t 52], none⟩,
 ⟨some 54, .mov (.t 5), none⟩,
 ⟨some 55, .bin .sub .num (.t 53) (.t 54), none⟩,
 ⟨some 56, .bin .add .num (.t 55) (.c (.i .i64 1)), none⟩,
 ⟨some 9, .mov (.t 56), none⟩]) ((.seq (.ops [⟨some 10, .mov (.c (.i .i64 0)), none⟩]) ((.seq ((.block 1 [] (qdx))) (qdw)))))))))))))))))), none, none⟩
def yI : Fn := ⟨1, [.t 2], true, (.seq (.ops [⟨some 2, .mov (.c (.i .u8 0)), none⟩]) ((.seq (.ops [⟨some 3, .mov (.t 0), none⟩, ⟨some 4, .bin .or .num (.t 3) (.c (.i .u8 32)), none⟩, ⟨some 2, .mov (.t 4), none⟩]) (.ret)))), none, none⟩
def prog (n : Nat) : Option Fn :=
  bif qCa n 4 then some jo else
  bif qCa n 8 then some qfD else
  bif qCa n 11 then some qhl else
  bif qCa n 14 then some jA else
  bif qCa n 15 then some jz else
  bif qCa n 20 then some qf7 else
  bif qCa n 21 then some qh3 else
  bif qCa n 22 then some qjs else
  bif qCa n 23 then some qhP else
  bif qCa n 24 then some qc4 else
  bif qCa n 25 then some qct else
  bif qCa n 26 then some qb7 else
  bif qCa n 28 then some qc7 else
  bif qCa n 33 then some f_scan_All else
  bif qCa n 34 then some qcm else
  bif qCa n 35 then some qaO else
  bif qCa n 36 then some qaE else
  bif qCa n 49 then some qla else
  bif qCa n 50 then some qle else
  bif qCa n 51 then some qgv else
  bif qCa n 52 then some qlq else
  bif qCa n 53 then some qgE else
  bif qCa n 54 then some yM else
  bif qCa n 56 then some jM else
  bif qCa n 58 then some qhp else
  bif qCa n 59 then some yq else
  bif qCa n 61 then some ya else
  bif qCa n 65 then some qhy else
  bif qCa n 66 then some qcu else
  bif qCa n 68 then some qdz else
  bif qCa n 70 then some qdF else
  bif qCa n 71 then some qdn else
  bif qCa n 72 then some qhf else
  bif qCa n 75 then some qh7 else
  bif qCa n 77 then some qdp else
  bif qCa n 82 then some f_scan_All_1 else
  bif qCa n 83 then some f_scan_scanner_next else
  bif qCa n 84 then some kU else
  bif qCa n 85 then some qgF else
  bif qCa n 86 then some qaG else
  bif qCa n 125 then some yn else
  bif qCa n 126 then some qfk else
  bif qCa n 127 then some qgq else
  bif qCa n 128 then some j2 else
  bif qCa n 129 then some qfc else
  bif qCa n 130 then some jH else
  bif qCa n 132 then some qap else
  bif qCa n 133 then some yi else
  bif qCa n 134 then some qjS else
  bif qCa n 135 then some qgH else
  bif qCa n 136 then some y7 else
  bif qCa n 137 then some yD else
  bif qCa n 147 then some qiO else
  bif qCa n 148 then some qga else
  bif qCa n 149 then some qiS else
  bif qCa n 151 then some qh8 else
  bif qCa n 154 then some qds else
  bif qCa n 160 then some qhk else
  bif qCa n 162 then some qiL else
  bif qCa n 171 then some qcd else
  bif qCa n 173 then some qak else
  bif qCa n 174 then some qdX else
  bif qCa n 175 then some yf else
  bif qCa n 176 then some qeY else
  bif qCa n 177 then some zz else
  bif qCa n 178 then some qbw else
  bif qCa n 179 then some ye else
  bif qCa n 180 then some zR else
  bif qCa n 181 then some ju else
  bif qCa n 230 then some yX else
  bif qCa n 231 then some j4 else
  bif qCa n 233 then some yF else
  bif qCa n 234 then some jU else
  bif qCa n 242 then some qeA else
  bif qCa n 244 then some qfj else
  bif qCa n 252 then some qhd else
  bif qCa n 253 then some zP else
  bif qCa n 254 then some zO else
  bif qCa n 255 then some qa5 else
  bif qCa n 256 then some qgf else
  bif qCa n 258 then some qgb else
  bif qCa n 259 then some qaV else
  bif qCa n 260 then some qeK else
  bif qCa n 261 then some qhh else
  bif qCa n 262 then some qgW else
  bif qCa n 263 then some qaf else
  bif qCa n 264 then some qaF else
  bif qCa n 292 then some yE else
  bif qCa n 294 then some qhg else
  bif qCa n 299 then some zG else
  bif qCa n 301 then some qiH else
  bif qCa n 303 then some zD else
  bif qCa n 322 then some qbF else
  bif qCa n 324 then some yI else none
end W

/-
  More equations: nil slices, shifts, bits, bytes.
-/
set_option linter.unusedSimpArgs false
set_option linter.unusedVariables false
namespace W
open Go (IntKind BinOp UnOp)
theorem qkB {xs : List D} : qly true (.osl xs) = some (.osl xs) := (rfl)
theorem qrm {own : Bool} {xs : List V} (h : own = true) : qly own (.tup xs) = some (.tup xs) := by subst h; rfl
theorem ke {n : Nat} : isC (.t n) = false := (rfl)
theorem kD {x : D} : isC (.c x) = true := (rfl)
theorem qvI {n : Nat} : isC (.mv n) = false := (rfl)
theorem qys {n : Nat} : isC (.f n) = false := (rfl)
theorem qlj : qau .eql .slice true (.d .nil) (.d .nil) = some (.d (.b true)) := (rfl)
theorem qmO {xs : List D} : qau .eql .slice true (.d (.sl xs)) (.d .nil) = some (.d (.b false)) := (rfl)
theorem qlp : qau .neq .slice true (.d .nil) (.d .nil) = some (.d (.b false)) := (rfl)
theorem qm2 {xs : List D} : qau .neq .slice true (.d (.sl xs)) (.d .nil) = some (.d (.b true)) := (rfl)
theorem qxb {i : Nat} : qau .eql .map true (.map i) (.d .nm) = some (.d (.b false)) := (rfl)
theorem qtS {c : Bool} {k k' : IntKind} {m n : Int} (h : (0 ≤ n) = True) : qau .shl .num c (.d (.i k m)) (.d (.i k' n)) = some (.d (.i k (wr k (m * 2 ^ (min n.toNat k.bits))))) := by
  have h : 0 ≤ n := by rw [h]; trivial
  simp [qau, qdd, qgs, qeE, h]
theorem qt8 {c : Bool} {k k' : IntKind} {m n : Int} (h : (0 ≤ n) = True) : qau .shr .num c (.d (.i k m)) (.d (.i k' n)) = some (.d (.i k (m.fdiv (2 ^ (min n.toNat k.bits))))) := by
  have h : 0 ≤ n := by rw [h]; trivial
  simp [qau, qdd, qgs, qeE, h]
def orI (k : IntKind) (a b : Int) : Int := k.wrap ((BitVec.ofInt k.bits a) ||| (BitVec.ofInt k.bits b)).toNat
def qBP (k : IntKind) (a b : Int) : Int := k.wrap ((BitVec.ofInt k.bits a) &&& (BitVec.ofInt k.bits b)).toNat
def qBS (k : IntKind) (a b : Int) : Int := k.wrap ((BitVec.ofInt k.bits a) ^^^ (BitVec.ofInt k.bits b)).toNat
theorem qsZ {c : Bool} {k : IntKind} {m n : Int} : qau .or .num c (.d (.i k m)) (.d (.i k n)) = some (.d (.i k (orI k m n))) := by rw [qf3 rfl]; rfl
theorem qtF {c : Bool} {k : IntKind} {m n : Int} : qau .and .num c (.d (.i k m)) (.d (.i k n)) = some (.d (.i k (qBP k m n))) := by rw [qf3 rfl]; rfl
theorem qtZ {c : Bool} {k : IntKind} {m n : Int} : qau .xor .num c (.d (.i k m)) (.d (.i k n)) = some (.d (.i k (qBS k m n))) := by rw [qf3 rfl]; rfl
def qdE (s : Nat) (v : V) : V := match v with | .lp t o => bif qCa t s then .undef else .lp t o | v => v
theorem kr {s : Nat} : qdJ s [] = [] := (rfl)
theorem kh {s n : Nat} {v : V} {e : Env} : qdJ s ((n, v) :: e) = (n, qdE s v) :: qdJ s e := (rfl)
theorem qbW {s : Nat} {x : D} : qdE s (.d x) = .d x := (rfl)
theorem qoo {s : Nat} {x : List D} : qdE s (.osl x) = .osl x := (rfl)
theorem kM {s i o : Nat} : qdE s (.ptr i o) = .ptr i o := (rfl)
theorem qoc {s i : Nat} : qdE s (.map i) = .map i := (rfl)
theorem qbd {s : Nat} {x : List V} : qdE s (.box x) = .box x := (rfl)
theorem qqS {s : Nat} {x : D} : qdE s (.cp x) = .cp x := (rfl)
theorem qnR {s : Nat} {x : List V} : qdE s (.agg x) = .agg x := (rfl)
theorem qaM {s : Nat} {x : List V} : qdE s (.tup x) = .tup x := (rfl)
theorem qrP {s i : Nat} {x y : List V} : qdE s (.fn i x y) = .fn i x y := (rfl)
theorem qkM {s i : Nat} {x : V} : qdE s (.ifc i x) = .ifc i x := (rfl)
theorem qll {s : Nat} : qdE s .undef = .undef := (rfl)
theorem qqe {s t o : Nat} : qdE s (.lp t o) = bif qCa t s then .undef else .lp t o := (rfl)
theorem qrV {s a b c d : Nat} : qdE s (.rs a b c d) = .rs a b c d := (rfl)
theorem qoz {α : Type} {s : Nat} {e : α → D} {L : List α} : qdE s (slV e L) = slV e L := by cases L <;> rfl
theorem zf {cs vs : List V} (h : (vs.length = cs.length) = True) : j8 cs 0 vs = some vs := by
  have h : vs.length = cs.length := by rw [h]; trivial
  simp [j8, h]
theorem qjp {cs : List V} {o : Nat} {v w : V} (h : (o + 1 < cs.length) = True) : j8 cs o [v, w] = some ((cs.set o v).set (o + 1) w) := by
  have h : o + 1 < cs.length := by rw [h]; trivial
  have : o + [v, w].length ≤ cs.length := by simp; omega
  rw [j8, if_pos this]
  congr 1
  apply List.ext_getElem?
  intro j
  simp only [List.getElem?_append, List.length_append, List.length_take, qCd, qCf, List.getElem?_drop, List.getElem?_set, List.length_set, List.getElem?_take]
  rcases Nat.lt_trichotomy j o with hj | hj | hj
  · rw [if_pos (by omega), if_pos (by omega), if_pos (by omega), if_neg (by omega), if_neg (by omega)]
  · subst hj
    rw [if_pos (by omega), if_neg (by omega), if_neg (by omega), if_pos rfl, if_pos (by omega)]
    have : j - min j cs.length = 0 := by omega
    simp [this]
  · by_cases hj2 : j = o + 1
    · subst hj2
      rw [if_pos (by omega), if_neg (by omega), if_pos rfl, if_pos (by omega)]
      have : o + 1 - min o cs.length = 1 := by omega
      simp [this]
    · rw [if_neg (by omega), if_neg (by omega), if_neg (by omega)]
      congr 1; omega
def cpV (r : Option D) : Option V := match r with | some y => bif y.one then some (.cp y) else none | none => none
theorem qid {cs : List D} {off : Nat} : faV (.cp (.agg cs)) off ⟨1, false⟩ = cpV (cs[off]?) := by
  simp only [faV, D.part, cpV]
  cases h : cs[off]? with
  | none => simp [h]
  | some y => cases hy : y.one <;> simp [h, hy]
theorem qnJ {k : IntKind} {n : Int} : cpV (some (.i k n)) = some (.cp (.i k n)) := (rfl)
theorem qre {x : List Nat} : cpV (some (.s x)) = some (.cp (.s x)) := (rfl)
theorem qyq {x : Bool} : cpV (some (.b x)) = some (.cp (.b x)) := (rfl)
theorem qv2 {x : List D} : cpV (some (.sl x)) = some (.cp (.sl x)) := (rfl)
theorem qtV : cpV (some .nil) = some (.cp .nil) := (rfl)
theorem qtQ {α : Type} {e : α → D} {L : List α} : cpV (some (slD e L)) = some (.cp (slD e L)) := by cases L <;> rfl
def qxr (l : L) (st : St) : V → Option V
  | .box cs => V.part 0 l cs
  | .ptr id off => yu l st (.ptr id off)
  | _ => none
theorem k9 {own : Bool} {st : St} {n : Nat} {l : L} : qeN own st (.cell n l) = qxr l st (get n st.env) := by
  simp only [qeN, qxr]
  cases get n st.env <;> rfl
theorem yp {l : L} {st : St} {cs : List V} : qxr l st (.box cs) = qsS l 0 (.box cs) := (rfl)
theorem qhW {l : L} {st : St} {i o : Nat} : qxr l st (.ptr i o) = qdG none l st (.ptr i o) := (rfl)
theorem ql5 {b : Bool} {cs : List D} : qpM (.alloc b cs) = b := (rfl)
theorem qrt {b : Bool} {x : O} : qpM (.box b x) = b := (rfl)
def qza (r : Bool) (n : Nat) (cs : List V) (st : St) : Option St := bif r then some { st with env := (n, .box cs) :: st.env } else none
theorem qua {no : List Nat} {n : Nat} {cs : List V} {st : St} : qeP true no (some n) (.box cs) st = qza (qaY n st.env) n cs st := by
  simp only [qeP, qza, Bool.true_and]
theorem qv1 {n : Nat} {cs : List V} {st : St} : qza true n cs st = some ⟨(n, .box cs) :: st.env, st.H, st.lo⟩ := (rfl)
def lpD (r : Bool) (n m o : Nat) (st : St) : Option St := bif r then none else some { st with env := (n, .lp m o) :: st.env }
theorem qf1 {bx : Bool} {no : List Nat} {n m o : Nat} {st : St} : qeP bx no (some n) (.lp m o) st = lpD (qdK m no) n m o st := (rfl)
theorem qk8 {n m o : Nat} {st : St} : lpD false n m o st = some ⟨(n, .lp m o) :: st.env, st.H, st.lo⟩ := (rfl)
theorem qb6 {n : Nat} : qdK n [] = false := (rfl)
theorem qk0 {n m : Nat} {l : List Nat} : qdK n (m :: l) = (qCa n m || qdK n l) := (rfl)
theorem qrB {i o n c : Nat} : qdC (.rs i o n c) = .rs i o n c := (rfl)
theorem qgu {i o : Nat} : qdC (.ptr i o) = .ptr i o := (rfl)
theorem qoE {i : Nat} : qdC (.map i) = .map i := (rfl)
theorem qrA {x : D} : qdC (.cp x) = .cp x := (rfl)
theorem qr9 {i o : Nat} : qdC (.lp i o) = .lp i o := (rfl)
theorem qrH {i : Nat} {u w : List V} : qdC (.fn i u w) = .fn i u w := (rfl)
theorem qkl {t : Nat} {w : V} : qdC (.ifc t w) = .ifc t w := (rfl)
theorem qnM {w : List V} : qdC (.agg w) = .agg w := (rfl)
theorem qnS {w : List V} : qdC (.tup w) = .tup w := (rfl)
theorem qtc {bx : Bool} {no : List Nat} {n a b c d : Nat} {st : St} : qeP bx no (some n) (.rs a b c d) st = some ⟨(n, .rs a b c d) :: st.env, st.H, st.lo⟩ := by cases bx <;> rfl
theorem qrT {α : Type} {bx : Bool} {no : List Nat} {n : Nat} {e : α → D} {L : List α} {st : St} : qeP bx no (some n) (slV e L) st = some ⟨(n, slV e L) :: st.env, st.H, st.lo⟩ := by cases L <;> rfl
def noL (n : Nat) (v : V) : Bool := match v with | .lp m _ => !Nat.beq m n | _ => true
theorem qr2 {n : Nat} : qaY n [] = true := (rfl)
theorem qwo {n k : Nat} {v : V} {e : Env} : qaY n ((k, v) :: e) = (noL n v && qaY n e) := by cases v <;> rfl
theorem qym {n : Nat} {x : D} : noL n (.d x) = true := (rfl)
theorem qt5 {n : Nat} {x : List D} : noL n (.osl x) = true := (rfl)
theorem qtw {n i o : Nat} : noL n (.ptr i o) = true := (rfl)
theorem qtj {n i : Nat} : noL n (.map i) = true := (rfl)
theorem qtJ {n : Nat} {x : List V} : noL n (.box x) = true := (rfl)
theorem qwW {n : Nat} {x : D} : noL n (.cp x) = true := (rfl)
theorem qtz {n : Nat} {x : List V} : noL n (.agg x) = true := (rfl)
theorem qtG {n : Nat} {x : List V} : noL n (.tup x) = true := (rfl)
theorem qwR {n i : Nat} {x y : List V} : noL n (.fn i x y) = true := (rfl)
theorem qtq {n i : Nat} {x : V} : noL n (.ifc i x) = true := (rfl)
theorem qoI {n : Nat} : noL n .undef = true := (rfl)
theorem qwQ {n a b c d : Nat} : noL n (.rs a b c d) = true := (rfl)
theorem qvO {n m o : Nat} : noL n (.lp m o) = !Nat.beq m n := (rfl)
theorem quc {α : Type} {n : Nat} {e : α → D} {L : List α} : noL n (slV e L) = true := by cases L <;> rfl
theorem ql0 {k : D} {v : V} : qfo k v [] = some [(k, v)] := (rfl)
theorem qkz {o o' : Obj} : q9 [o] 0 o' = [o'] := (rfl)
def e8 (n : Nat) : D := .i .u8 (n : Int)
theorem qA3 (n : Nat) : (e8 n).cells.length = 1 := rfl
theorem qBs (n : Nat) (h : n < 256) : IntKind.wrap .u8 (n : Int) = (n : Int) := by
  simp [IntKind.wrap, IntKind.bits, IntKind.signed]; omega
theorem qBu {n : Nat} (h : n < 128) : orI .u8 (n : Int) 128 = ((n + 128 : Nat) : Int) := by
  have key : ∀ m : Fin 128, orI .u8 ((m.val : Nat) : Int) 128 = ((m.val + 128 : Nat) : Int) := by decide +kernel
  exact key ⟨n, h⟩
theorem qBx (n : Nat) : wr .u8 (n : Int) = ((n % 256 : Nat) : Int) := by
  by_cases h : n ≤ 255
  · rw [qrW (by omega) (by omega), Nat.mod_eq_of_lt (by omega)]
  · show (bif Nat.ble n 255 then (Int.ofNat n) else IntKind.wrap .u8 (Int.ofNat n)) = _
    have : Nat.ble n 255 = false := by rw [qdB]; simp; omega
    rw [this]
    simp [IntKind.wrap, IntKind.bits, IntKind.signed]
theorem qAm {n : Nat} : orI .u8 ((n % 256 : Nat) : Int) 128 = ((n % 128 + 128 : Nat) : Int) := by
  have key : ∀ m : Fin 256, orI .u8 ((m.val : Nat) : Int) 128 = ((m.val % 128 + 128 : Nat) : Int) := by decide +kernel
  have := key ⟨n % 256, Nat.mod_lt _ (by omega)⟩
  simp only at this
  rw [this]
  omega
theorem qBX (n : Nat) : Int.fdiv (n : Int) (2 ^ (min (7 : Int).toNat (IntKind.bits .u64))) = ((n / 128 : Nat) : Int) := by
  show Int.fdiv (n : Int) (2 ^ 7) = _
  rw [Int.fdiv_eq_ediv_of_nonneg _ (by omega)]
  omega
end W

