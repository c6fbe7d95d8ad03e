/-
  CheckLits: which constants are right, of any type; both checkers, of any constant: part 2 of what the proof rests on (a value semantics for a part of the language, sound against the model; the walks).
-/
import Derived.Test.YtdgbjjpdepdmmaaGreatDoorW1
set_option linter.unusedVariables false
open Bool renaming false_eq_true → qDt, and_self → qDA, and_eq_true → qDB, or_true → qDC, cond_eq_ite → qDH, or_self → qDJ, not_true → qDL, not_false → qDM
open List renaming getElem?_cons_zero → qDu, getElem?_cons_succ → qDv, map_cons → qDy, length_nil → qDD, length_cons → qDE, map_nil → qDF, set_cons_zero → qDK, take_succ_cons → qDN, set_cons_succ → qDO, drop_zero → qDQ, take_zero → qDT, drop_succ_cons → qDX
open Option renaming map_some → qDw, bind_eq_some_iff → qDI, bind_eq_bind → qDP, pure_def → qDV
open Nat renaming le_refl → qDx, zero_add → qDz, beq → qDG, eq_of_beq_eq_true → qDR, zero_le → qDS, add_zero → qDU
open Int renaming cast_ofNat_Int → qDW
namespace W
def glD (n : Nat) : D :=
  bif qDG n 0 then qhd else
  bif qDG n 5 then qev else
  bif qDG n 6 then qfI else
  bif qDG n 7 then qfM else .nil
def o_ (d : Nat) (k : OpK) : Op := ⟨some d, k, none⟩
def q_ (d n : Nat) (b : Bool) (k : OpK) : Op := ⟨some d, k, some (n, b)⟩
def z_ (k : OpK) : Op := ⟨none, k, none⟩
def m_ (d x : Nat) : Op := ⟨some d, .mov (.t x), none⟩
def l_ : L := ⟨1, false⟩
def s_ (n : Nat) : L := ⟨n, true⟩
def i_ (n : Int) : O := .c (.i .i64 n)
def e_ (d : Nat) (op : Go.BinOp) (x y : Nat) : Op := ⟨some d, .bin op .num (.t x) (.t y), none⟩
def g_ (d : Nat) (op : Go.BinOp) (x : Nat) (n : Int) : Op := ⟨some d, .bin op .num (.t x) (.c (.i .i64 n)), none⟩
def a_ (d x n : Nat) : Op := ⟨some d, .fieldAddr (.t x) n ⟨1, false⟩, none⟩
def d_ (d s x : Nat) : Op := ⟨some d, .load false (some s) ⟨1, false⟩ (.t x), none⟩
def h_ (d x : Nat) : Op := ⟨some d, .load false none ⟨1, false⟩ (.t x), none⟩
def n_ (d x : Nat) : Op := ⟨some d, .bi .lenL [.t x], none⟩
def u_ (d x : Nat) : Op := ⟨some d, .un .not (.t x), none⟩
def x_ (d x y n : Nat) : Op := ⟨some d, .indexAddr (.t x) (.t y) n none, none⟩
def c_ (d f : Nat) (l : List O) : Op := ⟨some d, .call (.f f) l, none⟩
def r_ (d x i : Nat) : Op := ⟨some d, .extract (.t x) i, none⟩
def v_ (d x : Nat) : Op := ⟨some d, .mov (.mv x), none⟩
def k_ (l : List Op) (b : C) : C := .seq (.ops l) b
def zu : C := (k_ [e_ 67 .lss 66 65] (.seq (.cond (.t 67) (.skip) (.exit 0)) (.seq (.block 1 [3, 64, 65, 66] (k_ [x_ 68 64 66 8, o_ 69 (.loadC (s_ 8) (.t 68)), o_ 10 (.alloc true [(.i .i64 0), (.i .i64 0), (.i .i64 0), (.s []), .nil, (.i .i32 0), (.s []), .nil]), z_ (.store (some 10) (s_ 8) (.t 10) (.t 69))] (k_ [o_ 70 (.load false (some 10) (s_ 8) (.t 10)), o_ 71 (.build [(.s []), (.b false), (.i .i64 0), (.i .i64 0), (.i .i64 0), (.s []), .nil, (.i .i32 0), (.s []), .nil] [(0, 1, (.c (.s [99]))), (2, 8, (.t 70))]), o_ 72 (.buildSlice (.agg [(.s []), (.b false), (.i .i64 0), (.i .i64 0), (.i .i64 0), (.s []), .nil, (.i .i32 0), (.s []), .nil]) 1 [(0, (.t 71))]), o_ 73 (.build [(.s []), .nil, .nil, .nil, .nil, .nil, .nil, .nil] [(0, 1, (.c (.s [77]))), (2, 1, (.t 72))]), o_ 11 (.alloc true [(.s []), .nil, .nil, .nil, .nil, .nil, .nil, .nil]), z_ (.store (some 11) (s_ 8) (.t 11) (.t 73))] (k_ [o_ 74 (.load false (some 11) (s_ 8) (.t 11)), o_ 75 (.call (.f 13) [.t 74, (.c .nil)]), u_ 76 75, m_ 77 76, q_ 78 77 false (.fieldAddr (.t 10) 1 (s_ 4)), q_ 79 77 false (.fieldAddr (.t 78) 0 l_), q_ 80 77 false (.load false (some 10) l_ (.t 79)), q_ 81 77 false (.bin .eql .num (.t 80) (i_ 1)), q_ 82 77 false (.mov (.t 81)), q_ 83 82 true (.mov (.t 3)), q_ 84 82 true (.bin .eql .num (.t 83) (.c (.s []))), q_ 85 77 false (.pick (.t 82) (.t 84) (.c (.b false))), q_ 86 77 false (.mov (.t 85)), q_ 87 86 true (.fieldAddr (.t 10) 1 (s_ 4)), q_ 88 86 true (.fieldAddr (.t 87) 3 l_), q_ 89 86 true (.load false (some 10) l_ (.t 88)), q_ 90 86 true (.bi .lenL [.t 89]), q_ 91 86 true (.bin .eql .num (.t 90) (i_ 0)), q_ 92 77 false (.pick (.t 86) (.t 91) (.c (.b false))), q_ 93 77 false (.mov (.t 92)), q_ 94 93 true (.fieldAddr (.t 10) 1 (s_ 4)), q_ 95 93 true (.fieldAddr (.t 94) 1 l_), q_ 96 93 true (.load false (some 10) l_ (.t 95)), q_ 97 93 true (.bin .eql .num (.t 96) (i_ 0)), q_ 98 77 false (.pick (.t 93) (.t 97) (.c (.b false))), q_ 99 77 false (.mov (.t 98)), q_ 100 99 true (.fieldAddr (.t 10) 1 (s_ 4)), q_ 101 99 true (.fieldAddr (.t 100) 2 l_), q_ 102 99 true (.load false (some 10) l_ (.t 101)), q_ 103 99 true (.bin .eql .num (.t 102) (.c (.s []))), q_ 104 77 false (.pick (.t 99) (.t 103) (.c (.b false))), q_ 105 77 false (.mov (.t 104)), q_ 106 105 true (.fieldAddr (.t 10) 6 l_), q_ 107 105 true (.load false (some 10) l_ (.t 106)), q_ 108 105 true (.bin .eql .num (.t 107) (.c (.s []))), q_ 109 77 false (.pick (.t 105) (.t 108) (.c (.b false))), q_ 110 77 false (.mov (.t 109)), q_ 111 110 true (.load false (some 11) (s_ 8) (.t 11)), q_ 112 110 true (.call (.f 11) [.t 111, (.c .nil)]), q_ 113 110 true (.bin .neq .num (.t 112) (i_ 0)), q_ 114 77 false (.pick (.t 110) (.t 113) (.c (.b false))), o_ 115 (.pick (.t 77) (.c (.b true)) (.t 114))] (.cond (.t 115) (k_ [o_ 8 (.mov (.c (.b false)))] (.ret)) (.skip)))))) (.ops [g_ 116 .add 66 1, m_ 66 116]))))
def jx : C := .loop [3, 64, 65, 66] zu
def qb4 : C := (k_ [o_ 8 (.mov (.c (.b true)))] (.ret))
def zI : Fn := ⟨4, [.t 8], true, (k_ [o_ 4 (.box true (.t 0)), o_ 8 (.mov (.c (.b false)))] (.seq (k_ [c_ 12 8 [], u_ 13 12] (.cond (.t 13) (k_ [o_ 8 (.mov (.c (.b false)))] (.ret)) (.skip))) (.seq (k_ [m_ 14 3, o_ 15 (.bi .lenS [.t 14]), g_ 16 .gtr 15 130, m_ 17 16, q_ 18 17 false (.fieldAddr (.t 4) 7 l_), q_ 19 17 false (.load false (some 4) l_ (.t 18)), q_ 20 17 false (.bi .lenL [.t 19]), q_ 21 17 false (.bin .gtr .num (.t 20) (i_ 3)), o_ 22 (.pick (.t 17) (.c (.b true)) (.t 21)), m_ 23 22, q_ 24 23 false (.fieldAddr (.t 4) 6 l_), q_ 25 23 false (.load false (some 4) l_ (.t 24)), q_ 26 23 false (.bi .lenS [.t 25]), q_ 27 23 false (.bin .gtr .num (.t 26) (i_ 130)), o_ 28 (.pick (.t 23) (.c (.b true)) (.t 27)), m_ 29 28, q_ 30 29 false (.fieldAddr (.t 4) 1 (s_ 4)), q_ 31 29 false (.fieldAddr (.t 30) 3 l_), q_ 32 29 false (.load false (some 4) l_ (.t 31)), q_ 33 29 false (.bi .lenL [.t 32]), q_ 34 29 false (.bin .gtr .num (.t 33) (i_ 1)), o_ 35 (.pick (.t 29) (.c (.b true)) (.t 34))] (.cond (.t 35) (k_ [o_ 8 (.mov (.c (.b true)))] (.ret)) (.skip))) (.seq (k_ [o_ 36 (.fieldAddr (.t 4) 1 (s_ 4)), o_ 37 (.load false (some 4) (s_ 4) (.t 36)), a_ 38 4 5, d_ 39 4 38, a_ 40 4 6, d_ 41 4 40, o_ 42 (.build [(.i .i64 0), (.i .i64 0), (.i .i64 0), (.s []), .nil, (.i .i32 0), (.s []), .nil] [(1, 4, (.t 37)), (5, 1, (.t 39)), (6, 1, (.t 41))]), m_ 43 1, o_ 44 (.bin .rem .num (.t 43) (.c (.i .u8 12))), o_ 45 (.conv .i64 (.t 44)), o_ 46 (.build [(.i .i64 0), (.i .i64 0), (.s []), .nil] [(0, 1, (.t 45))]), m_ 47 2, o_ 48 (.build [(.i .i64 0), (.i .i64 0), (.i .i64 0), (.s []), .nil, (.i .i32 0), (.s []), .nil] [(1, 4, (.t 46)), (5, 1, (.t 47))]), o_ 49 (.build [(.i .i64 0), (.i .i64 0), (.s []), .nil] [(0, 1, (i_ 6))]), m_ 50 3, o_ 51 (.build [(.i .i64 0), (.i .i64 0), (.i .i64 0), (.s []), .nil, (.i .i32 0), (.s []), .nil] [(1, 4, (.t 49)), (6, 1, (.t 50))]), o_ 52 (.build [(.i .i64 0), (.i .i64 0), (.s []), .nil] [(0, 1, (i_ 2))]), m_ 53 2, o_ 54 (.bin .and .num (.t 53) (.c (.i .i32 511))), o_ 55 (.build [(.i .i64 0), (.i .i64 0), (.i .i64 0), (.s []), .nil, (.i .i32 0), (.s []), .nil] [(1, 4, (.t 52)), (5, 1, (.t 54))]), o_ 56 (.build [(.i .i64 0), (.i .i64 0), (.s []), .nil] [(0, 1, (i_ 3))]), m_ 57 2, o_ 58 (.bin .and .num (.t 57) (.c (.i .i32 3))), o_ 59 (.build [(.i .i64 0), (.i .i64 0), (.i .i64 0), (.s []), .nil, (.i .i32 0), (.s []), .nil] [(1, 4, (.t 56)), (5, 1, (.t 58))]), o_ 60 (.build [(.i .i64 0), (.i .i64 0), (.s []), .nil] [(0, 1, (i_ 1))]), m_ 61 2, m_ 62 3, o_ 63 (.build [(.i .i64 0), (.i .i64 0), (.i .i64 0), (.s []), .nil, (.i .i32 0), (.s []), .nil] [(1, 4, (.t 60)), (5, 1, (.t 61)), (6, 1, (.t 62))]), o_ 64 (.buildSlice (.agg [(.i .i64 0), (.i .i64 0), (.i .i64 0), (.s []), .nil, (.i .i32 0), (.s []), .nil]) 6 [(0, (.t 42)), (1, (.t 48)), (2, (.t 51)), (3, (.t 55)), (4, (.t 59)), (5, (.t 63))]), n_ 65 64, o_ 66 (.mov (i_ 0))] (.block 0 [] (jx))) (qb4))))), none, none⟩
def qfO : Fn := ⟨0, [.t 0], true, (k_ [o_ 0 (.mov (.c (.b false)))] (k_ [o_ 3 (.build [(.i .i64 0), (.i .i64 0), (.s []), .nil] [(0, 1, (i_ 1))]), o_ 4 (.build [(.s []), (.b false), (.i .i64 0), (.i .i64 0), (.s []), .nil] [(0, 1, (.c (.s [105]))), (2, 4, (.t 3))]), o_ 5 (.buildSlice (.agg [(.s []), (.b false), (.i .i64 0), (.i .i64 0), (.s []), .nil]) 1 [(0, (.t 4))]), o_ 6 (.build [(.s []), .nil, .nil, .nil, .nil, .nil, .nil, .nil] [(0, 1, (.c (.s [77]))), (5, 1, (.t 5))]), o_ 1 (.alloc true [(.s []), .nil, .nil, .nil, .nil, .nil, .nil, .nil]), z_ (.store (some 1) (s_ 8) (.t 1) (.t 6))] (k_ [o_ 7 (.load false (some 1) (s_ 8) (.t 1)), o_ 2 (.alloc true [(.s []), .nil, .nil, .nil, .nil, .nil, .nil, .nil]), z_ (.store (some 2) (s_ 8) (.t 2) (.t 7))] (k_ [o_ 8 (.build [(.i .i64 0), (.i .i64 0), (.s []), .nil] [(0, 1, (i_ 1))]), o_ 9 (.build [(.i .i64 0), (.i .i64 0), (.i .i64 0), (.s []), .nil, (.i .i32 0), (.s []), .nil] [(0, 1, (i_ 1)), (1, 4, (.t 8)), (6, 1, (.c (.s [77, 46, 105])))]), o_ 10 (.buildSlice (.agg [(.i .i64 0), (.i .i64 0), (.i .i64 0), (.s []), .nil, (.i .i32 0), (.s []), .nil]) 1 [(0, (.t 9))]), o_ 11 (.build [(.i .i64 0), .nil, .nil, .nil] [(0, 1, (i_ 12)), (1, 1, (.t 10))]), o_ 12 (.buildSlice (.agg [(.i .i64 0), .nil, .nil, .nil]) 1 [(0, (.t 11))]), a_ 13 2 7, z_ (.store (some 2) l_ (.t 13) (.mv 12))] (k_ [o_ 14 (.load false (some 1) (s_ 8) (.t 1)), o_ 15 (.call (.f 11) [.t 14, (.c .nil)]), g_ 16 .eql 15 0, m_ 17 16, q_ 18 17 true (.load false (some 2) (s_ 8) (.t 2)), q_ 19 17 true (.call (.f 11) [.t 18, (.c .nil)]), q_ 20 17 true (.bin .neq .num (.t 19) (i_ 0)), o_ 21 (.pick (.t 17) (.t 20) (.c (.b false))), m_ 22 21, q_ 23 22 true (.call (.f 14) [(.c (.s [120, 49]))]), o_ 24 (.pick (.t 22) (.t 23) (.c (.b false))), m_ 25 24, q_ 26 25 true (.call (.f 14) [(.c (.s [69, 78, 68]))]), q_ 27 25 true (.un .not (.t 26)), o_ 28 (.pick (.t 25) (.t 27) (.c (.b false))), m_ 29 28, q_ 30 29 true (.call (.f 14) [(.c (.s [65, 66, 83]))]), q_ 31 29 true (.un .not (.t 30)), o_ 32 (.pick (.t 29) (.t 31) (.c (.b false))), m_ 0 32] (.ret)))))), none, none⟩
def f_recheck_Check_B0 : C := (k_ [e_ 29 .lss 28 27] (.seq (.cond (.t 29) (.skip) (.exit 0)) (.seq (.block 1 [2, 4, 5, 26, 27, 28] (k_ [x_ 30 26 28 10, o_ 31 (.load false none (s_ 10) (.t 30)), o_ 7 (.alloc true [(.s []), (.b false), .nil, (.i .i64 0), (.i .i64 0), (.s []), .nil, .nil, .nil, .nil]), z_ (.store (some 7) (s_ 10) (.t 7) (.t 31))] (.ops [m_ 32 5, o_ 33 (.load false (some 7) (s_ 10) (.t 7)), c_ 34 27 [.t 32, .t 33]]))) (.ops [g_ 35 .add 28 1, m_ 28 35]))))
def f_recheck_Check_L0 : C := .loop [2, 4, 5, 26, 27, 28] f_recheck_Check_B0
def f_recheck_Check_R1 : C := (k_ [m_ 36 5, m_ 37 5, o_ 38 (.nilCheck (.t 36)), a_ 39 38 9, z_ (.store none l_ (.t 39) (.c .nm)), o_ 40 (.nilCheck (.t 37)), a_ 41 40 10, z_ (.store none l_ (.t 41) (.c .nm))] (k_ [v_ 42 5, a_ 43 2 7, d_ 44 2 43, c_ 45 28 [.mv 42, .t 44]] (k_ [z_ (.store none l_ (.t 4) (i_ 0))] (.ret))))
def f_recheck_Check_D : C := (.seq (.skip) (k_ [o_ 9 (.load false (some 2) (s_ 8) (.t 2)), c_ 10 22 [.t 9], c_ 11 21 [.t 10, (i_ 34)]] (.seq (.opsD [(o_ 12 (.load false (some 2) (s_ 8) (.t 2)), false, []), (a_ 13 2 0, false, []), (d_ 14 2 13, false, []), (v_ 15 1, false, []), (c_ 16 23 [.t 14, .mv 15], true, []), (o_ 17 (.build [(.s []), .nil, .nil, .nil, .nil, .nil, .nil, .nil, .np, .nm, .nm] [(0, 8, (.t 12)), (8, 1, (.t 16))]), true, []), (o_ 18 (.box false (.t 17)), true, []), (m_ 5 18, true, [])]) (k_ [m_ 19 5, c_ 20 24 [.t 19]] (k_ [m_ 21 5, c_ 22 25 [.t 21]] (k_ [m_ 23 5, c_ 24 26 [.t 23]] (.seq (k_ [a_ 25 2 6, d_ 26 2 25, n_ 27 26, o_ 28 (.mov (i_ 0))] (.block 0 [2, 4, 5] (f_recheck_Check_L0))) (f_recheck_Check_R1))))))))
def f_recheck_Check : Fn := ⟨2, [(.cell 4 l_)], true, (k_ [o_ 2 (.box true (.t 0)), o_ 4 (.alloc false [(.i .i64 0)])] (.ops [o_ 8 (.mkFn 20 [] [.t 4])])), some (8, f_recheck_Check_D), none⟩
def qaf : Fn := ⟨2, [.t 4], true, (k_ [o_ 2 (.box true (.t 0)), o_ 4 (.mov (.c (.b false)))] (k_ [o_ 7 (.load false (some 2) (s_ 8) (.t 2)), m_ 8 1, c_ 9 11 [.t 7, .t 8], v_ 5 9] (k_ [o_ 10 (.load false (some 2) (s_ 8) (.t 2)), v_ 11 1, c_ 12 16 [.t 10, .mv 11], v_ 6 12] (.seq (k_ [m_ 13 6, g_ 14 .eql 13 34] (.cond (.t 14) (k_ [m_ 15 5, g_ 16 .eql 15 34, m_ 4 16] (.ret)) (.skip))) (k_ [m_ 17 5, g_ 18 .eql 17 0, m_ 19 6, g_ 20 .eql 19 0, o_ 21 (.bin .eql .bool (.t 18) (.t 20)), m_ 22 21, q_ 23 22 true (.mov (.t 5)), q_ 24 22 true (.bin .eql .num (.t 23) (i_ 0)), q_ 25 22 true (.mov (.t 24)), q_ 26 25 false (.mov (.t 5)), q_ 27 25 false (.bin .geq .num (.t 26) (i_ 32)), q_ 28 25 false (.mov (.t 27)), q_ 29 28 true (.mov (.t 5)), q_ 30 28 true (.bin .leq .num (.t 29) (i_ 34)), q_ 31 25 false (.pick (.t 28) (.t 30) (.c (.b false))), q_ 32 22 true (.pick (.t 25) (.c (.b true)) (.t 31)), q_ 33 22 true (.mov (.t 32)), q_ 34 33 false (.mov (.t 5)), q_ 35 33 false (.bin .eql .num (.t 34) (i_ 40)), q_ 36 22 true (.pick (.t 33) (.c (.b true)) (.t 35)), o_ 37 (.pick (.t 22) (.t 36) (.c (.b false))), m_ 4 37] (.ret)))))), none, none⟩
def yN : Fn := ⟨1, [.t 2], true, (k_ [o_ 2 (.mov (.c (.b false)))] (k_ [m_ 6 0, c_ 7 33 [.t 6], m_ 5 7, r_ 8 5 0, r_ 9 5 1, m_ 3 8, m_ 4 9] (k_ [m_ 10 4, n_ 11 10, g_ 12 .eql 11 0, m_ 13 12, q_ 14 13 true (.mov (.t 3)), q_ 15 13 true (.bi .lenL [.t 14]), q_ 16 13 true (.bin .eql .num (.t 15) (i_ 2)), o_ 17 (.pick (.t 13) (.t 16) (.c (.b false))), m_ 18 17, q_ 19 18 true (.mov (.t 3)), q_ 20 18 true (.indexAddr (.t 19) (i_ 0) 5 none), q_ 21 18 true (.fieldAddr (.t 20) 0 l_), q_ 22 18 true (.load false none l_ (.t 21)), q_ 23 18 true (.bin .eql .num (.t 22) (i_ 1)), o_ 24 (.pick (.t 18) (.t 23) (.c (.b false))), m_ 25 24, q_ 26 25 true (.mov (.t 3)), q_ 27 25 true (.indexAddr (.t 26) (i_ 0) 5 none), q_ 28 25 true (.fieldAddr (.t 27) 3 l_), q_ 29 25 true (.load false none l_ (.t 28)), q_ 30 25 true (.mov (.t 0)), q_ 31 25 true (.bin .eql .num (.t 29) (.t 30)), o_ 32 (.pick (.t 25) (.t 31) (.c (.b false))), m_ 33 32, q_ 34 33 true (.mov (.t 0)), q_ 35 33 true (.call (.f 34) [.t 34]), q_ 36 33 true (.un .not (.t 35)), o_ 37 (.pick (.t 33) (.t 36) (.c (.b false))), m_ 2 37] (.ret)))), none, none⟩
def zh : C := (.seq (k_ [m_ 20 3, m_ 21 0, o_ 22 (.bi .lenS [.t 21]), e_ 23 .lss 20 22] (.cond (.t 23) (.skip) (.exit 0))) (.seq (.block 1 [0, 3] (k_ [m_ 26 0, m_ 27 3, o_ 28 (.index (.t 26) (.t 27)), m_ 4 28] (k_ [m_ 29 4, o_ 30 (.bin .geq .num (.t 29) (.c (.i .u8 97))), m_ 31 30, q_ 32 31 true (.mov (.t 4)), q_ 33 31 true (.bin .leq .num (.t 32) (.c (.i .u8 122))), o_ 34 (.pick (.t 31) (.t 33) (.c (.b false))), m_ 35 34, q_ 36 35 false (.mov (.t 4)), q_ 37 35 false (.bin .geq .num (.t 36) (.c (.i .u8 65))), q_ 38 35 false (.mov (.t 37)), q_ 39 38 true (.mov (.t 4)), q_ 40 38 true (.bin .leq .num (.t 39) (.c (.i .u8 90))), q_ 41 35 false (.pick (.t 38) (.t 40) (.c (.b false))), o_ 42 (.pick (.t 35) (.c (.b true)) (.t 41)), m_ 43 42, q_ 44 43 false (.mov (.t 3)), q_ 45 43 false (.bin .gtr .num (.t 44) (i_ 0)), q_ 46 43 false (.mov (.t 45)), q_ 47 46 true (.mov (.t 4)), q_ 48 46 true (.bin .geq .num (.t 47) (.c (.i .u8 48))), q_ 49 43 false (.pick (.t 46) (.t 48) (.c (.b false))), q_ 50 43 false (.mov (.t 49)), q_ 51 50 true (.mov (.t 4)), q_ 52 50 true (.bin .leq .num (.t 51) (.c (.i .u8 57))), q_ 53 43 false (.pick (.t 50) (.t 52) (.c (.b false))), o_ 54 (.pick (.t 43) (.c (.b true)) (.t 53)), u_ 55 54] (.cond (.t 55) (k_ [o_ 2 (.mov (.c (.b false)))] (.ret)) (.skip))))) (.ops [m_ 24 3, g_ 25 .add 24 1, m_ 3 25])))
def qaM : C := .loop [0, 3] zh
noncomputable def qbK (pg : Pg) (v0 v3 : V) (H : List Obj) (lo : Nat) : Option (Ex × St) := exL pg qaM ⟨[(0, v0), (3, v3)], H, lo⟩
theorem qaY {pg : Pg} {e : Env} {H : List Obj} {lo : Nat} : exL pg qaM ⟨e, H, lo⟩ = qbK pg (zz (get 0 e)) (zz (get 3 e)) H lo := qf4
theorem qdA {pg : Pg} {v0 v3 : V} {H : List Obj} {lo : Nat} : qbK pg v0 v3 H lo = qcp pg (exL pg zh ⟨[(0, zz v0), (3, zz v3)], H, lo⟩) qaM := by
  unfold qbK qaM; rw [jy]; simp only [qo, qp, qE, qH, Nat.reduceEqDiff]
def qc7 : C := (k_ [o_ 2 (.mov (.c (.b true)))] (.ret))
def yM : Fn := ⟨1, [.t 2], true, (k_ [o_ 2 (.mov (.c (.b false)))] (.seq (k_ [m_ 5 0, o_ 6 (.bin .eql .num (.t 5) (.c (.s []))), m_ 7 6, q_ 8 7 false (.mov (.t 0)), q_ 9 7 false (.bi .lenS [.t 8]), q_ 10 7 false (.bin .gtr .num (.t 9) (i_ 32)), o_ 11 (.pick (.t 7) (.c (.b true)) (.t 10)), m_ 12 11, q_ 13 12 false (.mov (.t 0)), q_ 14 12 false (.call (.f 35) [.t 13]), o_ 15 (.pick (.t 12) (.c (.b true)) (.t 14)), m_ 16 15, q_ 17 16 false (.mov (.t 0)), q_ 18 16 false (.call (.f 36) [.t 17]), o_ 19 (.pick (.t 16) (.c (.b true)) (.t 18))] (.cond (.t 19) (k_ [o_ 2 (.mov (.c (.b false)))] (.ret)) (.skip))) (.seq (k_ [o_ 3 (.mov (i_ 0))] (.block 0 [] (qaM))) (qc7)))), none, none⟩
def f_waferref17_Check_B0 : C := (.seq (k_ [m_ 31 6, a_ 32 2 6, d_ 33 2 32, n_ 34 33, e_ 35 .lss 31 34] (.cond (.t 35) (.skip) (.exit 0))) (.seq (.block 1 [2, 5, 6] (k_ [m_ 38 5, a_ 39 2 6, d_ 40 2 39, m_ 41 6, x_ 42 40 41 10, o_ 43 (.load false none (s_ 10) (.t 42)), c_ 44 42 [.t 38, .t 43], u_ 45 44] (.cond (.t 45) (k_ [o_ 4 (.mov (i_ 33))] (.ret)) (.skip)))) (.ops [m_ 36 6, g_ 37 .add 36 1, m_ 6 37])))
def f_waferref17_Check_L0 : C := .loop [2, 5, 6] f_waferref17_Check_B0
def f_waferref17_Check_R1 : C := (k_ [m_ 46 5, m_ 47 5, o_ 48 (.nilCheck (.t 46)), a_ 49 48 10, z_ (.store none l_ (.t 49) (.c .nm)), o_ 50 (.nilCheck (.t 47)), a_ 51 50 11, z_ (.store none l_ (.t 51) (.c .nm))] (.seq (k_ [v_ 52 5, a_ 53 2 7, d_ 54 2 53, c_ 55 43 [.mv 52, .t 54], u_ 56 55] (.cond (.t 56) (k_ [o_ 4 (.mov (i_ 33))] (.ret)) (.skip))) (k_ [o_ 4 (.mov (i_ 0))] (.ret))))
def f_waferref17_Check : Fn := ⟨2, [.t 4], true, (k_ [o_ 2 (.box true (.t 0)), o_ 4 (.mov (i_ 0))] (.seq (k_ [o_ 7 (.load false (some 2) (s_ 8) (.t 2)), c_ 8 37 [.t 7], u_ 9 8] (.cond (.t 9) (k_ [o_ 4 (.mov (i_ 34))] (.ret)) (.skip))) (k_ [a_ 10 2 0, d_ 11 2 10, v_ 12 1, c_ 13 38 [.t 11, .mv 12], v_ 1 13] (.seq (.opsD [(o_ 14 (.load false (some 2) (s_ 8) (.t 2)), false, []), (m_ 15 1, false, []), (o_ 16 (.load false (some 2) (s_ 8) (.t 2)), false, []), (o_ 17 (.buildSlice (.agg [(.s []), .nil, .nil, .nil, .nil, .nil, .nil, .nil]) 1 [(0, (.t 16))]), false, []), (m_ 18 1, false, []), (o_ 19 (.bi (.append 8 184) [.mv 17, (.t 18)]), false, []), (c_ 20 39 [.t 19], true, []), (o_ 21 (.build [(.s []), .nil, .nil, .nil, .nil, .nil, .nil, .nil, .nil, .nm, .nm, .nm] [(0, 8, (.t 14)), (8, 1, (.t 15)), (9, 1, (.t 20))]), true, []), (o_ 22 (.box false (.t 21)), true, []), (m_ 5 22, true, [])]) (.seq (k_ [m_ 23 5, c_ 24 40 [.t 23], u_ 25 24, m_ 26 25, q_ 27 26 false (.mov (.t 5)), q_ 28 26 false (.call (.f 41) [.t 27]), q_ 29 26 false (.un .not (.t 28)), o_ 30 (.pick (.t 26) (.c (.b true)) (.t 29))] (.cond (.t 30) (k_ [o_ 4 (.mov (i_ 33))] (.ret)) (.skip))) (.seq (k_ [o_ 6 (.mov (i_ 0))] (.block 0 [2, 5] (f_waferref17_Check_L0))) (f_waferref17_Check_R1))))))), none, none⟩
def f_recheck_Check_1 : Fn := ⟨1, [], false, (k_ [m_ 1 4] (k_ [m_ 5 1, o_ 6 (.bin .neq .iface (.t 5) (.c .ni))] (.cond (.t 6) (k_ [m_ 8 1, o_ 9 (.assertOk 75 (.agg [(.i .i64 0)]) (.t 8)), m_ 7 9, r_ 10 7 0, r_ 11 7 1, o_ 2 (.alloc true [(.i .i64 0)]), z_ (.store (some 2) (s_ 1) (.t 2) (.t 10)), m_ 3 11] (.seq (k_ [m_ 12 3, u_ 13 12] (.cond (.t 13) (.ops [m_ 14 1, z_ (.panic (.t 14))]) (.skip))) (.ops [a_ 15 2 0, d_ 16 2 15, z_ (.store none l_ (.t 0) (.t 16))]))) (.skip)))), none, (some 4)⟩
def f_recheck_must : Fn := ⟨2, [], false, (k_ [m_ 4 0, u_ 5 4] (.cond (.t 5) (.ops [m_ 6 1, o_ 7 (.build [(.i .i64 0)] [(0, 1, (.t 6))]), o_ 8 (.mkIfc 75 (.t 7)), z_ (.panic (.t 8))]) (.skip))), none, none⟩
def qcS : Fn := ⟨1, [.t 2], true, (k_ [o_ 1 (.box true (.t 0)), o_ 2 (.mov (.c (.b false)))] (k_ [a_ 7 1 1, d_ 8 1 7, n_ 9 8, c_ 10 49 [.t 9], v_ 11 10, q_ 12 11 true (.fieldAddr (.t 1) 2 l_), q_ 13 11 true (.load false (some 1) l_ (.t 12)), q_ 14 11 true (.bi .lenL [.t 13]), q_ 15 11 true (.call (.f 49) [.t 14]), o_ 16 (.pick (.t 11) (.t 15) (.c (.b false))), m_ 17 16, q_ 18 17 true (.fieldAddr (.t 1) 4 l_), q_ 19 17 true (.load false (some 1) l_ (.t 18)), q_ 20 17 true (.bi .lenL [.t 19]), q_ 21 17 true (.call (.f 49) [.t 20]), o_ 22 (.pick (.t 17) (.t 21) (.c (.b false))), m_ 23 22, q_ 24 23 true (.fieldAddr (.t 1) 6 l_), q_ 25 23 true (.load false (some 1) l_ (.t 24)), q_ 26 23 true (.bi .lenL [.t 25]), q_ 27 23 true (.call (.f 49) [.t 26]), o_ 28 (.pick (.t 23) (.t 27) (.c (.b false))), m_ 3 28] (.seq (k_ [m_ 29 3, u_ 30 29, m_ 31 30, q_ 32 31 false (.fieldAddr (.t 1) 0 l_), q_ 33 31 false (.load false (some 1) l_ (.t 32)), q_ 34 31 false (.call (.f 50) [.t 33]), q_ 35 31 false (.un .not (.t 34)), o_ 36 (.pick (.t 31) (.c (.b true)) (.t 35)), m_ 37 36, q_ 38 37 false (.fieldAddr (.t 1) 3 l_), q_ 39 37 false (.load false (some 1) l_ (.t 38)), q_ 40 37 false (.call (.f 51) [.t 39]), q_ 41 37 false (.un .not (.t 40)), o_ 42 (.pick (.t 37) (.c (.b true)) (.t 41)), m_ 43 42, q_ 44 43 false (.fieldAddr (.t 1) 5 l_), q_ 45 43 false (.load false (some 1) l_ (.t 44)), q_ 46 43 false (.call (.f 51) [.t 45]), q_ 47 43 false (.un .not (.t 46)), o_ 48 (.pick (.t 43) (.c (.b true)) (.t 47)), m_ 49 48, q_ 50 49 false (.fieldAddr (.t 1) 7 l_), q_ 51 49 false (.load false (some 1) l_ (.t 50)), q_ 52 49 false (.call (.f 52) [.t 51]), q_ 53 49 false (.bin .gtr .num (.t 52) (i_ 64)), o_ 54 (.pick (.t 49) (.c (.b true)) (.t 53)), m_ 55 54, q_ 56 55 false (.fieldAddr (.t 1) 7 l_), q_ 57 55 false (.load false (some 1) l_ (.t 56)), q_ 58 55 false (.call (.f 53) [.t 57]), q_ 59 55 false (.un .not (.t 58)), o_ 60 (.pick (.t 55) (.c (.b true)) (.t 59))] (.cond (.t 60) (k_ [o_ 2 (.mov (.c (.b false)))] (.ret)) (.skip))) (k_ [a_ 61 1 1, d_ 62 1 61, c_ 63 54 [.t 62, .f 55], v_ 4 63] (k_ [a_ 64 1 2, d_ 65 1 64, c_ 66 56 [.t 65, .f 57], v_ 5 66] (k_ [a_ 67 1 4, d_ 68 1 67, c_ 69 59 [.t 68, .f 60], v_ 6 69] (k_ [m_ 70 4, u_ 71 70, m_ 72 71, q_ 73 72 true (.mov (.t 5)), q_ 74 72 true (.un .not (.t 73)), o_ 75 (.pick (.t 72) (.t 74) (.c (.b false))), m_ 76 75, q_ 77 76 true (.mov (.t 6)), q_ 78 76 true (.un .not (.t 77)), o_ 79 (.pick (.t 76) (.t 78) (.c (.b false))), m_ 80 79, q_ 81 80 true (.fieldAddr (.t 1) 6 l_), q_ 82 80 true (.load false (some 1) l_ (.t 81)), q_ 83 80 true (.call (.f 61) [.t 82, (.f 62)]), q_ 84 80 true (.un .not (.t 83)), o_ 85 (.pick (.t 80) (.t 84) (.c (.b false))), m_ 2 85] (.ret)))))))), none, none⟩
def f_front_NewEnv_A0 : C := .ops [o_ 10 (.alloc true [(.s []), (.b false), (.s []), .nil]), z_ (.store (some 10) (s_ 4) (.t 10) (.t 39))]
def f_front_NewEnv_B0 : C := (.block 3 [4, 5, 6, 22, 23, 24] (.opsD [(h_ 40 5, false, []), (o_ 41 (.nilCheck (.t 40)), false, []), (a_ 42 41 1, false, []), (h_ 43 42, false, []), (a_ 44 8 0, false, []), (h_ 45 44, false, []), (o_ 46 (.bin .add .num (.t 45) (.c (.s [46]))), false, []), (a_ 47 10 0, false, []), (d_ 48 10 47, false, []), (e_ 49 .add 46 48, false, []), (o_ 50 (.load false (some 10) (s_ 4) (.t 10)), false, []), (z_ (.mapUpdate 2 (.t 43) (.t 49) (.t 50)), true, [])]))
def f_front_NewEnv_R1 : C := .ops [g_ 51 .add 24 1, m_ 24 51]
def f_front_NewEnv_B2 : C := (k_ [e_ 25 .lss 24 23] (.seq (.cond (.t 25) (.skip) (.exit 0)) (.seq (.block 1 [4, 5, 6, 22, 23, 24] (k_ [x_ 26 22 24 8, o_ 27 (.load false none (s_ 8) (.t 26)), o_ 8 (.alloc false [(.s []), .nil, .nil, .nil, .nil, .nil, .nil, .nil]), z_ (.store none (s_ 8) (.t 8) (.t 27))] (.seq (k_ [m_ 28 6, a_ 29 8 0, h_ 30 29, o_ 31 (.lookup 2 (.b false) (.t 28) (.t 30) false)] (.cond (.t 31) (.exit 1) (.skip))) (k_ [m_ 32 6, a_ 33 8 0, h_ 34 33, z_ (.mapUpdate 2 (.t 32) (.t 34) (.c (.b true)))] (k_ [a_ 35 8 4, h_ 36 35, c_ 37 64 [.t 36]] (.block 2 [4, 5, 6, 22, 23, 24] (.rangeB 141 (s_ 4) (.t 37) 38 39 [4, 5, 6, 8, 22, 23, 24] f_front_NewEnv_A0 f_front_NewEnv_B0))))))) (f_front_NewEnv_R1))))
def f_front_NewEnv_L2 : C := .loop [4, 5, 6, 22, 23, 24] f_front_NewEnv_B2
def f_front_NewEnv_R3 : C := (k_ [h_ 52 5, m_ 4 52] (.ret))
def f_front_NewEnv : Fn := ⟨2, [.t 4], true, (k_ [o_ 4 (.mov (.c .np))] (k_ [m_ 11 0, o_ 12 (.mkMap), o_ 13 (.mkMap), o_ 14 (.mkMap), o_ 15 (.mkMap), m_ 16 1, o_ 17 (.build [(.s []), .nm, .nm, .nm, .nm, .nil] [(0, 1, (.t 11)), (1, 1, (.t 12)), (2, 1, (.t 13)), (3, 1, (.t 14)), (4, 1, (.t 15)), (5, 1, (.t 16))]), o_ 18 (.box false (.t 17)), o_ 5 (.alloc false [.np]), z_ (.store none l_ (.t 5) (.t 18))] (k_ [o_ 19 (.mkMap), m_ 20 0, z_ (.mapUpdate 2 (.t 19) (.t 20) (.c (.b true))), m_ 21 19, m_ 6 21] (.seq (k_ [m_ 22 1, n_ 23 22, o_ 24 (.mov (i_ 0))] (.block 0 [5] (f_front_NewEnv_L2))) (f_front_NewEnv_R3))))), none, none⟩
def f_recheck_checker_heads_B0 : C := (k_ [e_ 41 .lss 40 39] (.seq (.cond (.t 41) (.skip) (.exit 0)) (.seq (.block 1 [0, 2, 4, 38, 39, 40] (k_ [x_ 42 38 40 1, h_ 43 42, m_ 6 43] (k_ [m_ 44 4, m_ 45 6, o_ 46 (.call (.t 44) [.t 45])] (k_ [m_ 47 6, a_ 48 2 0, d_ 49 2 48, e_ 50 .neq 47 49, c_ 51 65 [.t 50]] (.ops [m_ 52 0, o_ 53 (.nilCheck (.t 52)), a_ 54 53 8, h_ 55 54, v_ 56 6, c_ 57 67 [.t 55, .mv 56], c_ 58 21 [.t 57, (i_ 40)]]))))) (.ops [g_ 59 .add 40 1, m_ 40 59]))))
def f_recheck_checker_heads_L0 : C := .loop [0, 2, 4, 38, 39, 40] f_recheck_checker_heads_B0
def f_recheck_checker_heads_B1 : C := (k_ [e_ 64 .lss 63 62] (.seq (.cond (.t 64) (.skip) (.exit 2)) (.seq (.block 3 [2, 4, 61, 62, 63] (k_ [x_ 65 61 63 10, o_ 66 (.load false none (s_ 10) (.t 65)), o_ 8 (.alloc true [(.s []), (.b false), (.i .i64 0), (.i .i64 0), (.i .i64 0), (.s []), .nil, (.i .i32 0), (.s []), .nil]), z_ (.store (some 8) (s_ 10) (.t 8) (.t 66))] (.ops [m_ 67 4, a_ 68 8 0, d_ 69 8 68, o_ 70 (.call (.t 67) [.t 69])]))) (.ops [g_ 71 .add 63 1, m_ 63 71]))))
def f_recheck_checker_heads_L1 : C := .loop [2, 4, 61, 62, 63] f_recheck_checker_heads_B1
def f_recheck_checker_heads_B2 : C := (k_ [e_ 76 .lss 75 74] (.seq (.cond (.t 76) (.skip) (.exit 4)) (.seq (.block 5 [2, 4, 73, 74, 75] (k_ [x_ 77 73 75 6, o_ 78 (.load false none (s_ 6) (.t 77)), o_ 10 (.alloc true [(.s []), (.b false), (.i .i64 0), (.i .i64 0), (.s []), .nil]), z_ (.store (some 10) (s_ 6) (.t 10) (.t 78))] (.ops [m_ 79 4, a_ 80 10 0, d_ 81 10 80, o_ 82 (.call (.t 79) [.t 81])]))) (.ops [g_ 83 .add 75 1, m_ 75 83]))))
def f_recheck_checker_heads_L2 : C := .loop [2, 4, 73, 74, 75] f_recheck_checker_heads_B2
def f_recheck_checker_heads_B3 : C := (k_ [e_ 88 .lss 87 86] (.seq (.cond (.t 88) (.skip) (.exit 6)) (.seq (.block 7 [2, 4, 85, 86, 87] (k_ [x_ 89 85 87 4, o_ 90 (.load false none (s_ 4) (.t 89)), o_ 12 (.alloc true [(.s []), (.b false), (.s []), .nil]), z_ (.store (some 12) (s_ 4) (.t 12) (.t 90))] (.ops [m_ 91 4, a_ 92 12 0, d_ 93 12 92, o_ 94 (.call (.t 91) [.t 93])]))) (.ops [g_ 95 .add 87 1, m_ 87 95]))))
def f_recheck_checker_heads_L3 : C := .loop [2, 4, 85, 86, 87] f_recheck_checker_heads_B3
def f_recheck_checker_heads_B4 : C := (k_ [e_ 100 .lss 99 98] (.seq (.cond (.t 100) (.skip) (.exit 8)) (.seq (.block 9 [2, 4, 97, 98, 99] (k_ [x_ 101 97 99 6, o_ 102 (.load false none (s_ 6) (.t 101)), o_ 14 (.alloc true [(.s []), (.b false), (.i .i64 0), (.i .i64 0), (.s []), .nil]), z_ (.store (some 14) (s_ 6) (.t 14) (.t 102))] (.ops [m_ 103 4, a_ 104 14 0, d_ 105 14 104, o_ 106 (.call (.t 103) [.t 105])]))) (.ops [g_ 107 .add 99 1, m_ 99 107]))))
def f_recheck_checker_heads_L4 : C := .loop [2, 4, 97, 98, 99] f_recheck_checker_heads_B4
def f_recheck_checker_heads_B5 : C := (k_ [e_ 112 .lss 111 110] (.seq (.cond (.t 112) (.skip) (.exit 10)) (.seq (.block 11 [4, 109, 110, 111] (k_ [x_ 113 109 111 10, o_ 114 (.load false none (s_ 10) (.t 113)), o_ 16 (.alloc true [(.s []), (.b false), .nil, (.i .i64 0), (.i .i64 0), (.s []), .nil, .nil, .nil, .nil]), z_ (.store (some 16) (s_ 10) (.t 16) (.t 114))] (.ops [m_ 115 4, a_ 116 16 0, d_ 117 16 116, o_ 118 (.call (.t 115) [.t 117])]))) (.ops [g_ 119 .add 111 1, m_ 111 119]))))
def f_recheck_checker_heads_L5 : C := .loop [4, 109, 110, 111] f_recheck_checker_heads_B5
def f_recheck_checker_heads_R6 : C := (k_ [a_ 108 2 6, d_ 109 2 108, n_ 110 109, o_ 111 (.mov (i_ 0))] (.block 10 [] (f_recheck_checker_heads_L5)))
def f_recheck_checker_heads_R7 : C := (.seq (k_ [a_ 96 2 5, d_ 97 2 96, n_ 98 97, o_ 99 (.mov (i_ 0))] (.block 8 [2, 4] (f_recheck_checker_heads_L4))) (f_recheck_checker_heads_R6))
def f_recheck_checker_heads_R8 : C := (.seq (k_ [a_ 84 2 4, d_ 85 2 84, n_ 86 85, o_ 87 (.mov (i_ 0))] (.block 6 [2, 4] (f_recheck_checker_heads_L3))) (f_recheck_checker_heads_R7))
def f_recheck_checker_heads_R9 : C := (.seq (k_ [a_ 72 2 3, d_ 73 2 72, n_ 74 73, o_ 75 (.mov (i_ 0))] (.block 4 [2, 4] (f_recheck_checker_heads_L2))) (f_recheck_checker_heads_R8))
def f_recheck_checker_heads_R10 : C := (.seq (k_ [a_ 60 2 2, d_ 61 2 60, n_ 62 61, o_ 63 (.mov (i_ 0))] (.block 2 [2, 4] (f_recheck_checker_heads_L1))) (f_recheck_checker_heads_R9))
def f_recheck_checker_heads : Fn := ⟨1, [], false, (k_ [m_ 17 0, o_ 18 (.nilCheck (.t 17)), o_ 19 (.fieldAddr (.t 18) 0 (s_ 8)), o_ 20 (.load false none (s_ 8) (.t 19)), o_ 2 (.alloc true [(.s []), .nil, .nil, .nil, .nil, .nil, .nil, .nil]), z_ (.store (some 2) (s_ 8) (.t 2) (.t 20))] (k_ [a_ 21 2 0, d_ 22 2 21, c_ 23 14 [.t 22], v_ 24 23, q_ 25 24 true (.fieldAddr (.t 2) 0 l_), q_ 26 24 true (.load false (some 2) l_ (.t 25)), q_ 27 24 true (.bin .neq .num (.t 26) (.c (.s [73, 110]))), o_ 28 (.pick (.t 24) (.t 27) (.c (.b false))), m_ 29 28, q_ 30 29 true (.fieldAddr (.t 2) 0 l_), q_ 31 29 true (.load false (some 2) l_ (.t 30)), q_ 32 29 true (.bin .neq .num (.t 31) (.c (.s [79, 117, 116]))), o_ 33 (.pick (.t 29) (.t 32) (.c (.b false))), c_ 34 65 [.t 33]] (k_ [o_ 35 (.mkMap), o_ 3 (.alloc false [.nm]), z_ (.store none l_ (.t 3) (.t 35))] (k_ [o_ 36 (.mkFn 66 [] [.t 3]), m_ 4 36] (.seq (k_ [a_ 37 2 1, d_ 38 2 37, n_ 39 38, o_ 40 (.mov (i_ 0))] (.block 0 [2, 4] (f_recheck_checker_heads_L0))) (f_recheck_checker_heads_R10)))))), none, none⟩
def f_recheck_checker_records_B0 : C := (k_ [e_ 20 .lss 19 18] (.seq (.cond (.t 20) (.skip) (.exit 0)) (.seq (.block 1 [0, 17, 18, 19] (k_ [x_ 21 17 19 4, o_ 22 (.load false none (s_ 4) (.t 21)), o_ 3 (.alloc true [(.s []), (.b false), (.s []), .nil]), z_ (.store (some 3) (s_ 4) (.t 3) (.t 22))] (.seq (.opsD [(m_ 23 0, false, []), (o_ 24 (.nilCheck (.t 23)), false, []), (a_ 25 24 8, false, []), (h_ 26 25, false, []), (o_ 27 (.nilCheck (.t 26)), false, []), (a_ 28 27 1, false, []), (h_ 29 28, false, []), (m_ 30 0, false, []), (a_ 31 3 0, false, []), (d_ 32 3 31, false, []), (c_ 33 68 [.t 30, .t 32], false, []), (o_ 34 (.load false (some 3) (s_ 4) (.t 3)), false, []), (z_ (.mapUpdate 2 (.t 29) (.t 33) (.t 34)), true, [])]) (.opsD [(m_ 35 0, false, []), (o_ 36 (.nilCheck (.t 35)), false, []), (a_ 37 36 8, false, []), (h_ 38 37, false, []), (o_ 39 (.nilCheck (.t 38)), false, []), (a_ 40 39 2, false, []), (h_ 41 40, false, []), (m_ 42 0, false, []), (a_ 43 3 0, false, []), (d_ 44 3 43, false, []), (c_ 45 68 [.t 42, .t 44], false, []), (z_ (.mapUpdate 2 (.t 41) (.t 45) (.c (.b true))), true, [])])))) (.ops [g_ 46 .add 19 1, m_ 19 46]))))
def f_recheck_checker_records_L0 : C := .loop [0, 17, 18, 19] f_recheck_checker_records_B0
def f_recheck_checker_records_B1 : C := (k_ [e_ 94 .lss 93 92] (.seq (.cond (.t 94) (.skip) (.exit 4)) (.seq (.block 5 [0, 5, 8, 51, 52, 53, 91, 92, 93] (k_ [x_ 95 91 93 6, o_ 96 (.load false none (s_ 6) (.t 95)), o_ 10 (.alloc true [(.s []), (.b false), (.i .i64 0), (.i .i64 0), (.s []), .nil]), z_ (.store (some 10) (s_ 6) (.t 10) (.t 96))] (k_ [m_ 97 8, a_ 98 10 0, d_ 99 10 98, o_ 100 (.lookup 2 (.b false) (.t 97) (.t 99) false), u_ 101 100, c_ 102 65 [.t 101]] (.ops [m_ 103 8, a_ 104 10 0, d_ 105 10 104, z_ (.mapUpdate 2 (.t 103) (.t 105) (.c (.b true)))])))) (.ops [g_ 106 .add 93 1, m_ 93 106]))))
def f_recheck_checker_records_L1 : C := .loop [0, 5, 8, 51, 52, 53, 91, 92, 93] f_recheck_checker_records_B1
def f_recheck_checker_records_B2 : C := (k_ [e_ 111 .lss 110 109] (.seq (.cond (.t 111) (.skip) (.exit 6)) (.seq (.block 7 [0, 5, 51, 52, 53, 108, 109, 110] (k_ [x_ 112 108 110 6, o_ 113 (.load false none (s_ 6) (.t 112)), o_ 12 (.alloc true [(.s []), (.b false), (.i .i64 0), (.i .i64 0), (.s []), .nil]), z_ (.store (some 12) (s_ 6) (.t 12) (.t 113))] (k_ [a_ 114 12 0, d_ 115 12 114, c_ 116 14 [.t 115], c_ 117 65 [.t 116]] (.ops [m_ 118 0, o_ 119 (.fieldAddr (.t 12) 2 (s_ 4)), o_ 120 (.load false (some 12) (s_ 4) (.t 119)), c_ 121 70 [.t 118, .t 120]])))) (.ops [g_ 122 .add 110 1, m_ 110 122]))))
def f_recheck_checker_records_L2 : C := .loop [0, 5, 51, 52, 53, 108, 109, 110] f_recheck_checker_records_B2
def f_recheck_checker_records_R3 : C := .ops [m_ 123 0, m_ 124 0, a_ 125 5 0, d_ 126 5 125, c_ 127 68 [.t 124, .t 126], o_ 128 (.build [(.i .i64 0), (.i .i64 0), (.s []), .nil] [(0, 1, (i_ 8)), (2, 1, (.t 127))]), c_ 129 70 [.t 123, .t 128]]
def f_recheck_checker_records_R4 : C := (.seq (k_ [a_ 107 5 3, d_ 108 5 107, n_ 109 108, o_ 110 (.mov (i_ 0))] (.block 6 [0, 5, 51, 52, 53] (f_recheck_checker_records_L2))) (f_recheck_checker_records_R3))
def f_recheck_checker_records_R5 : C := .ops [g_ 130 .add 53 1, m_ 53 130]
def f_recheck_checker_records_B6 : C := (k_ [e_ 54 .lss 53 52] (.seq (.cond (.t 54) (.skip) (.exit 2)) (.seq (.block 3 [0, 51, 52, 53] (k_ [x_ 55 51 53 4, o_ 56 (.load false none (s_ 4) (.t 55)), o_ 5 (.alloc true [(.s []), (.b false), (.s []), .nil]), z_ (.store (some 5) (s_ 4) (.t 5) (.t 56))] (.seq (.seq (.opsD [(a_ 57 5 2, true, []), (d_ 58 5 57, true, []), (o_ 59 (.bin .eql .num (.t 58) (.c (.s []))), true, []), (m_ 60 59, true, []), (q_ 61 60 false (.mov (.t 0)), false, []), (q_ 62 60 false (.nilCheck (.t 61)), false, []), (q_ 63 60 false (.fieldAddr (.t 62) 8 l_), false, []), (q_ 64 60 false (.load false none l_ (.t 63)), false, []), (q_ 65 60 false (.nilCheck (.t 64)), false, []), (q_ 66 60 false (.fieldAddr (.t 65) 2 l_), false, []), (q_ 67 60 false (.load false none l_ (.t 66)), false, []), (q_ 68 60 false (.fieldAddr (.t 5) 2 l_), false, []), (q_ 69 60 false (.load false (some 5) l_ (.t 68)), false, []), (q_ 70 60 false (.lookup 2 (.b false) (.t 67) (.t 69) false), true, []), (o_ 71 (.pick (.t 60) (.c (.b true)) (.t 70)), true, [])]) (.ops [c_ 72 65 [.t 71]])) (.seq (.opsD [(m_ 74 0, false, []), (a_ 75 5 0, false, []), (d_ 76 5 75, false, []), (c_ 77 68 [.t 74, .t 76], false, []), (m_ 78 0, false, []), (o_ 79 (.nilCheck (.t 78)), false, []), (a_ 80 79 8, false, []), (h_ 81 80, false, []), (o_ 82 (.nilCheck (.t 81)), false, []), (a_ 83 82 1, false, []), (h_ 84 83, false, []), (c_ 85 69 [.t 77, .t 84], true, []), (m_ 73 85, true, []), (r_ 86 73 0, false, []), (r_ 87 73 1, false, []), (m_ 6 86, false, []), (m_ 7 87, true, [])]) (k_ [v_ 88 7, c_ 89 65 [.mv 88]] (k_ [o_ 90 (.mkMap), m_ 8 90] (.seq (k_ [m_ 91 6, n_ 92 91, o_ 93 (.mov (i_ 0))] (.block 4 [0, 5, 51, 52, 53] (f_recheck_checker_records_L1))) (f_recheck_checker_records_R4)))))))) (f_recheck_checker_records_R5))))
def f_recheck_checker_records_L6 : C := .loop [0, 51, 52, 53] f_recheck_checker_records_B6
def f_recheck_checker_records_R7 : C := (k_ [m_ 47 0, o_ 48 (.nilCheck (.t 47)), o_ 49 (.fieldAddr (.t 48) 0 (s_ 8)), a_ 50 49 4, h_ 51 50, n_ 52 51, o_ 53 (.mov (i_ 0))] (.block 2 [] (f_recheck_checker_records_L6)))
def f_recheck_checker_records : Fn := ⟨1, [], false, (.seq (k_ [m_ 13 0, o_ 14 (.nilCheck (.t 13)), o_ 15 (.fieldAddr (.t 14) 0 (s_ 8)), a_ 16 15 4, h_ 17 16, n_ 18 17, o_ 19 (.mov (i_ 0))] (.block 0 [0] (f_recheck_checker_records_L0))) (f_recheck_checker_records_R7)), none, none⟩
def f_recheck_checker_declared_B0 : C := (k_ [e_ 18 .lss 17 16] (.seq (.cond (.t 18) (.skip) (.exit 0)) (.seq (.block 1 [0, 15, 16, 17] (k_ [x_ 19 15 17 10, o_ 20 (.load false none (s_ 10) (.t 19)), o_ 3 (.alloc true [(.s []), (.b false), (.i .i64 0), (.i .i64 0), (.i .i64 0), (.s []), .nil, (.i .i32 0), (.s []), .nil]), z_ (.store (some 3) (s_ 10) (.t 3) (.t 20))] (k_ [m_ 21 0, o_ 22 (.fieldAddr (.t 3) 2 (s_ 8)), o_ 23 (.load false (some 3) (s_ 8) (.t 22)), c_ 24 71 [.t 21, .t 23]] (.ops [o_ 25 (.fieldAddr (.t 3) 2 (s_ 8)), a_ 26 25 0, d_ 27 3 26, g_ 28 .eql 27 0, m_ 29 28, q_ 30 29 true (.fieldAddr (.t 3) 2 (s_ 8)), q_ 31 29 true (.fieldAddr (.t 30) 1 (s_ 4)), q_ 32 29 true (.fieldAddr (.t 31) 0 l_), q_ 33 29 true (.load false (some 3) l_ (.t 32)), q_ 34 29 true (.bin .neq .num (.t 33) (i_ 5)), o_ 35 (.pick (.t 29) (.t 34) (.c (.b false))), c_ 36 72 [.t 35]])))) (.ops [g_ 37 .add 17 1, m_ 17 37]))))
def f_recheck_checker_declared_L0 : C := .loop [0, 15, 16, 17] f_recheck_checker_declared_B0
def f_recheck_checker_declared_B1 : C := (k_ [e_ 45 .lss 44 43] (.seq (.cond (.t 45) (.skip) (.exit 2)) (.seq (.block 3 [0, 42, 43, 44] (k_ [x_ 46 42 44 6, o_ 47 (.load false none (s_ 6) (.t 46)), o_ 5 (.alloc true [(.s []), (.b false), (.i .i64 0), (.i .i64 0), (.s []), .nil]), z_ (.store (some 5) (s_ 6) (.t 5) (.t 47))] (.ops [m_ 48 0, o_ 49 (.fieldAddr (.t 5) 2 (s_ 4)), o_ 50 (.load false (some 5) (s_ 4) (.t 49)), c_ 51 70 [.t 48, .t 50]]))) (.ops [g_ 52 .add 44 1, m_ 44 52]))))
def f_recheck_checker_declared_L1 : C := .loop [0, 42, 43, 44] f_recheck_checker_declared_B1
def f_recheck_checker_declared_B2 : C := (k_ [e_ 60 .lss 59 58] (.seq (.cond (.t 60) (.skip) (.exit 4)) (.seq (.block 5 [0, 6, 57, 58, 59] (k_ [x_ 61 57 59 6, o_ 62 (.load false none (s_ 6) (.t 61)), o_ 8 (.alloc true [(.s []), (.b false), (.i .i64 0), (.i .i64 0), (.s []), .nil]), z_ (.store (some 8) (s_ 6) (.t 8) (.t 62))] (k_ [m_ 63 6, m_ 64 0, o_ 65 (.fieldAddr (.t 8) 2 (s_ 4)), o_ 66 (.load false (some 8) (s_ 4) (.t 65)), c_ 67 70 [.t 64, .t 66], e_ 68 .add 63 67, m_ 6 68] (k_ [m_ 69 6, g_ 70 .leq 69 16384, c_ 71 72 [.t 70]] (.opsD [(m_ 72 0, false, []), (o_ 73 (.nilCheck (.t 72)), false, []), (a_ 74 73 8, false, []), (h_ 75 74, false, []), (o_ 76 (.nilCheck (.t 75)), false, []), (a_ 77 76 3, false, []), (h_ 78 77, false, []), (m_ 79 0, false, []), (a_ 80 8 0, false, []), (d_ 81 8 80, false, []), (c_ 82 68 [.t 79, .t 81], false, []), (o_ 83 (.fieldAddr (.t 8) 2 (s_ 4)), false, []), (o_ 84 (.load false (some 8) (s_ 4) (.t 83)), false, []), (z_ (.mapUpdate 2 (.t 78) (.t 82) (.t 84)), true, [])]))))) (.ops [g_ 85 .add 59 1, m_ 59 85]))))
def f_recheck_checker_declared_L2 : C := .loop [0, 6, 57, 58, 59] f_recheck_checker_declared_B2
def f_recheck_checker_declared_B3 : C := (k_ [e_ 93 .lss 92 91] (.seq (.cond (.t 93) (.skip) (.exit 6)) (.seq (.block 7 [0, 90, 91, 92] (k_ [x_ 94 90 92 10, o_ 95 (.load false none (s_ 10) (.t 94)), o_ 10 (.alloc true [(.s []), (.b false), .nil, (.i .i64 0), (.i .i64 0), (.s []), .nil, .nil, .nil, .nil]), z_ (.store (some 10) (s_ 10) (.t 10) (.t 95))] (.opsD [(m_ 96 0, false, []), (o_ 97 (.nilCheck (.t 96)), false, []), (a_ 98 97 8, false, []), (h_ 99 98, false, []), (o_ 100 (.nilCheck (.t 99)), false, []), (a_ 101 100 4, false, []), (h_ 102 101, false, []), (m_ 103 0, false, []), (a_ 104 10 0, false, []), (d_ 105 10 104, false, []), (c_ 106 68 [.t 103, .t 105], false, []), (o_ 107 (.load false (some 10) (s_ 10) (.t 10)), false, []), (z_ (.mapUpdate 2 (.t 102) (.t 106) (.t 107)), true, [])]))) (.ops [g_ 108 .add 92 1, m_ 92 108]))))
def f_recheck_checker_declared_L3 : C := .loop [0, 90, 91, 92] f_recheck_checker_declared_B3
def f_recheck_checker_declared_R4 : C := (k_ [m_ 86 0, o_ 87 (.nilCheck (.t 86)), o_ 88 (.fieldAddr (.t 87) 0 (s_ 8)), a_ 89 88 6, h_ 90 89, n_ 91 90, o_ 92 (.mov (i_ 0))] (.block 6 [] (f_recheck_checker_declared_L3)))
def f_recheck_checker_declared_R5 : C := (k_ [o_ 6 (.mov (i_ 0))] (.seq (k_ [m_ 53 0, o_ 54 (.nilCheck (.t 53)), o_ 55 (.fieldAddr (.t 54) 0 (s_ 8)), a_ 56 55 5, h_ 57 56, n_ 58 57, o_ 59 (.mov (i_ 0))] (.block 4 [0] (f_recheck_checker_declared_L2))) (f_recheck_checker_declared_R4)))
def f_recheck_checker_declared_R6 : C := (.seq (k_ [m_ 38 0, o_ 39 (.nilCheck (.t 38)), o_ 40 (.fieldAddr (.t 39) 0 (s_ 8)), a_ 41 40 3, h_ 42 41, n_ 43 42, o_ 44 (.mov (i_ 0))] (.block 2 [0] (f_recheck_checker_declared_L1))) (f_recheck_checker_declared_R5))
def f_recheck_checker_declared : Fn := ⟨1, [], false, (.seq (k_ [m_ 11 0, o_ 12 (.nilCheck (.t 11)), o_ 13 (.fieldAddr (.t 12) 0 (s_ 8)), a_ 14 13 2, h_ 15 14, n_ 16 15, o_ 17 (.mov (i_ 0))] (.block 0 [0] (f_recheck_checker_declared_L0))) (f_recheck_checker_declared_R6)), none, none⟩
def f_recheck_checker_body_B0 : C := (k_ [e_ 21 .lss 20 19] (.seq (.cond (.t 21) (.skip) (.exit 2)) (.seq (.block 3 [0, 8, 9, 10, 18, 19, 20] (k_ [x_ 22 18 20 1, h_ 23 22, m_ 7 23] (.ops [m_ 24 0, v_ 25 7, c_ 26 28 [.t 24, .mv 25]]))) (.ops [g_ 27 .add 20 1, m_ 20 27]))))
def f_recheck_checker_body_L0 : C := .loop [0, 8, 9, 10, 18, 19, 20] f_recheck_checker_body_B0
def f_recheck_checker_body_R1 : C := .ops [g_ 28 .add 10 1, m_ 10 28]
def f_recheck_checker_body_B2 : C := (k_ [e_ 11 .lss 10 9] (.seq (.cond (.t 11) (.skip) (.exit 0)) (.seq (.block 1 [0, 8, 9, 10] (k_ [x_ 12 8 10 4, o_ 13 (.load false none (s_ 4) (.t 12)), o_ 5 (.alloc true [(.i .i64 0), .nil, .nil, .nil]), z_ (.store (some 5) (s_ 4) (.t 5) (.t 13))] (k_ [m_ 14 0, o_ 15 (.load false (some 5) (s_ 4) (.t 5)), c_ 16 77 [.t 14, .t 15]] (k_ [a_ 17 5 2, d_ 18 5 17, n_ 19 18, o_ 20 (.mov (i_ 0))] (.block 2 [0, 8, 9, 10] (f_recheck_checker_body_L0)))))) (f_recheck_checker_body_R1))))
def f_recheck_checker_body_L2 : C := .loop [0, 8, 9, 10] f_recheck_checker_body_B2
def f_recheck_checker_body : Fn := ⟨2, [], false, (k_ [m_ 8 1, n_ 9 8, o_ 10 (.mov (i_ 0))] (.block 0 [] (f_recheck_checker_body_L2))), none, none⟩
def qc5 : C := (.block 1 [2, 3, 4] (k_ [m_ 15 4, c_ 16 83 [.t 15], o_ 5 (.alloc true [(.i .i64 0), (.i .i64 0), (.i .i64 0), (.s []), (.i .i32 0)]), z_ (.store (some 5) (s_ 5) (.t 5) (.mv 16))] (k_ [o_ 17 (.load true none l_ (.t 2)), o_ 18 (.load false (some 5) (s_ 5) (.t 5)), o_ 19 (.buildSlice (.agg [(.i .i64 0), (.i .i64 0), (.i .i64 0), (.s []), (.i .i32 0)]) 1 [(0, (.t 18))]), o_ 20 (.bi (.append 5 48) [.mv 17, (.t 19)]), z_ (.store none l_ (.t 2) (.mv 20))] (k_ [a_ 21 5 0, d_ 22 5 21, g_ 23 .eql 22 0] (.cond (.t 23) (k_ [h_ 24 2, z_ (.store none l_ (.t 2) (.t 24)), z_ (.store none l_ (.t 3) (.c .nil))] (.ret)) (.skip))))))
def qc4 : C := .loop [2, 3, 4] qc5
noncomputable def qeS (pg : Pg) (v2 v3 v4 : V) (H : List Obj) (lo : Nat) : Option (Ex × St) := exL pg qc4 ⟨[(2, v2), (3, v3), (4, v4)], H, lo⟩
theorem qgy {pg : Pg} {e : Env} {H : List Obj} {lo : Nat} : exL pg qc4 ⟨e, H, lo⟩ = qeS pg (zz (get 2 e)) (zz (get 3 e)) (zz (get 4 e)) H lo := qf4
theorem qjR {pg : Pg} {v2 v3 v4 : V} {H : List Obj} {lo : Nat} : qeS pg v2 v3 v4 H lo = qcp pg (exL pg qc5 ⟨[(2, zz v2), (3, zz v3), (4, zz v4)], H, lo⟩) qc4 := by
  unfold qeS qc4; rw [jy]; simp only [qo, qp, qE, qH, Nat.reduceEqDiff]
def qg3 : C := (.seq (.skip) (k_ [m_ 12 0, o_ 13 (.build [(.s []), (.i .i64 0)] [(0, 1, (.t 12))]), o_ 14 (.box false (.t 13)), m_ 4 14] (.block 0 [2, 3] (qc4))))
def f_scan_All : Fn := ⟨1, [(.cell 2 l_), (.cell 3 l_)], false, (k_ [o_ 2 (.alloc false [.nil]), o_ 3 (.alloc false [.nil])] (.seq (k_ [m_ 6 0, o_ 7 (.bi .lenS [.t 6]), g_ 8 .gtr 7 20000] (.cond (.t 8) (k_ [o_ 9 (.build [(.i .i64 0), (.i .i64 0)] [(0, 1, (i_ 20000)), (1, 1, (i_ 34))]), o_ 10 (.buildSlice (.agg [(.i .i64 0), (.i .i64 0)]) 1 [(0, (.t 9))]), z_ (.store none l_ (.t 2) (.c .nil)), z_ (.store none l_ (.t 3) (.mv 10))] (.ret)) (.skip))) (.ops [o_ 11 (.mkFn 82 [] [.t 2, (.t 3)])]))), some (11, qg3), none⟩
def qdt : Fn := ⟨1, [.t 2], true, (k_ [o_ 2 (.mov (.c (.b false)))] (k_ [o_ 3 (.call (.f 85) [(.c (.s [73, 78, 84, 69, 71, 69, 82, 32, 67, 72, 65, 82, 32, 66, 79, 79, 76, 69, 65, 78, 32, 83, 69, 84, 32, 65, 66, 83, 32, 79, 68, 68, 32, 76, 83, 76, 32, 65, 83, 82, 32, 82, 79, 82, 32, 79, 82, 68, 32, 67, 72, 82, 32, 76, 69, 78, 32, 73, 78, 67, 32, 68, 69, 67, 32, 73, 78, 67, 76, 32, 69, 88, 67, 76, 32, 78, 69, 87, 32, 65, 83, 83, 69, 82, 84]))]), v_ 4 0, c_ 5 84 [.t 3, .mv 4], v_ 2 5] (.ret))), none, none⟩
def y3 : C := (.seq (k_ [m_ 6 4, m_ 7 3, n_ 8 7, e_ 9 .lss 6 8] (.cond (.t 9) (.skip) (.exit 0))) (.seq (.block 1 [0, 3, 4] (k_ [m_ 12 3, m_ 13 4, x_ 14 12 13 1, h_ 15 14, m_ 16 0, e_ 17 .eql 15 16] (.cond (.t 17) (k_ [o_ 2 (.mov (.c (.b true)))] (.ret)) (.skip)))) (.ops [m_ 10 4, g_ 11 .add 10 1, m_ 4 11])))
def y5 : C := .loop [0, 3, 4] y3
noncomputable def qbf (pg : Pg) (v0 v3 v4 : V) (H : List Obj) (lo : Nat) : Option (Ex × St) := exL pg y5 ⟨[(0, v0), (3, v3), (4, v4)], H, lo⟩
theorem qdb {pg : Pg} {e : Env} {H : List Obj} {lo : Nat} : exL pg y5 ⟨e, H, lo⟩ = qbf pg (zz (get 0 e)) (zz (get 3 e)) (zz (get 4 e)) H lo := qf4
theorem qdi {pg : Pg} {v0 v3 v4 : V} {H : List Obj} {lo : Nat} : qbf pg v0 v3 v4 H lo = qcp pg (exL pg y3 ⟨[(0, zz v0), (3, zz v3), (4, zz v4)], H, lo⟩) y5 := by
  unfold qbf y5; rw [jy]; simp only [qo, qp, qE, qH, Nat.reduceEqDiff]
def qbe : C := (k_ [o_ 2 (.mov (.c (.b false)))] (.ret))
def qcf : Fn := ⟨1, [.t 2], true, (k_ [o_ 2 (.mov (.c (.b false)))] (k_ [c_ 5 86 [], v_ 3 5] (.seq (k_ [o_ 4 (.mov (i_ 0))] (.block 0 [] (y5))) (qbe)))), none, none⟩
def qbC : Fn := ⟨1, [.t 2], true, (k_ [o_ 2 (.mov (.c (.b false)))] (.seq (k_ [m_ 3 0] (.block 0 [] (.seq (k_ [o_ 5 (.bin .eql .num (.t 3) (.c (.s [73, 78, 84, 69, 71, 69, 82]))), m_ 4 5] (.cond (.t 4) (.skip) (k_ [o_ 6 (.bin .eql .num (.t 3) (.c (.s [67, 72, 65, 82]))), m_ 4 6] (.cond (.t 4) (.skip) (k_ [o_ 7 (.bin .eql .num (.t 3) (.c (.s [66, 79, 79, 76, 69, 65, 78]))), m_ 4 7] (.cond (.t 4) (.skip) (k_ [o_ 8 (.bin .eql .num (.t 3) (.c (.s [83, 69, 84]))), m_ 4 8] (.cond (.t 4) (.skip) (k_ [o_ 9 (.bin .eql .num (.t 3) (.c (.s [65, 66, 83]))), m_ 4 9] (.cond (.t 4) (.skip) (k_ [o_ 10 (.bin .eql .num (.t 3) (.c (.s [79, 68, 68]))), m_ 4 10] (.cond (.t 4) (.skip) (k_ [o_ 11 (.bin .eql .num (.t 3) (.c (.s [76, 83, 76]))), m_ 4 11] (.cond (.t 4) (.skip) (k_ [o_ 12 (.bin .eql .num (.t 3) (.c (.s [65, 83, 82]))), m_ 4 12] (.cond (.t 4) (.skip) (k_ [o_ 13 (.bin .eql .num (.t 3) (.c (.s [82, 79, 82]))), m_ 4 13] (.cond (.t 4) (.skip) (k_ [o_ 14 (.bin .eql .num (.t 3) (.c (.s [79, 82, 68]))), m_ 4 14] (.cond (.t 4) (.skip) (k_ [o_ 15 (.bin .eql .num (.t 3) (.c (.s [67, 72, 82]))), m_ 4 15] (.cond (.t 4) (.skip) (k_ [o_ 16 (.bin .eql .num (.t 3) (.c (.s [76, 69, 78]))), m_ 4 16] (.cond (.t 4) (.skip) (k_ [o_ 17 (.bin .eql .num (.t 3) (.c (.s [73, 78, 67]))), m_ 4 17] (.cond (.t 4) (.skip) (k_ [o_ 18 (.bin .eql .num (.t 3) (.c (.s [68, 69, 67]))), m_ 4 18] (.cond (.t 4) (.skip) (k_ [o_ 19 (.bin .eql .num (.t 3) (.c (.s [73, 78, 67, 76]))), m_ 4 19] (.cond (.t 4) (.skip) (k_ [o_ 20 (.bin .eql .num (.t 3) (.c (.s [69, 88, 67, 76]))), m_ 4 20] (.cond (.t 4) (.skip) (k_ [o_ 21 (.bin .eql .num (.t 3) (.c (.s [78, 69, 87]))), m_ 4 21] (.cond (.t 4) (.skip) (.ops [o_ 22 (.bin .eql .num (.t 3) (.c (.s [65, 83, 83, 69, 82, 84]))), m_ 4 22]))))))))))))))))))))))))))))))))))) (.cond (.t 4) (k_ [o_ 2 (.mov (.c (.b true)))] (.ret)) (.skip))))) (k_ [o_ 2 (.mov (.c (.b false)))] (.ret)))), none, none⟩
def qbN : C := (.seq (k_ [m_ 63 3, a_ 64 1 1, d_ 65 1 64, n_ 66 65, e_ 67 .lss 63 66] (.cond (.t 67) (.skip) (.exit 0))) (.seq (.block 1 [1, 3] (k_ [a_ 70 1 1, d_ 71 1 70, m_ 72 3, x_ 73 71 72 1, h_ 74 73, o_ 75 (.bi .lenS [.t 74]), g_ 76 .gtr 75 65] (.cond (.t 76) (k_ [o_ 2 (.mov (.c (.b false)))] (.ret)) (.skip)))) (.ops [m_ 68 3, g_ 69 .add 68 1, m_ 3 69])))
def qbQ : C := .loop [1, 3] qbN
def qb0 : C := (.seq (k_ [m_ 77 4, a_ 78 1 2, d_ 79 1 78, n_ 80 79, e_ 81 .lss 77 80] (.cond (.t 81) (.skip) (.exit 2))) (.seq (.block 3 [1, 4] (k_ [a_ 84 1 2, d_ 85 1 84, m_ 86 4, x_ 87 85 86 10, a_ 88 87 0, h_ 89 88, o_ 90 (.bi .lenS [.t 89]), g_ 91 .gtr 90 65, m_ 92 91, q_ 93 92 false (.fieldAddr (.t 1) 2 l_), q_ 94 92 false (.load false (some 1) l_ (.t 93)), q_ 95 92 false (.mov (.t 4)), q_ 96 92 false (.indexAddr (.t 94) (.t 95) 10 none), q_ 97 92 false (.fieldAddr (.t 96) 2 (s_ 8)), q_ 98 92 false (.load false none (s_ 8) (.t 97)), q_ 99 92 false (.buildSlice (.agg [(.i .i64 0), (.i .i64 0), (.i .i64 0), (.s []), .nil, (.i .i32 0), (.s []), .nil]) 1 [(0, (.t 98))]), q_ 100 92 false (.call (.f 91) [.t 99]), q_ 101 92 false (.un .not (.t 100)), o_ 102 (.pick (.t 92) (.c (.b true)) (.t 101))] (.cond (.t 102) (k_ [o_ 2 (.mov (.c (.b false)))] (.ret)) (.skip)))) (.ops [m_ 82 4, g_ 83 .add 82 1, m_ 4 83])))
def qbP : C := .loop [1, 4] qb0
def qbR : C := (.seq (k_ [m_ 103 5, a_ 104 1 4, d_ 105 1 104, n_ 106 105, e_ 107 .lss 103 106] (.cond (.t 107) (.skip) (.exit 4))) (.seq (.block 5 [1, 5] (k_ [a_ 110 1 4, d_ 111 1 110, m_ 112 5, x_ 113 111 112 4, a_ 114 113 0, h_ 115 114, o_ 116 (.bi .lenS [.t 115]), g_ 117 .gtr 116 65, m_ 118 117, q_ 119 118 false (.fieldAddr (.t 1) 4 l_), q_ 120 118 false (.load false (some 1) l_ (.t 119)), q_ 121 118 false (.mov (.t 5)), q_ 122 118 false (.indexAddr (.t 120) (.t 121) 4 none), q_ 123 118 false (.fieldAddr (.t 122) 2 l_), q_ 124 118 false (.load false none l_ (.t 123)), q_ 125 118 false (.bi .lenS [.t 124]), q_ 126 118 false (.bin .gtr .num (.t 125) (i_ 65)), o_ 127 (.pick (.t 118) (.c (.b true)) (.t 126)), m_ 128 127, q_ 129 128 false (.fieldAddr (.t 1) 4 l_), q_ 130 128 false (.load false (some 1) l_ (.t 129)), q_ 131 128 false (.mov (.t 5)), q_ 132 128 false (.indexAddr (.t 130) (.t 131) 4 none), q_ 133 128 false (.fieldAddr (.t 132) 3 l_), q_ 134 128 false (.load false none l_ (.t 133)), q_ 135 128 false (.call (.f 88) [.t 134]), q_ 136 128 false (.un .not (.t 135)), o_ 137 (.pick (.t 128) (.c (.b true)) (.t 136))] (.cond (.t 137) (k_ [o_ 2 (.mov (.c (.b false)))] (.ret)) (.skip)))) (.ops [m_ 108 5, g_ 109 .add 108 1, m_ 5 109])))
def qbJ : C := .loop [1, 5] qbR
def qbU : C := (.seq (k_ [m_ 138 6, a_ 139 1 6, d_ 140 1 139, n_ 141 140, e_ 142 .lss 138 141] (.cond (.t 142) (.skip) (.exit 6))) (.seq (.block 7 [1, 6] (k_ [a_ 145 1 6, d_ 146 1 145, m_ 147 6, x_ 148 146 147 10, o_ 149 (.load false none (s_ 10) (.t 148)), c_ 150 92 [.t 149], u_ 151 150] (.cond (.t 151) (k_ [o_ 2 (.mov (.c (.b false)))] (.ret)) (.skip)))) (.ops [m_ 143 6, g_ 144 .add 143 1, m_ 6 144])))
def qbM : C := .loop [1, 6] qbU
def qbX : C := (k_ [o_ 2 (.mov (.c (.b true)))] (.ret))
def qbW : C := (.seq (k_ [o_ 6 (.mov (i_ 0))] (.block 6 [] (qbM))) (qbX))
def qbY : C := (.seq (k_ [o_ 5 (.mov (i_ 0))] (.block 4 [1] (qbJ))) (qbW))
def qbL : C := (.seq (k_ [o_ 4 (.mov (i_ 0))] (.block 2 [1] (qbP))) (qbY))
def y1 : Fn := ⟨1, [.t 2], true, (k_ [o_ 1 (.box true (.t 0)), o_ 2 (.mov (.c (.b false)))] (.seq (k_ [a_ 7 1 0, d_ 8 1 7, o_ 9 (.bi .lenS [.t 8]), g_ 10 .gtr 9 65, m_ 11 10, q_ 12 11 false (.fieldAddr (.t 1) 1 l_), q_ 13 11 false (.load false (some 1) l_ (.t 12)), q_ 14 11 false (.bi .lenL [.t 13]), q_ 15 11 false (.call (.f 87) [.t 14]), q_ 16 11 false (.un .not (.t 15)), o_ 17 (.pick (.t 11) (.c (.b true)) (.t 16)), m_ 18 17, q_ 19 18 false (.fieldAddr (.t 1) 2 l_), q_ 20 18 false (.load false (some 1) l_ (.t 19)), q_ 21 18 false (.bi .lenL [.t 20]), q_ 22 18 false (.call (.f 87) [.t 21]), q_ 23 18 false (.un .not (.t 22)), o_ 24 (.pick (.t 18) (.c (.b true)) (.t 23)), m_ 25 24, q_ 26 25 false (.fieldAddr (.t 1) 3 l_), q_ 27 25 false (.load false (some 1) l_ (.t 26)), q_ 28 25 false (.call (.f 88) [.t 27]), q_ 29 25 false (.un .not (.t 28)), o_ 30 (.pick (.t 25) (.c (.b true)) (.t 29)), m_ 31 30, q_ 32 31 false (.fieldAddr (.t 1) 4 l_), q_ 33 31 false (.load false (some 1) l_ (.t 32)), q_ 34 31 false (.bi .lenL [.t 33]), q_ 35 31 false (.call (.f 87) [.t 34]), q_ 36 31 false (.un .not (.t 35)), o_ 37 (.pick (.t 31) (.c (.b true)) (.t 36)), m_ 38 37, q_ 39 38 false (.fieldAddr (.t 1) 5 l_), q_ 40 38 false (.load false (some 1) l_ (.t 39)), q_ 41 38 false (.call (.f 88) [.t 40]), q_ 42 38 false (.un .not (.t 41)), o_ 43 (.pick (.t 38) (.c (.b true)) (.t 42)), m_ 44 43, q_ 45 44 false (.fieldAddr (.t 1) 6 l_), q_ 46 44 false (.load false (some 1) l_ (.t 45)), q_ 47 44 false (.bi .lenL [.t 46]), q_ 48 44 false (.call (.f 87) [.t 47]), q_ 49 44 false (.un .not (.t 48)), o_ 50 (.pick (.t 44) (.c (.b true)) (.t 49)), m_ 51 50, q_ 52 51 false (.fieldAddr (.t 1) 7 l_), q_ 53 51 false (.load false (some 1) l_ (.t 52)), q_ 54 51 false (.call (.f 89) [.t 53]), q_ 55 51 false (.bin .gtr .num (.t 54) (i_ 64)), o_ 56 (.pick (.t 51) (.c (.b true)) (.t 55)), m_ 57 56, q_ 58 57 false (.fieldAddr (.t 1) 7 l_), q_ 59 57 false (.load false (some 1) l_ (.t 58)), q_ 60 57 false (.call (.f 90) [.t 59]), q_ 61 57 false (.un .not (.t 60)), o_ 62 (.pick (.t 57) (.c (.b true)) (.t 61))] (.cond (.t 62) (k_ [o_ 2 (.mov (.c (.b false)))] (.ret)) (.skip))) (.seq (k_ [o_ 3 (.mov (i_ 0))] (.block 0 [1] (qbQ))) (qbL)))), none, none⟩
def f_waferref17_Others_B0 : C := (.seq (k_ [m_ 7 6, m_ 8 1, n_ 9 8, e_ 10 .lss 7 9] (.cond (.t 10) (.skip) (.exit 0))) (.seq (.block 1 [0, 1, 5, 6] (k_ [m_ 13 1, m_ 14 6, x_ 15 13 14 8, a_ 16 15 0, h_ 17 16, m_ 18 0, e_ 19 .neq 17 18] (.cond (.t 19) (.ops [v_ 20 5, m_ 21 1, m_ 22 6, x_ 23 21 22 8, o_ 24 (.load false none (s_ 8) (.t 23)), o_ 25 (.buildSlice (.agg [(.s []), .nil, .nil, .nil, .nil, .nil, .nil, .nil]) 1 [(0, (.t 24))]), o_ 26 (.bi (.append 8 184) [.mv 20, (.t 25)]), v_ 5 26]) (.skip)))) (.ops [m_ 11 6, g_ 12 .add 11 1, m_ 6 12])))
def f_waferref17_Others_L0 : C := .loop [0, 1, 5, 6] f_waferref17_Others_B0
def f_waferref17_Others_R1 : C := (k_ [m_ 27 5, m_ 4 27] (.ret))
def f_waferref17_Others : Fn := ⟨2, [.t 4], true, (k_ [o_ 4 (.mov (.c .nil))] (k_ [o_ 5 (.mov (.c .nil))] (.seq (k_ [o_ 6 (.mov (i_ 0))] (.block 0 [5] (f_waferref17_Others_L0))) (f_waferref17_Others_R1)))), none, none⟩
def f_waferref11_Recs_B0 : C := (.seq (k_ [m_ 31 6, m_ 32 0, m_ 33 5, x_ 34 32 33 8, a_ 35 34 4, h_ 36 35, n_ 37 36, e_ 38 .lss 31 37] (.cond (.t 38) (.skip) (.exit 2))) (.seq (.block 3 [0, 3, 4, 5, 6] (.seq (.opsD [(m_ 41 0, false, []), (m_ 42 5, false, []), (x_ 43 41 42 8, false, []), (a_ 44 43 0, false, []), (h_ 45 44, false, []), (o_ 46 (.bin .add .num (.t 45) (.c (.s [46]))), false, []), (m_ 47 0, false, []), (m_ 48 5, false, []), (x_ 49 47 48 8, false, []), (a_ 50 49 4, false, []), (h_ 51 50, false, []), (m_ 52 6, false, []), (x_ 53 51 52 4, false, []), (a_ 54 53 0, false, []), (h_ 55 54, false, []), (e_ 56 .add 46 55, true, []), (m_ 7 56, true, [])]) (k_ [m_ 58 3, m_ 59 7, o_ 60 (.lookup 2 (.agg [(.s []), (.b false), (.s []), .nil]) (.t 58) (.t 59) true), m_ 57 60, r_ 61 57 0, r_ 62 57 1, o_ 8 (.alloc true [(.s []), (.b false), (.s []), .nil]), z_ (.store (some 8) (s_ 4) (.t 8) (.t 61)), m_ 9 62] (k_ [m_ 63 9, u_ 64 63] (.cond (.t 64) (.ops [m_ 65 3, m_ 66 7, m_ 67 0, m_ 68 5, x_ 69 67 68 8, a_ 70 69 4, h_ 71 70, m_ 72 6, x_ 73 71 72 4, o_ 74 (.load false none (s_ 4) (.t 73)), z_ (.mapUpdate 2 (.t 65) (.t 66) (.t 74))]) (.skip)))))) (.ops [m_ 39 6, g_ 40 .add 39 1, m_ 6 40])))
def f_waferref11_Recs_L0 : C := .loop [0, 3, 4, 5, 6] f_waferref11_Recs_B0
def f_waferref11_Recs_R1 : C := .ops [m_ 16 5, g_ 17 .add 16 1, m_ 5 17]
def f_waferref11_Recs_B2 : C := (.seq (k_ [m_ 12 5, m_ 13 0, n_ 14 13, e_ 15 .lss 12 14] (.cond (.t 15) (.skip) (.exit 0))) (.seq (.block 1 [0, 3, 4, 5] (.seq (k_ [m_ 18 4, m_ 19 0, m_ 20 5, x_ 21 19 20 8, a_ 22 21 0, h_ 23 22, o_ 24 (.lookup 2 (.b false) (.t 18) (.t 23) false)] (.cond (.t 24) (.exit 1) (.skip))) (k_ [m_ 25 4, m_ 26 0, m_ 27 5, x_ 28 26 27 8, a_ 29 28 0, h_ 30 29, z_ (.mapUpdate 2 (.t 25) (.t 30) (.c (.b true)))] (k_ [o_ 6 (.mov (i_ 0))] (.block 2 [0, 3, 4, 5] (f_waferref11_Recs_L0)))))) (f_waferref11_Recs_R1)))
def f_waferref11_Recs_L2 : C := .loop [0, 3, 4, 5] f_waferref11_Recs_B2
def f_waferref11_Recs_R3 : C := (k_ [m_ 75 3, m_ 2 75] (.ret))
def f_waferref11_Recs : Fn := ⟨1, [.t 2], true, (k_ [o_ 2 (.mov (.c .nm))] (k_ [o_ 10 (.mkMap), m_ 3 10] (k_ [o_ 11 (.mkMap), m_ 4 11] (.seq (k_ [o_ 5 (.mov (i_ 0))] (.block 0 [3] (f_waferref11_Recs_L2))) (f_waferref11_Recs_R3))))), none, none⟩
def f_waferref17_ctx_names_B0 : C := (.seq (k_ [m_ 38 4, a_ 39 3 1, d_ 40 3 39, n_ 41 40, e_ 42 .lss 38 41] (.cond (.t 42) (.skip) (.exit 0))) (.seq (.block 1 [0, 3, 4] (k_ [a_ 45 3 1, d_ 46 3 45, m_ 47 4, x_ 48 46 47 1, h_ 49 48, m_ 5 49] (k_ [m_ 51 0, o_ 52 (.nilCheck (.t 51)), a_ 53 52 8, h_ 54 53, m_ 55 5, c_ 56 96 [.t 54, .t 55], m_ 50 56, r_ 57 50 0, r_ 58 50 1, o_ 6 (.alloc true [(.s []), .nil, .nil, .nil, .nil, .nil, .nil, .nil]), z_ (.store (some 6) (s_ 8) (.t 6) (.t 57)), m_ 7 58] (k_ [m_ 59 7, u_ 60 59, m_ 61 60, q_ 62 61 true (.mov (.t 5)), q_ 63 61 true (.bin .neq .num (.t 62) (.c (.s [73, 110]))), o_ 64 (.pick (.t 61) (.t 63) (.c (.b false))), m_ 65 64, q_ 66 65 true (.mov (.t 5)), q_ 67 65 true (.bin .neq .num (.t 66) (.c (.s [79, 117, 116]))), o_ 68 (.pick (.t 65) (.t 67) (.c (.b false)))] (.cond (.t 68) (k_ [o_ 2 (.mov (.c (.b false)))] (.ret)) (.skip)))))) (.ops [m_ 43 4, g_ 44 .add 43 1, m_ 4 44])))
def f_waferref17_ctx_names_L0 : C := .loop [0, 3, 4] f_waferref17_ctx_names_B0
def f_waferref17_ctx_names_R1 : C := (k_ [o_ 2 (.mov (.c (.b true)))] (.ret))
def f_waferref17_ctx_names : Fn := ⟨1, [.t 2], true, (k_ [o_ 2 (.mov (.c (.b false)))] (k_ [m_ 8 0, o_ 9 (.nilCheck (.t 8)), o_ 10 (.fieldAddr (.t 9) 0 (s_ 8)), o_ 11 (.load false none (s_ 8) (.t 10)), o_ 3 (.alloc true [(.s []), .nil, .nil, .nil, .nil, .nil, .nil, .nil]), z_ (.store (some 3) (s_ 8) (.t 3) (.t 11))] (.seq (k_ [a_ 12 3 0, d_ 13 3 12, c_ 14 15 [.t 13], u_ 15 14, m_ 16 15, q_ 17 16 false (.fieldAddr (.t 3) 0 l_), q_ 18 16 false (.load false (some 3) l_ (.t 17)), q_ 19 16 false (.bin .eql .num (.t 18) (.c (.s [73, 110]))), o_ 20 (.pick (.t 16) (.c (.b true)) (.t 19)), m_ 21 20, q_ 22 21 false (.fieldAddr (.t 3) 0 l_), q_ 23 21 false (.load false (some 3) l_ (.t 22)), q_ 24 21 false (.bin .eql .num (.t 23) (.c (.s [79, 117, 116]))), o_ 25 (.pick (.t 21) (.c (.b true)) (.t 24)), m_ 26 25, q_ 27 26 false (.load false (some 3) (s_ 8) (.t 3)), q_ 28 26 false (.call (.f 94) [.t 27]), q_ 29 26 false (.call (.f 93) [.t 28]), q_ 30 26 false (.un .not (.t 29)), o_ 31 (.pick (.t 26) (.c (.b true)) (.t 30)), m_ 32 31, q_ 33 32 false (.load false (some 3) (s_ 8) (.t 3)), q_ 34 32 false (.fieldAddr (.t 3) 0 l_), q_ 35 32 false (.load false (some 3) l_ (.t 34)), q_ 36 32 false (.call (.f 95) [.t 33, (.t 35)]), o_ 37 (.pick (.t 32) (.c (.b true)) (.t 36))] (.cond (.t 37) (k_ [o_ 2 (.mov (.c (.b false)))] (.ret)) (.skip))) (.seq (k_ [o_ 4 (.mov (i_ 0))] (.block 0 [] (f_waferref17_ctx_names_L0))) (f_waferref17_ctx_names_R1))))), none, none⟩
def f_waferref17_ctx_types_B0 : C := (.seq (k_ [m_ 29 4, a_ 30 3 2, d_ 31 3 30, n_ 32 31, e_ 33 .lss 29 32] (.cond (.t 33) (.skip) (.exit 0))) (.seq (.block 1 [0, 3, 4] (k_ [a_ 36 3 2, d_ 37 3 36, m_ 38 4, x_ 39 37 38 10, o_ 40 (.fieldAddr (.t 39) 2 (s_ 8)), o_ 41 (.load false none (s_ 8) (.t 40)), o_ 5 (.alloc true [(.i .i64 0), (.i .i64 0), (.i .i64 0), (.s []), .nil, (.i .i32 0), (.s []), .nil]), z_ (.store (some 5) (s_ 8) (.t 5) (.t 41))] (k_ [o_ 42 (.load false (some 5) (s_ 8) (.t 5)), c_ 43 97 [.t 42], u_ 44 43, m_ 45 44, q_ 46 45 false (.fieldAddr (.t 5) 1 (s_ 4)), q_ 47 45 false (.load false (some 5) (s_ 4) (.t 46)), q_ 48 45 false (.call (.f 98) [.t 47, (i_ 5)]), o_ 49 (.pick (.t 45) (.c (.b true)) (.t 48))] (.cond (.t 49) (k_ [o_ 2 (.mov (.c (.b false)))] (.ret)) (.skip))))) (.ops [m_ 34 4, g_ 35 .add 34 1, m_ 4 35])))
def f_waferref17_ctx_types_L0 : C := .loop [0, 3, 4] f_waferref17_ctx_types_B0
def f_waferref17_ctx_types_B1 : C := (.seq (k_ [m_ 91 12, m_ 92 9, n_ 93 92, e_ 94 .lss 91 93] (.cond (.t 94) (.skip) (.exit 4))) (.seq (.block 5 [0, 3, 6, 7, 8, 9, 11, 12] (.ops [v_ 97 11, m_ 98 9, m_ 99 12, x_ 100 98 99 6, a_ 101 100 0, h_ 102 101, o_ 103 (.buildSlice (.s []) 1 [(0, (.t 102))]), o_ 104 (.bi (.append 1 16) [.mv 97, (.t 103)]), v_ 11 104])) (.ops [m_ 95 12, g_ 96 .add 95 1, m_ 12 96])))
def f_waferref17_ctx_types_L1 : C := .loop [0, 3, 6, 7, 8, 9, 11, 12] f_waferref17_ctx_types_B1
def f_waferref17_ctx_types_B2 : C := (.seq (k_ [m_ 122 15, a_ 123 7 3, d_ 124 7 123, n_ 125 124, e_ 126 .lss 122 125] (.cond (.t 126) (.skip) (.exit 6))) (.seq (.block 7 [0, 3, 6, 7, 15] (k_ [m_ 130 0, a_ 131 7 3, d_ 132 7 131, m_ 133 15, x_ 134 132 133 6, o_ 135 (.fieldAddr (.t 134) 2 (s_ 4)), o_ 136 (.load false none (s_ 4) (.t 135)), c_ 137 103 [.t 130, .t 136], m_ 129 137, r_ 138 129 0, r_ 139 129 1, m_ 16 138, m_ 17 139] (k_ [m_ 140 17, u_ 141 140] (.cond (.t 141) (k_ [o_ 2 (.mov (.c (.b false)))] (.ret)) (.skip))))) (.ops [m_ 127 15, g_ 128 .add 127 1, m_ 15 128])))
def f_waferref17_ctx_types_L2 : C := .loop [0, 3, 6, 7, 15] f_waferref17_ctx_types_B2
def f_waferref17_ctx_types_R3 : C := (.seq (.seq (.opsD [(v_ 106 8, false, []), (c_ 107 102 [.mv 106], false, []), (m_ 108 0, false, []), (o_ 109 (.nilCheck (.t 108)), false, []), (a_ 110 109 9, false, []), (h_ 111 110, false, []), (c_ 112 101 [.t 107, .t 111], true, []), (m_ 105 112, true, []), (r_ 113 105 0, false, []), (r_ 114 105 1, false, []), (m_ 13 113, false, []), (m_ 14 114, true, [])]) (k_ [m_ 115 14, u_ 116 115, m_ 117 116, q_ 118 117 false (.mov (.t 11)), q_ 119 117 false (.call (.f 93) [.t 118]), q_ 120 117 false (.un .not (.t 119)), o_ 121 (.pick (.t 117) (.c (.b true)) (.t 120))] (.cond (.t 121) (k_ [o_ 2 (.mov (.c (.b false)))] (.ret)) (.skip)))) (k_ [o_ 15 (.mov (i_ 0))] (.block 6 [0, 3, 6] (f_waferref17_ctx_types_L2))))
def f_waferref17_ctx_types_R4 : C := .ops [m_ 55 6, g_ 56 .add 55 1, m_ 6 56]
def f_waferref17_ctx_types_B5 : C := (.seq (k_ [m_ 50 6, a_ 51 3 4, d_ 52 3 51, n_ 53 52, e_ 54 .lss 50 53] (.cond (.t 54) (.skip) (.exit 2))) (.seq (.block 3 [0, 3, 6] (k_ [a_ 57 3 4, d_ 58 3 57, m_ 59 6, x_ 60 58 59 4, o_ 61 (.load false none (s_ 4) (.t 60)), o_ 7 (.alloc true [(.s []), (.b false), (.s []), .nil]), z_ (.store (some 7) (s_ 4) (.t 7) (.t 61))] (k_ [a_ 62 3 0, d_ 63 3 62, o_ 64 (.bin .add .num (.t 63) (.c (.s [46]))), a_ 65 7 0, d_ 66 7 65, e_ 67 .add 64 66, m_ 8 67] (k_ [m_ 69 8, m_ 70 0, o_ 71 (.nilCheck (.t 70)), a_ 72 71 9, h_ 73 72, c_ 74 99 [.t 69, .t 73], m_ 68 74, r_ 75 68 0, r_ 76 68 1, m_ 9 75, m_ 10 76] (.seq (k_ [m_ 77 10, u_ 78 77, m_ 79 78, q_ 80 79 false (.fieldAddr (.t 7) 2 l_), q_ 81 79 false (.load false (some 7) l_ (.t 80)), q_ 82 79 false (.bin .neq .num (.t 81) (.c (.s []))), q_ 83 79 false (.mov (.t 82)), q_ 84 83 true (.mov (.t 0)), q_ 85 83 true (.fieldAddr (.t 7) 2 l_), q_ 86 83 true (.load false (some 7) l_ (.t 85)), q_ 87 83 true (.call (.f 100) [.t 84, (.t 86)]), q_ 88 83 true (.un .not (.t 87)), q_ 89 79 false (.pick (.t 83) (.t 88) (.c (.b false))), o_ 90 (.pick (.t 79) (.c (.b true)) (.t 89))] (.cond (.t 90) (k_ [o_ 2 (.mov (.c (.b false)))] (.ret)) (.skip))) (k_ [o_ 11 (.mov (.c .nil))] (.seq (k_ [o_ 12 (.mov (i_ 0))] (.block 4 [0, 3, 6, 7, 8, 11] (f_waferref17_ctx_types_L1))) (f_waferref17_ctx_types_R3)))))))) (f_waferref17_ctx_types_R4)))
def f_waferref17_ctx_types_L5 : C := .loop [0, 3, 6] f_waferref17_ctx_types_B5
def f_waferref17_ctx_types_B6 : C := (.seq (k_ [m_ 142 18, a_ 143 3 3, d_ 144 3 143, n_ 145 144, e_ 146 .lss 142 145] (.cond (.t 146) (.skip) (.exit 8))) (.seq (.block 9 [0, 3, 18] (k_ [m_ 150 0, a_ 151 3 3, d_ 152 3 151, m_ 153 18, x_ 154 152 153 6, o_ 155 (.fieldAddr (.t 154) 2 (s_ 4)), o_ 156 (.load false none (s_ 4) (.t 155)), c_ 157 103 [.t 150, .t 156], m_ 149 157, r_ 158 149 0, r_ 159 149 1, m_ 19 158, m_ 20 159] (k_ [m_ 160 20, u_ 161 160] (.cond (.t 161) (k_ [o_ 2 (.mov (.c (.b false)))] (.ret)) (.skip))))) (.ops [m_ 147 18, g_ 148 .add 147 1, m_ 18 148])))
def f_waferref17_ctx_types_L6 : C := .loop [0, 3, 18] f_waferref17_ctx_types_B6
def f_waferref17_ctx_types_B7 : C := (.seq (k_ [m_ 162 22, a_ 163 3 5, d_ 164 3 163, n_ 165 164, e_ 166 .lss 162 165] (.cond (.t 166) (.skip) (.exit 10))) (.seq (.block 11 [0, 3, 21, 22] (k_ [m_ 170 0, a_ 171 3 5, d_ 172 3 171, m_ 173 22, x_ 174 172 173 6, o_ 175 (.fieldAddr (.t 174) 2 (s_ 4)), o_ 176 (.load false none (s_ 4) (.t 175)), c_ 177 103 [.t 170, .t 176], m_ 169 177, r_ 178 169 0, r_ 179 169 1, m_ 23 178, m_ 24 179] (k_ [m_ 180 21, m_ 181 23, e_ 182 .add 180 181, m_ 21 182] (k_ [m_ 183 24, u_ 184 183, m_ 185 184, q_ 186 185 false (.mov (.t 21)), q_ 187 185 false (.bin .gtr .num (.t 186) (i_ 16384)), o_ 188 (.pick (.t 185) (.c (.b true)) (.t 187))] (.cond (.t 188) (k_ [o_ 2 (.mov (.c (.b false)))] (.ret)) (.skip)))))) (.ops [m_ 167 22, g_ 168 .add 167 1, m_ 22 168])))
def f_waferref17_ctx_types_L7 : C := .loop [0, 3, 21, 22] f_waferref17_ctx_types_B7
def f_waferref17_ctx_types_R8 : C := (k_ [o_ 2 (.mov (.c (.b true)))] (.ret))
def f_waferref17_ctx_types_R9 : C := (k_ [o_ 21 (.mov (i_ 0))] (.seq (k_ [o_ 22 (.mov (i_ 0))] (.block 10 [] (f_waferref17_ctx_types_L7))) (f_waferref17_ctx_types_R8)))
def f_waferref17_ctx_types_R10 : C := (.seq (k_ [o_ 18 (.mov (i_ 0))] (.block 8 [0, 3] (f_waferref17_ctx_types_L6))) (f_waferref17_ctx_types_R9))
def f_waferref17_ctx_types_R11 : C := (.seq (k_ [o_ 6 (.mov (i_ 0))] (.block 2 [0, 3] (f_waferref17_ctx_types_L5))) (f_waferref17_ctx_types_R10))
def f_waferref17_ctx_types : Fn := ⟨1, [.t 2], true, (k_ [o_ 2 (.mov (.c (.b false)))] (k_ [m_ 25 0, o_ 26 (.nilCheck (.t 25)), o_ 27 (.fieldAddr (.t 26) 0 (s_ 8)), o_ 28 (.load false none (s_ 8) (.t 27)), o_ 3 (.alloc true [(.s []), .nil, .nil, .nil, .nil, .nil, .nil, .nil]), z_ (.store (some 3) (s_ 8) (.t 3) (.t 28))] (.seq (k_ [o_ 4 (.mov (i_ 0))] (.block 0 [0, 3] (f_waferref17_ctx_types_L0))) (f_waferref17_ctx_types_R11)))), none, none⟩
def f_waferref17_ctx_body_B0 : C := (.seq (k_ [m_ 6 5, m_ 7 1, n_ 8 7, e_ 9 .lss 6 8] (.cond (.t 9) (.skip) (.exit 0))) (.seq (.block 1 [0, 1, 5] (k_ [m_ 12 0, m_ 13 1, m_ 14 5, x_ 15 13 14 4, o_ 16 (.load false none (s_ 4) (.t 15)), c_ 17 108 [.t 12, .t 16], u_ 18 17] (.cond (.t 18) (k_ [o_ 4 (.mov (.c (.b false)))] (.ret)) (.skip)))) (.ops [m_ 10 5, g_ 11 .add 10 1, m_ 5 11])))
def f_waferref17_ctx_body_L0 : C := .loop [0, 1, 5] f_waferref17_ctx_body_B0
def f_waferref17_ctx_body_R1 : C := (k_ [o_ 4 (.mov (.c (.b true)))] (.ret))
def f_waferref17_ctx_body : Fn := ⟨2, [.t 4], true, (k_ [o_ 4 (.mov (.c (.b false)))] (.seq (k_ [o_ 5 (.mov (i_ 0))] (.block 0 [] (f_waferref17_ctx_body_L0))) (f_waferref17_ctx_body_R1))), none, none⟩
def qbn : Fn := ⟨1, [.t 2], true, (k_ [o_ 2 (.mov (.c (.b false)))] (k_ [m_ 3 0, g_ 4 .leq 3 1000, m_ 2 4] (.ret))), none, none⟩
def qay : Fn := ⟨1, [.t 2], true, (k_ [o_ 2 (.mov (.c (.b false)))] (k_ [m_ 3 0, o_ 4 (.bi .lenS [.t 3]), g_ 5 .leq 4 65, m_ 2 5] (.ret))), none, none⟩
def qaU : Fn := ⟨1, [.t 2], true, (k_ [o_ 2 (.mov (.c (.b false)))] (k_ [m_ 3 0, n_ 4 3, c_ 5 49 [.t 4], v_ 6 5, q_ 7 6 true (.mov (.t 0)), q_ 8 6 true (.call (.f 125) [.t 7, (.f 126)]), q_ 9 6 true (.un .not (.t 8)), o_ 10 (.pick (.t 6) (.t 9) (.c (.b false))), m_ 2 10] (.ret))), none, none⟩
def qen : C := (k_ [e_ 20 .lss 19 18] (.seq (.cond (.t 20) (.skip) (.exit 2)) (.seq (.block 3 [3, 8, 9, 10, 17, 18, 19] (k_ [x_ 21 17 19 1, h_ 22 21, m_ 7 22] (.ops [m_ 23 3, v_ 24 7, c_ 25 52 [.mv 24], o_ 26 (.bin .add .num (i_ 1) (.t 25)), o_ 27 (.bi .max [.t 23, (.t 26)]), m_ 3 27]))) (.ops [g_ 28 .add 19 1, m_ 19 28]))))
def qeq : C := .loop [3, 8, 9, 10, 17, 18, 19] qen
def qel : C := .ops [g_ 29 .add 10 1, m_ 10 29]
def qes : C := (k_ [e_ 11 .lss 10 9] (.seq (.cond (.t 11) (.skip) (.exit 0)) (.seq (.block 1 [3, 8, 9, 10] (k_ [x_ 12 8 10 4, o_ 13 (.load false none (s_ 4) (.t 12)), o_ 5 (.alloc true [(.i .i64 0), .nil, .nil, .nil]), z_ (.store (some 5) (s_ 4) (.t 5) (.t 13))] (k_ [m_ 14 3, o_ 15 (.bi .max [.t 14, (i_ 1)]), m_ 3 15] (k_ [a_ 16 5 2, d_ 17 5 16, n_ 18 17, o_ 19 (.mov (i_ 0))] (.block 2 [3, 8, 9, 10] (qeq)))))) (qel))))
def qeo : C := .loop [3, 8, 9, 10] qes
def qea : C := (k_ [m_ 30 3, m_ 2 30] (.ret))
def qdk : Fn := ⟨1, [.t 2], true, (k_ [o_ 2 (.mov (i_ 0))] (k_ [o_ 3 (.mov (i_ 0))] (.seq (k_ [m_ 8 0, n_ 9 8, o_ 10 (.mov (i_ 0))] (.block 0 [3] (qeo))) (qea)))), none, none⟩
def qcu : C := (k_ [e_ 12 .lss 11 10] (.seq (.cond (.t 12) (.skip) (.exit 0)) (.seq (.block 1 [9, 10, 11] (k_ [x_ 13 9 11 4, o_ 14 (.load false none (s_ 4) (.t 13)), o_ 4 (.alloc true [(.i .i64 0), .nil, .nil, .nil]), z_ (.store (some 4) (s_ 4) (.t 4) (.t 14))] (k_ [a_ 15 4 1, d_ 16 4 15, n_ 17 16, c_ 18 49 [.t 17], u_ 19 18, m_ 20 19, q_ 21 20 false (.fieldAddr (.t 4) 2 l_), q_ 22 20 false (.load false (some 4) l_ (.t 21)), q_ 23 20 false (.bi .lenL [.t 22]), q_ 24 20 false (.call (.f 49) [.t 23]), q_ 25 20 false (.un .not (.t 24)), o_ 26 (.pick (.t 20) (.c (.b true)) (.t 25)), m_ 27 26, q_ 28 27 false (.fieldAddr (.t 4) 3 l_), q_ 29 27 false (.load false (some 4) l_ (.t 28)), q_ 30 27 false (.bi .lenL [.t 29]), q_ 31 27 false (.call (.f 49) [.t 30]), q_ 32 27 false (.un .not (.t 31)), o_ 33 (.pick (.t 27) (.c (.b true)) (.t 32)), m_ 34 33, q_ 35 34 false (.fieldAddr (.t 4) 1 l_), q_ 36 34 false (.load false (some 4) l_ (.t 35)), q_ 37 34 false (.call (.f 128) [.t 36, (.f 129)]), o_ 38 (.pick (.t 34) (.c (.b true)) (.t 37)), m_ 39 38, q_ 40 39 false (.fieldAddr (.t 4) 2 l_), q_ 41 39 false (.load false (some 4) l_ (.t 40)), q_ 42 39 false (.call (.f 130) [.t 41, (.f 131)]), o_ 43 (.pick (.t 39) (.c (.b true)) (.t 42))] (.cond (.t 43) (k_ [o_ 2 (.mov (.c (.b false)))] (.ret)) (.skip))))) (.ops [g_ 44 .add 11 1, m_ 11 44]))))
def qct : C := .loop [9, 10, 11] qcu
def qcq : C := (k_ [o_ 2 (.mov (.c (.b true)))] (.ret))
def qaQ : Fn := ⟨1, [.t 2], true, (k_ [o_ 2 (.mov (.c (.b false)))] (.seq (k_ [m_ 5 0, n_ 6 5, c_ 7 49 [.t 6], u_ 8 7] (.cond (.t 8) (k_ [o_ 2 (.mov (.c (.b false)))] (.ret)) (.skip))) (.seq (k_ [m_ 9 0, n_ 10 9, o_ 11 (.mov (i_ 0))] (.block 0 [] (qct))) (qcq)))), none, none⟩
def zm : Fn := ⟨2, [.t 4], true, (k_ [o_ 4 (.mov (.c (.b false)))] (k_ [v_ 5 0, v_ 6 1, c_ 7 132 [.mv 5, .mv 6], g_ 8 .geq 7 0, m_ 4 8] (.ret))), none, none⟩
def kR : Fn := ⟨2, [.t 4], true, (k_ [o_ 4 (.mov (.c (.b false)))] (k_ [v_ 5 0, v_ 6 1, c_ 7 133 [.mv 5, .mv 6], g_ 8 .geq 7 0, m_ 4 8] (.ret))), none, none⟩
def qbw : Fn := ⟨1, [.t 2], true, (k_ [o_ 1 (.box true (.t 0)), o_ 2 (.mov (.c (.b false)))] (k_ [a_ 3 1 0, d_ 4 1 3, c_ 5 50 [.t 4], u_ 6 5, m_ 7 6, q_ 8 7 false (.fieldAddr (.t 1) 2 (s_ 8)), q_ 9 7 false (.load false (some 1) (s_ 8) (.t 8)), q_ 10 7 false (.call (.f 58) [.t 9]), q_ 11 7 false (.un .not (.t 10)), o_ 12 (.pick (.t 7) (.c (.b true)) (.t 11)), m_ 2 12] (.ret))), none, none⟩
def qbu : Fn := ⟨1, [.t 2], true, (k_ [o_ 1 (.box true (.t 0)), o_ 2 (.mov (.c (.b false)))] (k_ [o_ 3 (.load false (some 1) (s_ 8) (.t 1)), c_ 4 134 [.t 3], g_ 5 .leq 4 64, m_ 6 5, q_ 7 6 true (.load false (some 1) (s_ 8) (.t 1)), q_ 8 6 true (.call (.f 135) [.t 7]), o_ 9 (.pick (.t 6) (.t 8) (.c (.b false))), m_ 2 9] (.ret))), none, none⟩
def zf : Fn := ⟨2, [.t 4], true, (k_ [o_ 4 (.mov (.c (.b false)))] (k_ [v_ 5 0, v_ 6 1, c_ 7 136 [.mv 5, .mv 6], g_ 8 .geq 7 0, m_ 4 8] (.ret))), none, none⟩
def zR : Fn := ⟨2, [.t 4], true, (k_ [o_ 4 (.mov (.c (.b false)))] (k_ [v_ 5 0, v_ 6 1, c_ 7 137 [.mv 5, .mv 6], g_ 8 .geq 7 0, m_ 4 8] (.ret))), none, none⟩
def f_recheck_name : Fn := ⟨1, [], false, .ops [v_ 2 0, c_ 3 21 [.mv 2, (i_ 32)]], none, none⟩
def f_recheck_checker_heads_1 : Fn := ⟨2, [], false, (k_ [m_ 3 0, c_ 4 14 [.t 3], v_ 5 4, q_ 6 5 true (.load false none l_ (.t 1)), q_ 7 5 true (.mov (.t 0)), q_ 8 5 true (.lookup 2 (.b false) (.t 6) (.t 7) false), q_ 9 5 true (.un .not (.t 8)), o_ 10 (.pick (.t 5) (.t 9) (.c (.b false))), c_ 11 65 [.t 10]] (.ops [h_ 12 1, m_ 13 0, z_ (.mapUpdate 2 (.t 12) (.t 13) (.c (.b true)))])), none, none⟩
def f_recheck_checker_own : Fn := ⟨2, [.t 4], true, (k_ [o_ 4 (.mov (.c (.s [])))] (k_ [m_ 5 0, o_ 6 (.nilCheck (.t 5)), o_ 7 (.fieldAddr (.t 6) 0 (s_ 8)), a_ 8 7 0, h_ 9 8, o_ 10 (.bin .add .num (.t 9) (.c (.s [46]))), m_ 11 1, e_ 12 .add 10 11, m_ 4 12] (.ret))), none, none⟩
def f_recheck_checker_typ : Fn := ⟨2, [.t 4], true, (k_ [o_ 3 (.box true (.t 1)), o_ 4 (.mov (i_ 0))] (k_ [o_ 7 (.load false (some 3) (s_ 4) (.t 3)), c_ 8 147 [.t 7], c_ 9 72 [.t 8]] (.seq (.seq (.opsD [(m_ 10 0, false, []), (o_ 11 (.nilCheck (.t 10)), false, []), (a_ 12 11 8, false, []), (h_ 13 12, false, []), (o_ 14 (.load false (some 3) (s_ 4) (.t 3)), false, []), (c_ 15 148 [.t 13, .t 14], true, [])]) (.ops [c_ 16 65 [.t 15]])) (.seq (.opsD [(o_ 18 (.load false (some 3) (s_ 4) (.t 3)), false, []), (m_ 19 0, false, []), (o_ 20 (.nilCheck (.t 19)), false, []), (a_ 21 20 8, false, []), (h_ 22 21, false, []), (o_ 23 (.nilCheck (.t 22)), false, []), (a_ 24 23 1, false, []), (h_ 25 24, false, []), (c_ 26 149 [.t 18, .t 25], true, []), (m_ 17 26, true, []), (r_ 27 17 0, false, []), (r_ 28 17 1, false, []), (m_ 5 27, false, []), (m_ 6 28, true, [])]) (k_ [v_ 29 6, c_ 30 72 [.mv 29]] (k_ [m_ 31 5, m_ 4 31] (.ret))))))), none, none⟩
def f_recheck_checker_expr_B0 : C := (k_ [e_ 26 .lss 25 24] (.seq (.cond (.t 26) (.skip) (.exit 0)) (.seq (.block 1 [0, 23, 24, 25] (k_ [x_ 27 23 25 8, o_ 28 (.load false none (s_ 8) (.t 27)), o_ 5 (.alloc true [(.i .i64 0), (.i .i64 0), (.i .i64 0), (.s []), .nil, (.i .i32 0), (.s []), .nil]), z_ (.store (some 5) (s_ 8) (.t 5) (.t 28))] (.ops [m_ 29 0, o_ 30 (.load false (some 5) (s_ 8) (.t 5)), c_ 31 152 [.t 29, .t 30]]))) (.ops [g_ 32 .add 25 1, m_ 25 32]))))
def f_recheck_checker_expr_L0 : C := .loop [0, 23, 24, 25] f_recheck_checker_expr_B0
def f_recheck_checker_expr_R1 : C := .ret
def f_recheck_checker_expr_B2 : C := (k_ [e_ 37 .lss 36 35] (.seq (.cond (.t 37) (.skip) (.exit 2)) (.seq (.block 3 [0, 3, 34, 35, 36] (k_ [x_ 38 34 36 8, o_ 39 (.load false none (s_ 8) (.t 38)), o_ 7 (.alloc true [(.i .i64 0), (.i .i64 0), (.i .i64 0), (.s []), .nil, (.i .i32 0), (.s []), .nil]), z_ (.store (some 7) (s_ 8) (.t 7) (.t 39))] (.ops [m_ 40 0, o_ 41 (.load false (some 7) (s_ 8) (.t 7)), c_ 42 71 [.t 40, .t 41]]))) (.ops [g_ 43 .add 36 1, m_ 36 43]))))
def f_recheck_checker_expr_L2 : C := .loop [0, 3, 34, 35, 36] f_recheck_checker_expr_B2
def f_recheck_checker_expr_R3 : C := (k_ [a_ 44 3 0, d_ 45 3 44] (.block 4 [] (k_ [g_ 71 .eql 45 0, m_ 70 71] (.cond (.t 70) (.ops [v_ 72 0, o_ 73 (.load false (some 3) (s_ 8) (.t 3)), c_ 74 153 [.mv 72, .t 73]]) (k_ [g_ 76 .eql 45 1, m_ 75 76] (.cond (.t 75) (.ops [v_ 77 0, o_ 78 (.load false (some 3) (s_ 8) (.t 3)), c_ 79 154 [.mv 77, .t 78]]) (.seq (k_ [g_ 81 .eql 45 2, m_ 80 81] (.cond (.t 80) (.skip) (k_ [g_ 82 .eql 45 3, m_ 80 82] (.cond (.t 80) (.skip) (k_ [g_ 83 .eql 45 4, m_ 80 83] (.cond (.t 80) (.skip) (.ops [g_ 84 .eql 45 5, m_ 80 84]))))))) (.cond (.t 80) (.ops [v_ 85 0, o_ 86 (.load false (some 3) (s_ 8) (.t 3)), c_ 87 155 [.mv 85, .t 86]]) (k_ [g_ 89 .eql 45 6, m_ 88 89] (.cond (.t 88) (k_ [v_ 90 0, o_ 91 (.load false (some 3) (s_ 8) (.t 3)), c_ 92 156 [.mv 90, .t 91]] (.ops [o_ 93 (.fieldAddr (.t 3) 1 (s_ 4)), a_ 94 93 0, d_ 95 3 94, g_ 96 .neq 95 0, c_ 97 72 [.t 96]])) (k_ [g_ 99 .eql 45 23, m_ 98 99] (.cond (.t 98) (.seq (.opsD [(a_ 100 3 7, true, []), (d_ 101 3 100, true, []), (n_ 102 101, true, []), (g_ 103 .eql 102 1, true, []), (m_ 104 103, true, []), (q_ 105 104 true (.mov (.t 0)), false, []), (q_ 106 104 true (.nilCheck (.t 105)), false, []), (q_ 107 104 true (.fieldAddr (.t 106) 8 l_), false, []), (q_ 108 104 true (.load false none l_ (.t 107)), false, []), (q_ 109 104 true (.fieldAddr (.t 3) 7 l_), false, []), (q_ 110 104 true (.load false (some 3) l_ (.t 109)), false, []), (q_ 111 104 true (.indexAddr (.t 110) (i_ 0) 8 none), false, []), (q_ 112 104 true (.fieldAddr (.t 111) 1 (s_ 4)), false, []), (q_ 113 104 true (.load false none (s_ 4) (.t 112)), false, []), (q_ 114 104 true (.fieldAddr (.t 3) 6 l_), false, []), (q_ 115 104 true (.load false (some 3) l_ (.t 114)), false, []), (q_ 116 104 true (.call (.f 157) [.t 108, (.t 113), (.t 115)]), true, []), (o_ 117 (.pick (.t 104) (.t 116) (.c (.b false))), true, []), (m_ 118 117, true, []), (q_ 119 118 true (.fieldAddr (.t 3) 1 (s_ 4)), false, []), (q_ 120 118 true (.load false (some 3) (s_ 4) (.t 119)), false, []), (q_ 121 118 true (.call (.f 150) [(i_ 3)]), true, []), (q_ 122 118 true (.call (.f 75) [.t 120, (.t 121)]), true, []), (o_ 123 (.pick (.t 118) (.t 122) (.c (.b false))), true, []), (m_ 124 123, true, []), (q_ 125 124 true (.load false (some 3) (s_ 8) (.t 3)), true, []), (q_ 126 124 true (.call (.f 151) [.t 125, (.c (.b false)), (.c (.b true))]), true, []), (o_ 127 (.pick (.t 124) (.t 126) (.c (.b false))), true, [])]) (.ops [c_ 128 72 [.t 127]])) (k_ [g_ 130 .eql 45 34, m_ 129 130] (.cond (.t 129) (k_ [m_ 131 0, o_ 132 (.nilCheck (.t 131)), o_ 133 (.fieldAddr (.t 132) 0 (s_ 8)), a_ 134 133 1, h_ 135 134, o_ 136 (.call (.f 84) [.t 135, (.c (.s [73, 110]))]), c_ 137 65 [.t 136]] (.seq (.opsD [(a_ 138 3 7, true, []), (d_ 139 3 138, true, []), (n_ 140 139, true, []), (g_ 141 .eql 140 0, true, []), (m_ 142 141, true, []), (q_ 143 142 true (.fieldAddr (.t 3) 1 (s_ 4)), false, []), (q_ 144 142 true (.load false (some 3) (s_ 4) (.t 143)), false, []), (q_ 145 142 true (.call (.f 150) [(i_ 3)]), true, []), (q_ 146 142 true (.call (.f 75) [.t 144, (.t 145)]), true, []), (o_ 147 (.pick (.t 142) (.t 146) (.c (.b false))), true, []), (m_ 148 147, true, []), (q_ 149 148 true (.load false (some 3) (s_ 8) (.t 3)), true, []), (q_ 150 148 true (.call (.f 151) [.t 149, (.c (.b false)), (.c (.b false))]), true, []), (o_ 151 (.pick (.t 148) (.t 150) (.c (.b false))), true, [])]) (.ops [c_ 152 72 [.t 151]]))) (.seq (.opsD [(m_ 47 0, false, [8]), (o_ 48 (.nilCheck (.t 47)), false, [8]), (a_ 49 48 8, false, [8]), (h_ 50 49, false, [8]), (a_ 51 3 0, false, [8]), (d_ 52 3 51, false, [8]), (a_ 53 3 7, false, [8]), (d_ 54 3 53, false, [8]), (c_ 55 158 [.t 50, .t 52, .t 54], true, [8]), (m_ 46 55, false, [8]), (r_ 56 46 0, false, [8]), (r_ 57 46 1, false, [8]), (o_ 8 (.alloc true [(.i .i64 0), (.i .i64 0), (.s []), .nil]), false, [8]), (z_ (.store (some 8) (s_ 4) (.t 8) (.t 56)), false, []), (m_ 9 57, true, [])]) (.ops [m_ 58 9, m_ 59 58, q_ 60 59 true (.fieldAddr (.t 3) 1 (s_ 4)), q_ 61 59 true (.load false (some 3) (s_ 4) (.t 60)), q_ 62 59 true (.load false (some 8) (s_ 4) (.t 8)), q_ 63 59 true (.call (.f 75) [.t 61, (.t 62)]), o_ 64 (.pick (.t 59) (.t 63) (.c (.b false))), m_ 65 64, q_ 66 65 true (.load false (some 3) (s_ 8) (.t 3)), q_ 67 65 true (.call (.f 151) [.t 66, (.c (.b false)), (.c (.b false))]), o_ 68 (.pick (.t 65) (.t 67) (.c (.b false))), c_ 69 72 [.t 68]]))))))))))))))))
def f_recheck_checker_expr_R4 : C := (.seq (k_ [a_ 33 3 7, d_ 34 3 33, n_ 35 34, o_ 36 (.mov (i_ 0))] (.block 2 [0, 3] (f_recheck_checker_expr_L2))) (f_recheck_checker_expr_R3))
def f_recheck_checker_expr : Fn := ⟨2, [], false, (k_ [o_ 3 (.box true (.t 1))] (.seq (k_ [a_ 10 3 0, d_ 11 3 10, g_ 12 .eql 11 24] (.cond (.t 12) (.seq (.seq (.opsD [(o_ 13 (.fieldAddr (.t 3) 1 (s_ 4)), false, []), (o_ 14 (.load false (some 3) (s_ 4) (.t 13)), false, []), (c_ 15 150 [(i_ 4)], true, []), (c_ 16 75 [.t 14, .t 15], true, []), (v_ 17 16, true, []), (q_ 18 17 true (.load false (some 3) (s_ 8) (.t 3)), true, []), (q_ 19 17 true (.call (.f 151) [.t 18, (.c (.b false)), (.c (.b false))]), true, []), (o_ 20 (.pick (.t 17) (.t 19) (.c (.b false))), true, [])]) (.ops [c_ 21 72 [.t 20]])) (.seq (k_ [a_ 22 3 7, d_ 23 3 22, n_ 24 23, o_ 25 (.mov (i_ 0))] (.block 0 [] (f_recheck_checker_expr_L0))) (f_recheck_checker_expr_R1))) (.skip))) (f_recheck_checker_expr_R4))), none, none⟩
def f_recheck_typed : Fn := ⟨1, [], false, .ops [v_ 2 0, c_ 3 21 [.mv 2, (i_ 33)]], none, none⟩
def f_recheck_same : Fn := ⟨2, [.t 4], true, (k_ [o_ 2 (.box true (.t 0)), o_ 3 (.box true (.t 1)), o_ 4 (.mov (.c (.b false)))] (k_ [o_ 5 (.load false (some 2) (s_ 4) (.t 2)), o_ 6 (.build [(.i .i64 0), (.i .i64 0), (.i .i64 0), (.s []), .nil, (.i .i32 0), (.s []), .nil] [(1, 4, (.t 5))]), o_ 7 (.load false (some 3) (s_ 4) (.t 3)), o_ 8 (.build [(.i .i64 0), (.i .i64 0), (.i .i64 0), (.s []), .nil, (.i .i32 0), (.s []), .nil] [(1, 4, (.t 7))]), c_ 9 160 [.t 6, .t 8], v_ 4 9] (.ret))), none, none⟩
def f_recheck_checker_stmt_B0 : C := (k_ [e_ 83 .lss 82 81] (.seq (.cond (.t 83) (.skip) (.exit 1)) (.seq (.block 2 [0, 4, 80, 81, 82] (k_ [x_ 84 80 82 8, o_ 85 (.load false none (s_ 8) (.t 84)), o_ 6 (.alloc true [(.i .i64 0), (.i .i64 0), (.i .i64 0), (.s []), .nil, (.i .i32 0), (.s []), .nil]), z_ (.store (some 6) (s_ 8) (.t 6) (.t 85))] (.ops [m_ 86 0, o_ 87 (.load false (some 6) (s_ 8) (.t 6)), c_ 88 71 [.t 86, .t 87]]))) (.ops [g_ 89 .add 82 1, m_ 82 89]))))
def f_recheck_checker_stmt_L0 : C := .loop [0, 4, 80, 81, 82] f_recheck_checker_stmt_B0
def f_recheck_checker_stmt_R1 : C := .ops [v_ 90 0, o_ 91 (.load false (some 4) (s_ 8) (.t 4)), c_ 92 156 [.mv 90, .t 91]]
def f_recheck_checker_stmt : Fn := ⟨2, [], false, (k_ [o_ 3 (.box true (.t 1))] (k_ [a_ 7 3 0, d_ 8 3 7] (.block 0 [] (k_ [g_ 13 .eql 8 0, m_ 12 13] (.cond (.t 12) (k_ [o_ 14 (.load false (some 3) (s_ 4) (.t 3)), c_ 15 164 [.t 14, (i_ 2), (i_ 0), (i_ 0)]] (k_ [m_ 16 0, a_ 17 3 1, d_ 18 3 17, o_ 19 (.indexAddr (.t 18) (i_ 0) 8 none), o_ 20 (.load false none (s_ 8) (.t 19)), c_ 21 71 [.t 16, .t 20]] (k_ [m_ 22 0, a_ 23 3 1, d_ 24 3 23, o_ 25 (.indexAddr (.t 24) (i_ 1) 8 none), o_ 26 (.load false none (s_ 8) (.t 25)), c_ 27 71 [.t 22, .t 26]] (.seq (.opsD [(a_ 28 3 1, true, []), (d_ 29 3 28, true, []), (o_ 30 (.indexAddr (.t 29) (i_ 0) 8 none), true, []), (o_ 31 (.load false none (s_ 8) (.t 30)), true, []), (c_ 32 165 [.t 31], true, []), (v_ 33 32, true, []), (q_ 34 33 true (.mov (.t 0)), false, []), (q_ 35 33 true (.nilCheck (.t 34)), false, []), (q_ 36 33 true (.fieldAddr (.t 35) 8 l_), false, []), (q_ 37 33 true (.load false none l_ (.t 36)), false, []), (q_ 38 33 true (.fieldAddr (.t 3) 1 l_), false, []), (q_ 39 33 true (.load false (some 3) l_ (.t 38)), false, []), (q_ 40 33 true (.indexAddr (.t 39) (i_ 0) 8 none), false, []), (q_ 41 33 true (.load false none (s_ 8) (.t 40)), false, []), (q_ 42 33 true (.call (.f 166) [.t 37, (.t 41)]), true, []), (o_ 43 (.pick (.t 33) (.t 42) (.c (.b false))), true, []), (m_ 44 43, true, []), (q_ 45 44 true (.mov (.t 0)), false, []), (q_ 46 44 true (.nilCheck (.t 45)), false, []), (q_ 47 44 true (.fieldAddr (.t 46) 8 l_), false, []), (q_ 48 44 true (.load false none l_ (.t 47)), false, []), (q_ 49 44 true (.fieldAddr (.t 3) 1 l_), false, []), (q_ 50 44 true (.load false (some 3) l_ (.t 49)), false, []), (q_ 51 44 true (.indexAddr (.t 50) (i_ 0) 8 none), false, []), (q_ 52 44 true (.fieldAddr (.t 51) 1 (s_ 4)), false, []), (q_ 53 44 true (.load false none (s_ 4) (.t 52)), false, []), (q_ 54 44 true (.fieldAddr (.t 3) 1 l_), false, []), (q_ 55 44 true (.load false (some 3) l_ (.t 54)), false, []), (q_ 56 44 true (.indexAddr (.t 55) (i_ 1) 8 none), false, []), (q_ 57 44 true (.load false none (s_ 8) (.t 56)), false, []), (q_ 58 44 true (.call (.f 167) [.t 48, (.t 53), (.t 57)]), true, []), (o_ 59 (.pick (.t 44) (.t 58) (.c (.b false))), true, [])]) (.ops [c_ 60 72 [.t 59]]))))) (k_ [g_ 62 .eql 8 1, m_ 61 62] (.cond (.t 61) (k_ [o_ 63 (.load false (some 3) (s_ 4) (.t 3)), c_ 64 164 [.t 63, (i_ 1), (i_ 0), (i_ 0)]] (k_ [a_ 65 3 1, d_ 66 3 65, o_ 67 (.indexAddr (.t 66) (i_ 0) 8 none), o_ 68 (.load false none (s_ 8) (.t 67)), o_ 4 (.alloc true [(.i .i64 0), (.i .i64 0), (.i .i64 0), (.s []), .nil, (.i .i32 0), (.s []), .nil]), z_ (.store (some 4) (s_ 8) (.t 4) (.t 68))] (k_ [a_ 69 4 0, d_ 70 4 69, g_ 71 .eql 70 6, m_ 72 71, q_ 73 72 true (.fieldAddr (.t 4) 1 (s_ 4)), q_ 74 72 true (.fieldAddr (.t 73) 0 l_), q_ 75 72 true (.load false (some 4) l_ (.t 74)), q_ 76 72 true (.bin .eql .num (.t 75) (i_ 0)), o_ 77 (.pick (.t 72) (.t 76) (.c (.b false))), c_ 78 72 [.t 77]] (.seq (k_ [a_ 79 4 7, d_ 80 4 79, n_ 81 80, o_ 82 (.mov (i_ 0))] (.block 1 [0, 4] (f_recheck_checker_stmt_L0))) (f_recheck_checker_stmt_R1))))) (k_ [g_ 94 .eql 8 2, m_ 93 94] (.cond (.t 93) (k_ [v_ 95 0, o_ 96 (.load false (some 3) (s_ 4) (.t 3)), c_ 97 168 [.mv 95, .t 96]] (.ops [a_ 98 3 2, d_ 99 3 98, n_ 100 99, a_ 101 3 1, d_ 102 3 101, n_ 103 102, e_ 104 .eql 100 103, m_ 105 104, q_ 106 105 false (.fieldAddr (.t 3) 2 l_), q_ 107 105 false (.load false (some 3) l_ (.t 106)), q_ 108 105 false (.bi .lenL [.t 107]), q_ 109 105 false (.fieldAddr (.t 3) 1 l_), q_ 110 105 false (.load false (some 3) l_ (.t 109)), q_ 111 105 false (.bi .lenL [.t 110]), q_ 112 105 false (.bin .add .num (.t 111) (i_ 1)), q_ 113 105 false (.bin .eql .num (.t 108) (.t 112)), o_ 114 (.pick (.t 105) (.c (.b true)) (.t 113)), m_ 115 114, q_ 116 115 true (.fieldAddr (.t 3) 3 l_), q_ 117 115 true (.load false (some 3) l_ (.t 116)), q_ 118 115 true (.bi .lenL [.t 117]), q_ 119 115 true (.bin .eql .num (.t 118) (i_ 0)), o_ 120 (.pick (.t 115) (.t 119) (.c (.b false))), c_ 121 72 [.t 120]])) (k_ [g_ 123 .eql 8 3, m_ 122 123] (.cond (.t 122) (k_ [v_ 124 0, o_ 125 (.load false (some 3) (s_ 4) (.t 3)), c_ 126 168 [.mv 124, .t 125]] (.ops [o_ 127 (.load false (some 3) (s_ 4) (.t 3)), a_ 128 3 1, d_ 129 3 128, n_ 130 129, a_ 131 3 1, d_ 132 3 131, n_ 133 132, c_ 134 164 [.t 127, .t 130, .t 133, (i_ 0)]])) (k_ [g_ 136 .eql 8 4, m_ 135 136] (.cond (.t 135) (k_ [o_ 137 (.load false (some 3) (s_ 4) (.t 3)), c_ 138 164 [.t 137, (i_ 1), (i_ 1), (i_ 0)]] (.ops [v_ 139 0, o_ 140 (.load false (some 3) (s_ 4) (.t 3)), c_ 141 168 [.mv 139, .t 140]])) (k_ [g_ 143 .eql 8 5, m_ 142 143] (.cond (.t 142) (.ops [v_ 144 0, o_ 145 (.load false (some 3) (s_ 4) (.t 3)), c_ 146 169 [.mv 144, .t 145]]) (k_ [g_ 148 .eql 8 6, m_ 147 148] (.cond (.t 147) (.ops [v_ 149 0, o_ 150 (.load false (some 3) (s_ 4) (.t 3)), c_ 151 170 [.mv 149, .t 150]]) (.ops [v_ 9 0, o_ 10 (.load false (some 3) (s_ 4) (.t 3)), c_ 11 171 [.mv 9, .t 10]])))))))))))))))))), none, none⟩
def f_scan_All_1 : Fn := ⟨2, [], false, (k_ [m_ 2 5] (k_ [m_ 6 2, o_ 7 (.bin .neq .iface (.t 6) (.c .ni))] (.cond (.t 7) (k_ [m_ 9 2, o_ 10 (.assertOk 157 (.agg [(.i .i64 0), (.i .i64 0)]) (.t 9)), m_ 8 10, r_ 11 8 0, r_ 12 8 1, o_ 3 (.alloc true [(.i .i64 0), (.i .i64 0)]), z_ (.store (some 3) (s_ 2) (.t 3) (.t 11)), m_ 4 12] (.seq (k_ [m_ 13 4, u_ 14 13] (.cond (.t 14) (.ops [m_ 15 2, z_ (.panic (.t 15))]) (.skip))) (.opsD [(o_ 16 (.fieldAddr (.t 3) 0 (s_ 2)), false, []), (o_ 17 (.load false (some 3) (s_ 2) (.t 16)), false, []), (o_ 18 (.buildSlice (.agg [(.i .i64 0), (.i .i64 0)]) 1 [(0, (.t 17))]), false, []), (z_ (.store none l_ (.t 0) (.c .nil)), true, []), (z_ (.store none l_ (.t 1) (.mv 18)), true, [])]))) (.skip)))), none, (some 5)⟩
def f_scan_scanner_next : Fn := ⟨1, [(.cell 2 (s_ 5))], true, (k_ [o_ 2 (.alloc true [(.i .i64 0), (.i .i64 0), (.i .i64 0), (.s []), (.i .i32 0)])] (k_ [m_ 5 0, c_ 6 173 [.t 5]] (k_ [m_ 7 0, o_ 8 (.nilCheck (.t 7)), a_ 9 8 1, h_ 10 9, m_ 3 10] (k_ [o_ 4 (.alloc true [(.i .i64 0), (.i .i64 0), (.i .i64 0), (.s []), (.i .i32 0)])] (.seq (.block 0 [0, 2, 3, 4] (.seq (.opsD [(m_ 14 0, false, []), (o_ 15 (.nilCheck (.t 14)), false, []), (a_ 16 15 1, false, []), (h_ 17 16, false, []), (m_ 18 0, false, []), (o_ 19 (.nilCheck (.t 18)), false, []), (a_ 20 19 0, false, []), (h_ 21 20, false, []), (o_ 22 (.bi .lenS [.t 21]), false, []), (e_ 23 .eql 17 22, true, []), (m_ 13 23, true, [])]) (.cond (.t 13) (.ops [o_ 24 (.build [(.i .i64 0), (.i .i64 0), (.i .i64 0), (.s []), (.i .i32 0)] [(0, 1, (i_ 0))]), z_ (.store (some 4) (s_ 5) (.t 4) (.t 24))]) (.seq (.opsD [(m_ 26 0, false, []), (o_ 27 (.nilCheck (.t 26)), false, []), (a_ 28 27 0, false, []), (h_ 29 28, false, []), (m_ 30 0, false, []), (o_ 31 (.nilCheck (.t 30)), false, []), (a_ 32 31 1, false, []), (h_ 33 32, false, []), (o_ 34 (.index (.t 29) (.t 33)), true, []), (c_ 35 174 [.t 34], true, []), (v_ 25 35, true, [])]) (.cond (.t 25) (.ops [m_ 36 0, c_ 37 175 [.t 36], z_ (.store (some 4) (s_ 5) (.t 4) (.mv 37))]) (.seq (.opsD [(m_ 39 0, false, []), (o_ 40 (.nilCheck (.t 39)), false, []), (a_ 41 40 0, false, []), (h_ 42 41, false, []), (m_ 43 0, false, []), (o_ 44 (.nilCheck (.t 43)), false, []), (a_ 45 44 1, false, []), (h_ 46 45, false, []), (o_ 47 (.index (.t 42) (.t 46)), true, []), (c_ 48 176 [.t 47], true, []), (v_ 38 48, true, [])]) (.cond (.t 38) (.ops [m_ 49 0, c_ 50 177 [.t 49], z_ (.store (some 4) (s_ 5) (.t 4) (.mv 50))]) (k_ [m_ 52 0, o_ 53 (.call (.f 178) [.t 52, (.c (.s [34]))]), v_ 51 53] (.cond (.t 51) (.ops [m_ 54 0, c_ 55 179 [.t 54], z_ (.store (some 4) (s_ 5) (.t 4) (.mv 55))]) (.ops [m_ 11 0, c_ 12 180 [.t 11], z_ (.store (some 4) (s_ 5) (.t 4) (.mv 12))])))))))))) (.seq (.opsD [(m_ 56 3, false, []), (m_ 57 0, false, []), (o_ 58 (.nilCheck (.t 57)), false, []), (a_ 59 58 1, false, []), (h_ 60 59, false, []), (a_ 61 4 1, false, []), (z_ (.store (some 4) l_ (.t 61) (.t 56)), false, []), (a_ 62 4 2, true, []), (z_ (.store (some 4) l_ (.t 62) (.t 60)), true, [])]) (k_ [o_ 63 (.load false (some 4) (s_ 5) (.t 4)), z_ (.store (some 2) (s_ 5) (.t 2) (.t 63))] (.ret)))))))), none, none⟩
def f_slices_Contains___string_string_ : Fn := ⟨2, [.t 4], true, (k_ [o_ 4 (.mov (.c (.b false)))] (k_ [v_ 5 0, v_ 6 1, c_ 7 181 [.mv 5, .mv 6], g_ 8 .geq 7 0, m_ 4 8] (.ret))), none, none⟩
def qik : C := (.seq (k_ [m_ 13 6, m_ 14 0, o_ 15 (.bi .lenS [.t 14]), e_ 16 .lss 13 15] (.cond (.t 16) (.skip) (.exit 0))) (.seq (.block 1 [0, 3, 4, 5, 6] (k_ [m_ 19 0, m_ 20 6, o_ 21 (.index (.t 19) (.t 20)), m_ 7 21] (k_ [m_ 22 5, m_ 23 7, e_ 24 .or 22 23, m_ 5 24] (k_ [m_ 25 7, o_ 26 (.indexAddr (.g 0 (glD 0)) (.t 25) 1 (some 256)), h_ 27 26, o_ 28 (.conv .i64 (.t 27)), v_ 8 28] (k_ [m_ 29 3, m_ 30 4, m_ 31 8, o_ 32 (.un .xor (.t 31)), e_ 33 .and 30 32, e_ 34 .add 29 33, m_ 3 34] (.ops [m_ 35 8, m_ 4 35])))))) (.ops [m_ 17 6, g_ 18 .add 17 1, m_ 6 18])))
def qih : C := .loop [0, 3, 4, 5, 6] qik
def qio : C := (.seq (k_ [m_ 42 12, m_ 43 0, o_ 44 (.bi .lenS [.t 43]), e_ 45 .lss 42 44, m_ 46 45, q_ 47 46 true (.mov (.t 0)), q_ 48 46 true (.mov (.t 12)), q_ 49 46 true (.index (.t 47) (.t 48)), q_ 50 46 true (.indexAddr (.g 0 (glD 0)) (.t 49) 1 (some 256)), q_ 51 46 true (.load false none l_ (.t 50)), q_ 52 46 true (.bin .neq .num (.t 51) (.c (.i .u8 0))), o_ 53 (.pick (.t 46) (.t 52) (.c (.b false)))] (.cond (.t 53) (.skip) (.exit 2))) (.block 3 [0, 9, 10, 12] (.ops [m_ 54 12, g_ 55 .add 54 1, m_ 12 55])))
def qie : C := .loop [0, 9, 10, 12] qio
def qif : C := (.seq (k_ [m_ 80 12, m_ 81 0, o_ 82 (.bi .lenS [.t 81]), e_ 83 .lss 80 82, m_ 84 83, q_ 85 84 true (.mov (.t 0)), q_ 86 84 true (.mov (.t 12)), q_ 87 84 true (.index (.t 85) (.t 86)), q_ 88 84 true (.indexAddr (.g 0 (glD 0)) (.t 87) 1 (some 256)), q_ 89 84 true (.load false none l_ (.t 88)), q_ 90 84 true (.bin .neq .num (.t 89) (.c (.i .u8 0))), o_ 91 (.pick (.t 84) (.t 90) (.c (.b false)))] (.cond (.t 91) (.skip) (.exit 6))) (.block 7 [0, 9, 10, 12] (.ops [m_ 92 12, g_ 93 .add 92 1, m_ 12 93])))
def qin : C := .loop [0, 9, 10, 12] qif
def qiq : C := .ops [m_ 94 12, m_ 11 94]
def qig : C := (.seq (k_ [m_ 57 12, m_ 58 0, o_ 59 (.bi .lenS [.t 58]), e_ 60 .lss 57 59] (.cond (.t 60) (.skip) (.exit 4))) (.block 5 [0, 9, 10, 11, 12] (.seq (k_ [m_ 61 0, m_ 62 12, o_ 63 (.index (.t 61) (.t 62)), o_ 64 (.indexAddr (.g 0 (glD 0)) (.t 63) 1 (some 256)), h_ 65 64, o_ 66 (.bin .eql .num (.t 65) (.c (.i .u8 0)))] (.cond (.t 66) (k_ [m_ 67 12, g_ 68 .add 67 1, m_ 12 68] (.exit 5)) (.skip))) (k_ [m_ 69 9, m_ 70 10, m_ 71 0, m_ 72 11, m_ 73 12, o_ 74 (.sliceS (.t 71) (some (.t 72)) (some (.t 73))), x_ 75 69 70 1, z_ (.store none l_ (.t 75) (.t 74))] (k_ [m_ 76 10, g_ 77 .add 76 1, m_ 10 77] (k_ [m_ 78 12, g_ 79 .add 78 1, m_ 12 79] (.seq (.block 6 [0, 9, 10, 12] (qin)) (qiq))))))))
def qip : C := .loop [0, 9, 10, 11, 12] qig
def qil : C := (.seq (k_ [m_ 95 11, m_ 96 0, o_ 97 (.bi .lenS [.t 96]), e_ 98 .lss 95 97] (.cond (.t 98) (.ops [m_ 99 9, m_ 100 10, m_ 101 0, m_ 102 11, o_ 103 (.sliceS (.t 101) (some (.t 102)) none), x_ 104 99 100 1, z_ (.store none l_ (.t 104) (.t 103))]) (.skip))) (k_ [m_ 105 9, m_ 2 105] (.ret)))
def qij : C := (k_ [m_ 56 12, m_ 11 56] (.seq (.block 4 [0, 9, 10, 11] (qip)) (qil)))
def qii : C := (.seq (k_ [m_ 36 5, o_ 37 (.bin .geq .num (.t 36) (.c (.i .u8 128)))] (.cond (.t 37) (k_ [v_ 38 0, c_ 39 182 [.mv 38, .f 183], v_ 2 39] (.ret)) (.skip))) (k_ [m_ 40 3, o_ 41 (.mkSlice (.s []) (.t 40) (.t 40)), v_ 9 41] (k_ [o_ 10 (.mov (i_ 0))] (k_ [o_ 11 (.mov (i_ 0))] (k_ [o_ 12 (.mov (i_ 0))] (.seq (.block 2 [0, 9, 10, 12] (qie)) (qij)))))))
def qgp : Fn := ⟨1, [.t 2], true, (k_ [o_ 2 (.mov (.c .nil))] (k_ [o_ 3 (.mov (i_ 0))] (k_ [o_ 4 (.mov (i_ 1))] (k_ [o_ 5 (.mov (.c (.i .u8 0)))] (.seq (k_ [o_ 6 (.mov (i_ 0))] (.block 0 [0, 3, 5] (qih))) (qii)))))), none, none⟩
def qbO : Fn := ⟨0, [.t 0], true, (k_ [o_ 0 (.mov (.c .nil))] (k_ [o_ 1 (.buildSlice (.s []) 33 [(0, (.c (.s [65, 82, 82, 65, 89]))), (1, (.c (.s [66, 69, 71, 73, 78]))), (2, (.c (.s [66, 89]))), (3, (.c (.s [67, 65, 83, 69]))), (4, (.c (.s [67, 79, 78, 83, 84]))), (5, (.c (.s [68, 73, 86]))), (6, (.c (.s [68, 79]))), (7, (.c (.s [69, 76, 83, 69]))), (8, (.c (.s [69, 76, 83, 73, 70]))), (9, (.c (.s [69, 78, 68]))), (10, (.c (.s [70, 65, 76, 83, 69]))), (11, (.c (.s [70, 79, 82]))), (12, (.c (.s [73, 70]))), (13, (.c (.s [73, 77, 80, 79, 82, 84]))), (14, (.c (.s [73, 78]))), (15, (.c (.s [73, 83]))), (16, (.c (.s [77, 79, 68]))), (17, (.c (.s [77, 79, 68, 85, 76, 69]))), (18, (.c (.s [78, 73, 76]))), (19, (.c (.s [79, 70]))), (20, (.c (.s [79, 82]))), (21, (.c (.s [80, 79, 73, 78, 84, 69, 82]))), (22, (.c (.s [80, 82, 79, 67, 69, 68, 85, 82, 69]))), (23, (.c (.s [82, 69, 67, 79, 82, 68]))), (24, (.c (.s [82, 69, 80, 69, 65, 84]))), (25, (.c (.s [82, 69, 84, 85, 82, 78]))), (26, (.c (.s [84, 72, 69, 78]))), (27, (.c (.s [84, 79]))), (28, (.c (.s [84, 82, 85, 69]))), (29, (.c (.s [84, 89, 80, 69]))), (30, (.c (.s [85, 78, 84, 73, 76]))), (31, (.c (.s [86, 65, 82]))), (32, (.c (.s [87, 72, 73, 76, 69])))]), v_ 0 1] (.ret))), none, none⟩
def yE : Fn := ⟨1, [.t 2], true, (k_ [o_ 2 (.mov (.c (.b false)))] (k_ [m_ 3 0, g_ 4 .leq 3 1000, m_ 2 4] (.ret))), none, none⟩
def qaE : C := (.seq (k_ [m_ 8 3, m_ 9 0, n_ 10 9, e_ 11 .lss 8 10] (.cond (.t 11) (.skip) (.exit 0))) (.seq (.block 1 [0, 3] (k_ [m_ 14 0, m_ 15 3, x_ 16 14 15 6, a_ 17 16 0, h_ 18 17, o_ 19 (.bi .lenS [.t 18]), g_ 20 .gtr 19 65, m_ 21 20, q_ 22 21 false (.mov (.t 0)), q_ 23 21 false (.mov (.t 3)), q_ 24 21 false (.indexAddr (.t 22) (.t 23) 6 none), q_ 25 21 false (.fieldAddr (.t 24) 2 (s_ 4)), q_ 26 21 false (.load false none (s_ 4) (.t 25)), q_ 27 21 false (.call (.f 184) [.t 26, (i_ 8)]), q_ 28 21 false (.un .not (.t 27)), o_ 29 (.pick (.t 21) (.c (.b true)) (.t 28))] (.cond (.t 29) (k_ [o_ 2 (.mov (.c (.b false)))] (.ret)) (.skip)))) (.ops [m_ 12 3, g_ 13 .add 12 1, m_ 3 13])))
def qaC : C := .loop [0, 3] qaE
def qaD : C := (k_ [o_ 2 (.mov (.c (.b true)))] (.ret))
def yA : Fn := ⟨1, [.t 2], true, (k_ [o_ 2 (.mov (.c (.b false)))] (.seq (k_ [m_ 4 0, n_ 5 4, c_ 6 87 [.t 5], u_ 7 6] (.cond (.t 7) (k_ [o_ 2 (.mov (.c (.b false)))] (.ret)) (.skip))) (.seq (k_ [o_ 3 (.mov (i_ 0))] (.block 0 [] (qaC))) (qaD)))), none, none⟩
def qcb : C := (.seq (k_ [m_ 15 5, m_ 16 0, m_ 17 4, x_ 18 16 17 4, a_ 19 18 2, h_ 20 19, n_ 21 20, e_ 22 .lss 15 21] (.cond (.t 22) (.skip) (.exit 2))) (.seq (.block 3 [0, 3, 4, 5] (.ops [m_ 25 3, m_ 26 0, m_ 27 4, x_ 28 26 27 4, a_ 29 28 2, h_ 30 29, m_ 31 5, x_ 32 30 31 1, h_ 33 32, c_ 34 89 [.t 33], o_ 35 (.bi .max [.t 25, (.t 34)]), m_ 3 35])) (.ops [m_ 23 5, g_ 24 .add 23 1, m_ 5 24])))
def qch : C := .loop [0, 3, 4, 5] qcb
def qce : C := .ops [m_ 13 4, g_ 14 .add 13 1, m_ 4 14]
def qb8 : C := (.seq (k_ [m_ 9 4, m_ 10 0, n_ 11 10, e_ 12 .lss 9 11] (.cond (.t 12) (.skip) (.exit 0))) (.seq (.block 1 [0, 3, 4] (k_ [o_ 5 (.mov (i_ 0))] (.block 2 [0, 3, 4] (qch)))) (qce)))
def qb6 : C := .loop [0, 3, 4] qb8
def qca : C := (k_ [m_ 36 3, g_ 37 .add 36 1, m_ 2 37] (.ret))
def qap : Fn := ⟨1, [.t 2], true, (k_ [o_ 2 (.mov (i_ 0))] (.seq (k_ [m_ 6 0, n_ 7 6, g_ 8 .eql 7 0] (.cond (.t 8) (k_ [o_ 2 (.mov (i_ 0))] (.ret)) (.skip))) (k_ [o_ 3 (.mov (i_ 0))] (.seq (k_ [o_ 4 (.mov (i_ 0))] (.block 0 [3] (qb6))) (qca))))), none, none⟩
def qaB : C := (.seq (k_ [m_ 42 4, m_ 43 0, m_ 44 3, x_ 45 43 44 4, a_ 46 45 2, h_ 47 46, n_ 48 47, e_ 49 .lss 42 48] (.cond (.t 49) (.skip) (.exit 2))) (.seq (.block 3 [0, 3, 4] (k_ [m_ 52 0, m_ 53 3, x_ 54 52 53 4, a_ 55 54 2, h_ 56 55, m_ 57 4, x_ 58 56 57 1, h_ 59 58, c_ 60 90 [.t 59], u_ 61 60] (.cond (.t 61) (k_ [o_ 2 (.mov (.c (.b false)))] (.ret)) (.skip)))) (.ops [m_ 50 4, g_ 51 .add 50 1, m_ 4 51])))
def qaL : C := .loop [0, 3, 4] qaB
def qaA : C := .ops [m_ 13 3, g_ 14 .add 13 1, m_ 3 14]
def qaK : C := (.seq (k_ [m_ 9 3, m_ 10 0, n_ 11 10, e_ 12 .lss 9 11] (.cond (.t 12) (.skip) (.exit 0))) (.seq (.block 1 [0, 3] (.seq (k_ [m_ 15 0, m_ 16 3, x_ 17 15 16 4, a_ 18 17 1, h_ 19 18, c_ 20 91 [.t 19], u_ 21 20, m_ 22 21, q_ 23 22 false (.mov (.t 0)), q_ 24 22 false (.mov (.t 3)), q_ 25 22 false (.indexAddr (.t 23) (.t 24) 4 none), q_ 26 22 false (.fieldAddr (.t 25) 3 l_), q_ 27 22 false (.load false none l_ (.t 26)), q_ 28 22 false (.bi .lenL [.t 27]), q_ 29 22 false (.call (.f 87) [.t 28]), q_ 30 22 false (.un .not (.t 29)), o_ 31 (.pick (.t 22) (.c (.b true)) (.t 30)), m_ 32 31, q_ 33 32 false (.mov (.t 0)), q_ 34 32 false (.mov (.t 3)), q_ 35 32 false (.indexAddr (.t 33) (.t 34) 4 none), q_ 36 32 false (.fieldAddr (.t 35) 2 l_), q_ 37 32 false (.load false none l_ (.t 36)), q_ 38 32 false (.bi .lenL [.t 37]), q_ 39 32 false (.call (.f 87) [.t 38]), q_ 40 32 false (.un .not (.t 39)), o_ 41 (.pick (.t 32) (.c (.b true)) (.t 40))] (.cond (.t 41) (k_ [o_ 2 (.mov (.c (.b false)))] (.ret)) (.skip))) (k_ [o_ 4 (.mov (i_ 0))] (.block 2 [0, 3] (qaL))))) (qaA)))
def qaF : C := .loop [0, 3] qaK
def qaI : C := (k_ [o_ 2 (.mov (.c (.b true)))] (.ret))
def yu : Fn := ⟨1, [.t 2], true, (k_ [o_ 2 (.mov (.c (.b false)))] (.seq (k_ [m_ 5 0, n_ 6 5, c_ 7 87 [.t 6], u_ 8 7] (.cond (.t 8) (k_ [o_ 2 (.mov (.c (.b false)))] (.ret)) (.skip))) (.seq (k_ [o_ 3 (.mov (i_ 0))] (.block 0 [] (qaF))) (qaI)))), none, none⟩
def qam : C := (.seq (k_ [m_ 8 3, m_ 9 0, n_ 10 9, e_ 11 .lss 8 10] (.cond (.t 11) (.skip) (.exit 0))) (.seq (.block 1 [0, 3] (k_ [m_ 14 0, m_ 15 3, x_ 16 14 15 8, o_ 17 (.load false none (s_ 8) (.t 16)), c_ 18 185 [.t 17], g_ 19 .gtr 18 64, m_ 20 19, q_ 21 20 false (.mov (.t 0)), q_ 22 20 false (.mov (.t 3)), q_ 23 20 false (.indexAddr (.t 21) (.t 22) 8 none), q_ 24 20 false (.load false none (s_ 8) (.t 23)), q_ 25 20 false (.call (.f 186) [.t 24]), q_ 26 20 false (.un .not (.t 25)), o_ 27 (.pick (.t 20) (.c (.b true)) (.t 26))] (.cond (.t 27) (k_ [o_ 2 (.mov (.c (.b false)))] (.ret)) (.skip)))) (.ops [m_ 12 3, g_ 13 .add 12 1, m_ 3 13])))
def qad : C := .loop [0, 3] qam
def qac : C := (k_ [o_ 2 (.mov (.c (.b true)))] (.ret))
def yf : Fn := ⟨1, [.t 2], true, (k_ [o_ 2 (.mov (.c (.b false)))] (.seq (k_ [m_ 4 0, n_ 5 4, c_ 6 87 [.t 5], u_ 7 6] (.cond (.t 7) (k_ [o_ 2 (.mov (.c (.b false)))] (.ret)) (.skip))) (.seq (k_ [o_ 3 (.mov (i_ 0))] (.block 0 [] (qad))) (qac)))), none, none⟩
def f_waferref17_once_B0 : C := (.seq (k_ [m_ 6 4, m_ 7 0, n_ 8 7, e_ 9 .lss 6 8] (.cond (.t 9) (.skip) (.exit 0))) (.seq (.block 1 [0, 3, 4] (.seq (k_ [m_ 12 0, m_ 13 4, x_ 14 12 13 1, h_ 15 14, c_ 16 15 [.t 15], u_ 17 16, m_ 18 17, q_ 19 18 false (.mov (.t 3)), q_ 20 18 false (.mov (.t 0)), q_ 21 18 false (.mov (.t 4)), q_ 22 18 false (.indexAddr (.t 20) (.t 21) 1 none), q_ 23 18 false (.load false none l_ (.t 22)), q_ 24 18 false (.lookup 2 (.b false) (.t 19) (.t 23) false), o_ 25 (.pick (.t 18) (.c (.b true)) (.t 24))] (.cond (.t 25) (k_ [o_ 2 (.mov (.c (.b false)))] (.ret)) (.skip))) (.ops [m_ 26 3, m_ 27 0, m_ 28 4, x_ 29 27 28 1, h_ 30 29, z_ (.mapUpdate 2 (.t 26) (.t 30) (.c (.b true)))]))) (.ops [m_ 10 4, g_ 11 .add 10 1, m_ 4 11])))
def f_waferref17_once_L0 : C := .loop [0, 3, 4] f_waferref17_once_B0
def f_waferref17_once_R1 : C := (k_ [o_ 2 (.mov (.c (.b true)))] (.ret))
def f_waferref17_once : Fn := ⟨1, [.t 2], true, (k_ [o_ 2 (.mov (.c (.b false)))] (k_ [o_ 5 (.mkMap), m_ 3 5] (.seq (k_ [o_ 4 (.mov (i_ 0))] (.block 0 [] (f_waferref17_once_L0))) (f_waferref17_once_R1)))), none, none⟩
def f_waferref17_all_B0 : C := (.seq (k_ [m_ 12 4, a_ 13 1 2, d_ 14 1 13, n_ 15 14, e_ 16 .lss 12 15] (.cond (.t 16) (.skip) (.exit 0))) (.seq (.block 1 [1, 3, 4] (.ops [v_ 19 3, a_ 20 1 2, d_ 21 1 20, m_ 22 4, x_ 23 21 22 10, a_ 24 23 0, h_ 25 24, o_ 26 (.buildSlice (.s []) 1 [(0, (.t 25))]), o_ 27 (.bi (.append 1 16) [.mv 19, (.t 26)]), v_ 3 27])) (.ops [m_ 17 4, g_ 18 .add 17 1, m_ 4 18])))
def f_waferref17_all_L0 : C := .loop [1, 3, 4] f_waferref17_all_B0
def f_waferref17_all_B1 : C := (.seq (k_ [m_ 28 5, a_ 29 1 3, d_ 30 1 29, n_ 31 30, e_ 32 .lss 28 31] (.cond (.t 32) (.skip) (.exit 2))) (.seq (.block 3 [1, 3, 5] (.ops [v_ 35 3, a_ 36 1 3, d_ 37 1 36, m_ 38 5, x_ 39 37 38 6, a_ 40 39 0, h_ 41 40, o_ 42 (.buildSlice (.s []) 1 [(0, (.t 41))]), o_ 43 (.bi (.append 1 16) [.mv 35, (.t 42)]), v_ 3 43])) (.ops [m_ 33 5, g_ 34 .add 33 1, m_ 5 34])))
def f_waferref17_all_L1 : C := .loop [1, 3, 5] f_waferref17_all_B1
def f_waferref17_all_B2 : C := (.seq (k_ [m_ 44 6, a_ 45 1 4, d_ 46 1 45, n_ 47 46, e_ 48 .lss 44 47] (.cond (.t 48) (.skip) (.exit 4))) (.seq (.block 5 [1, 3, 6] (.ops [v_ 51 3, a_ 52 1 4, d_ 53 1 52, m_ 54 6, x_ 55 53 54 4, a_ 56 55 0, h_ 57 56, o_ 58 (.buildSlice (.s []) 1 [(0, (.t 57))]), o_ 59 (.bi (.append 1 16) [.mv 51, (.t 58)]), v_ 3 59])) (.ops [m_ 49 6, g_ 50 .add 49 1, m_ 6 50])))
def f_waferref17_all_L2 : C := .loop [1, 3, 6] f_waferref17_all_B2
def f_waferref17_all_B3 : C := (.seq (k_ [m_ 60 7, a_ 61 1 5, d_ 62 1 61, n_ 63 62, e_ 64 .lss 60 63] (.cond (.t 64) (.skip) (.exit 6))) (.seq (.block 7 [1, 3, 7] (.ops [v_ 67 3, a_ 68 1 5, d_ 69 1 68, m_ 70 7, x_ 71 69 70 6, a_ 72 71 0, h_ 73 72, o_ 74 (.buildSlice (.s []) 1 [(0, (.t 73))]), o_ 75 (.bi (.append 1 16) [.mv 67, (.t 74)]), v_ 3 75])) (.ops [m_ 65 7, g_ 66 .add 65 1, m_ 7 66])))
def f_waferref17_all_L3 : C := .loop [1, 3, 7] f_waferref17_all_B3
def f_waferref17_all_B4 : C := (.seq (k_ [m_ 76 8, a_ 77 1 6, d_ 78 1 77, n_ 79 78, e_ 80 .lss 76 79] (.cond (.t 80) (.skip) (.exit 8))) (.seq (.block 9 [1, 3, 8] (.ops [v_ 83 3, a_ 84 1 6, d_ 85 1 84, m_ 86 8, x_ 87 85 86 10, a_ 88 87 0, h_ 89 88, o_ 90 (.buildSlice (.s []) 1 [(0, (.t 89))]), o_ 91 (.bi (.append 1 16) [.mv 83, (.t 90)]), v_ 3 91])) (.ops [m_ 81 8, g_ 82 .add 81 1, m_ 8 82])))
def f_waferref17_all_L4 : C := .loop [1, 3, 8] f_waferref17_all_B4
def f_waferref17_all_R5 : C := (k_ [m_ 92 3, m_ 2 92] (.ret))
def f_waferref17_all_R6 : C := (.seq (k_ [o_ 8 (.mov (i_ 0))] (.block 8 [3] (f_waferref17_all_L4))) (f_waferref17_all_R5))
def f_waferref17_all_R7 : C := (.seq (k_ [o_ 7 (.mov (i_ 0))] (.block 6 [1, 3] (f_waferref17_all_L3))) (f_waferref17_all_R6))
def f_waferref17_all_R8 : C := (.seq (k_ [o_ 6 (.mov (i_ 0))] (.block 4 [1, 3] (f_waferref17_all_L2))) (f_waferref17_all_R7))
def f_waferref17_all_R9 : C := (.seq (k_ [o_ 5 (.mov (i_ 0))] (.block 2 [1, 3] (f_waferref17_all_L1))) (f_waferref17_all_R8))
def f_waferref17_all : Fn := ⟨1, [.t 2], true, (k_ [o_ 1 (.box true (.t 0)), o_ 2 (.mov (.c .nil))] (k_ [a_ 9 1 1, d_ 10 1 9, o_ 11 (.bi (.append 1 16) [(.c .nil), (.t 10)]), v_ 3 11] (.seq (k_ [o_ 4 (.mov (i_ 0))] (.block 0 [1, 3] (f_waferref17_all_L0))) (f_waferref17_all_R9)))), none, none⟩
def f_waferref17_imported_B0 : C := (.seq (k_ [m_ 6 5, a_ 7 2 1, d_ 8 2 7, n_ 9 8, e_ 10 .lss 6 9] (.cond (.t 10) (.skip) (.exit 0))) (.seq (.block 1 [1, 2, 5] (k_ [a_ 13 2 1, d_ 14 2 13, m_ 15 5, x_ 16 14 15 1, h_ 17 16, m_ 18 1, e_ 19 .eql 17 18] (.cond (.t 19) (k_ [o_ 4 (.mov (.c (.b true)))] (.ret)) (.skip)))) (.ops [m_ 11 5, g_ 12 .add 11 1, m_ 5 12])))
def f_waferref17_imported_L0 : C := .loop [1, 2, 5] f_waferref17_imported_B0
def f_waferref17_imported_R1 : C := (k_ [o_ 4 (.mov (.c (.b false)))] (.ret))
def f_waferref17_imported : Fn := ⟨2, [.t 4], true, (k_ [o_ 2 (.box true (.t 0)), o_ 4 (.mov (.c (.b false)))] (.seq (k_ [o_ 5 (.mov (i_ 0))] (.block 0 [] (f_waferref17_imported_L0))) (f_waferref17_imported_R1))), none, none⟩
def f_waferref17_RightLit_B0 : C := (.seq (k_ [m_ 83 3, a_ 84 1 6, d_ 85 1 84, o_ 86 (.bi .lenS [.t 85]), e_ 87 .lss 83 86] (.cond (.t 87) (.skip) (.exit 1))) (.seq (.block 2 [1, 3] (k_ [a_ 90 1 6, d_ 91 1 90, m_ 92 3, o_ 93 (.index (.t 91) (.t 92)), o_ 94 (.bin .lss .num (.t 93) (.c (.i .u8 32))), m_ 95 94, q_ 96 95 false (.fieldAddr (.t 1) 6 l_), q_ 97 95 false (.load false (some 1) l_ (.t 96)), q_ 98 95 false (.mov (.t 3)), q_ 99 95 false (.index (.t 97) (.t 98)), q_ 100 95 false (.bin .eql .num (.t 99) (.c (.i .u8 34))), o_ 101 (.pick (.t 95) (.c (.b true)) (.t 100))] (.cond (.t 101) (k_ [o_ 2 (.mov (.c (.b false)))] (.ret)) (.skip)))) (.ops [m_ 88 3, g_ 89 .add 88 1, m_ 3 89])))
def f_waferref17_RightLit_L0 : C := .loop [1, 3] f_waferref17_RightLit_B0
def f_waferref17_RightLit_R1 : C := (k_ [o_ 2 (.mov (.c (.b true)))] (.ret))
def f_waferref17_RightLit_R2 : C := (k_ [o_ 2 (.mov (.c (.b false)))] (.ret))
def f_waferref17_RightLit : Fn := ⟨1, [.t 2], true, (k_ [o_ 1 (.box true (.t 0)), o_ 2 (.mov (.c (.b false)))] (.seq (.seq (.opsD [(a_ 4 1 0, true, []), (d_ 5 1 4, true, []), (g_ 6 .neq 5 0, true, []), (m_ 7 6, true, []), (q_ 8 7 false (.fieldAddr (.t 1) 7 l_), true, []), (q_ 9 7 false (.load false (some 1) l_ (.t 8)), true, []), (q_ 10 7 false (.bi .lenL [.t 9]), true, []), (q_ 11 7 false (.bin .gtr .num (.t 10) (i_ 0)), true, []), (o_ 12 (.pick (.t 7) (.c (.b true)) (.t 11)), true, []), (m_ 13 12, true, []), (q_ 14 13 false (.fieldAddr (.t 1) 1 (s_ 4)), false, []), (q_ 15 13 false (.load false (some 1) (s_ 4) (.t 14)), false, []), (q_ 16 13 false (.fieldAddr (.t 1) 1 (s_ 4)), false, []), (q_ 17 13 false (.fieldAddr (.t 16) 0 l_), false, []), (q_ 18 13 false (.load false (some 1) l_ (.t 17)), false, []), (q_ 19 13 false (.call (.f 187) [.t 18]), true, []), (q_ 20 13 false (.call (.f 105) [.t 15, (.t 19)]), true, []), (q_ 21 13 false (.un .not (.t 20)), true, []), (o_ 22 (.pick (.t 13) (.c (.b true)) (.t 21)), true, [])]) (.cond (.t 22) (k_ [o_ 2 (.mov (.c (.b false)))] (.ret)) (.skip))) (.seq (k_ [o_ 23 (.fieldAddr (.t 1) 1 (s_ 4)), a_ 24 23 0, d_ 25 1 24] (.block 0 [] (.seq (k_ [g_ 27 .eql 25 1, m_ 26 27] (.cond (.t 26) (.skip) (.ops [g_ 28 .eql 25 4, m_ 26 28]))) (.cond (.t 26) (k_ [a_ 29 1 6, d_ 30 1 29, o_ 31 (.bin .eql .num (.t 30) (.c (.s []))), m_ 2 31] (.ret)) (k_ [g_ 33 .eql 25 2, m_ 32 33] (.cond (.t 32) (k_ [a_ 34 1 6, d_ 35 1 34, o_ 36 (.bin .eql .num (.t 35) (.c (.s []))), m_ 37 36, q_ 38 37 true (.fieldAddr (.t 1) 5 l_), q_ 39 37 true (.load false (some 1) l_ (.t 38)), q_ 40 37 true (.bin .geq .num (.t 39) (.c (.i .i32 0))), o_ 41 (.pick (.t 37) (.t 40) (.c (.b false))), m_ 42 41, q_ 43 42 true (.fieldAddr (.t 1) 5 l_), q_ 44 42 true (.load false (some 1) l_ (.t 43)), q_ 45 42 true (.bin .leq .num (.t 44) (.c (.i .i32 255))), o_ 46 (.pick (.t 42) (.t 45) (.c (.b false))), m_ 2 46] (.ret)) (k_ [g_ 48 .eql 25 3, m_ 47 48] (.cond (.t 47) (k_ [a_ 49 1 6, d_ 50 1 49, o_ 51 (.bin .eql .num (.t 50) (.c (.s []))), m_ 52 51, q_ 53 52 true (.fieldAddr (.t 1) 5 l_), q_ 54 52 true (.load false (some 1) l_ (.t 53)), q_ 55 52 true (.bin .eql .num (.t 54) (.c (.i .i32 0))), q_ 56 52 true (.mov (.t 55)), q_ 57 56 false (.fieldAddr (.t 1) 5 l_), q_ 58 56 false (.load false (some 1) l_ (.t 57)), q_ 59 56 false (.bin .eql .num (.t 58) (.c (.i .i32 1))), q_ 60 52 true (.pick (.t 56) (.c (.b true)) (.t 59)), o_ 61 (.pick (.t 52) (.t 60) (.c (.b false))), m_ 2 61] (.ret)) (k_ [g_ 63 .eql 25 5, m_ 62 63] (.cond (.t 62) (k_ [a_ 64 1 6, d_ 65 1 64, o_ 66 (.bin .eql .num (.t 65) (.c (.s []))), m_ 67 66, q_ 68 67 true (.fieldAddr (.t 1) 5 l_), q_ 69 67 true (.load false (some 1) l_ (.t 68)), q_ 70 67 true (.bin .eql .num (.t 69) (.c (.i .i32 0))), o_ 71 (.pick (.t 67) (.t 70) (.c (.b false))), m_ 2 71] (.ret)) (k_ [g_ 73 .eql 25 6, m_ 72 73] (.cond (.t 72) (.seq (k_ [a_ 74 1 5, d_ 75 1 74, o_ 76 (.bin .neq .num (.t 75) (.c (.i .i32 0))), m_ 77 76, q_ 78 77 false (.fieldAddr (.t 1) 6 l_), q_ 79 77 false (.load false (some 1) l_ (.t 78)), q_ 80 77 false (.bi .lenS [.t 79]), q_ 81 77 false (.bin .gtr .num (.t 80) (i_ 120)), o_ 82 (.pick (.t 77) (.c (.b true)) (.t 81))] (.cond (.t 82) (k_ [o_ 2 (.mov (.c (.b false)))] (.ret)) (.skip))) (.seq (k_ [o_ 3 (.mov (i_ 0))] (.block 1 [] (f_waferref17_RightLit_L0))) (f_waferref17_RightLit_R1))) (.skip))))))))))))) (f_waferref17_RightLit_R2)))), none, none⟩
def f_waferref17_is : Fn := ⟨2, [.t 4], true, (k_ [o_ 2 (.box true (.t 0)), o_ 4 (.mov (.c (.b false)))] (k_ [a_ 5 2 0, d_ 6 2 5, m_ 7 1, e_ 8 .eql 6 7, m_ 4 8] (.ret))), none, none⟩
def f_waferref11_Alike_B0 : C := (.seq (k_ [m_ 34 5, a_ 35 2 3, d_ 36 2 35, n_ 37 36, e_ 38 .lss 34 37] (.cond (.t 38) (.skip) (.exit 0))) (.seq (.block 1 [2, 3, 5] (.seq (.opsD [(a_ 41 2 3, false, []), (d_ 42 2 41, false, []), (m_ 43 5, false, []), (x_ 44 42 43 4, false, []), (o_ 45 (.load false none (s_ 4) (.t 44)), false, []), (a_ 46 3 3, false, []), (d_ 47 3 46, false, []), (m_ 48 5, false, []), (x_ 49 47 48 4, false, []), (o_ 50 (.load false none (s_ 4) (.t 49)), false, []), (c_ 51 105 [.t 45, .t 50], true, []), (u_ 52 51, true, [])]) (.cond (.t 52) (k_ [o_ 4 (.mov (.c (.b false)))] (.ret)) (.skip)))) (.ops [m_ 39 5, g_ 40 .add 39 1, m_ 5 40])))
def f_waferref11_Alike_L0 : C := .loop [2, 3, 5] f_waferref11_Alike_B0
def f_waferref11_Alike_R1 : C := (k_ [o_ 4 (.mov (.c (.b true)))] (.ret))
def f_waferref11_Alike : Fn := ⟨2, [.t 4], true, (k_ [o_ 2 (.box true (.t 0)), o_ 3 (.box true (.t 1)), o_ 4 (.mov (.c (.b false)))] (.seq (k_ [a_ 6 2 0, d_ 7 2 6, a_ 8 3 0, d_ 9 3 8, e_ 10 .neq 7 9, m_ 11 10, q_ 12 11 false (.fieldAddr (.t 2) 1 l_), q_ 13 11 false (.load false (some 2) l_ (.t 12)), q_ 14 11 false (.fieldAddr (.t 3) 1 l_), q_ 15 11 false (.load false (some 3) l_ (.t 14)), q_ 16 11 false (.bin .neq .num (.t 13) (.t 15)), o_ 17 (.pick (.t 11) (.c (.b true)) (.t 16)), m_ 18 17, q_ 19 18 false (.fieldAddr (.t 2) 2 l_), q_ 20 18 false (.load false (some 2) l_ (.t 19)), q_ 21 18 false (.fieldAddr (.t 3) 2 l_), q_ 22 18 false (.load false (some 3) l_ (.t 21)), q_ 23 18 false (.bin .neq .num (.t 20) (.t 22)), o_ 24 (.pick (.t 18) (.c (.b true)) (.t 23)), m_ 25 24, q_ 26 25 false (.fieldAddr (.t 2) 3 l_), q_ 27 25 false (.load false (some 2) l_ (.t 26)), q_ 28 25 false (.bi .lenL [.t 27]), q_ 29 25 false (.fieldAddr (.t 3) 3 l_), q_ 30 25 false (.load false (some 3) l_ (.t 29)), q_ 31 25 false (.bi .lenL [.t 30]), q_ 32 25 false (.bin .neq .num (.t 28) (.t 31)), o_ 33 (.pick (.t 25) (.c (.b true)) (.t 32))] (.cond (.t 33) (k_ [o_ 4 (.mov (.c (.b false)))] (.ret)) (.skip))) (.seq (k_ [o_ 5 (.mov (i_ 0))] (.block 0 [] (f_waferref11_Alike_L0))) (f_waferref11_Alike_R1)))), none, none⟩
def zg : Fn := ⟨2, [.t 4], true, (k_ [o_ 4 (.mov (.c (.b false)))] (k_ [v_ 5 0, v_ 6 1, c_ 7 230 [.mv 5, .mv 6], g_ 8 .geq 7 0, m_ 4 8] (.ret))), none, none⟩
def qfC : Fn := ⟨1, [.t 2], true, (k_ [o_ 1 (.box true (.t 0)), o_ 2 (.mov (.c (.b false)))] (k_ [a_ 3 1 0, d_ 4 1 3, c_ 5 50 [.t 4], u_ 6 5, m_ 7 6, q_ 8 7 false (.fieldAddr (.t 1) 2 (s_ 4)), q_ 9 7 false (.load false (some 1) (s_ 4) (.t 8)), q_ 10 7 false (.call (.f 127) [.t 9, (i_ 8)]), q_ 11 7 false (.un .not (.t 10)), o_ 12 (.pick (.t 7) (.c (.b true)) (.t 11)), m_ 2 12] (.ret))), none, none⟩
def yG : Fn := ⟨2, [.t 4], true, (k_ [o_ 2 (.box true (.t 0)), o_ 3 (.box false (.t 1)), o_ 4 (.mov (.c (.b false)))] (k_ [h_ 5 3, g_ 6 .gtr 5 0, m_ 7 6, q_ 8 7 true (.fieldAddr (.t 2) 2 l_), q_ 9 7 true (.load false (some 2) l_ (.t 8)), q_ 10 7 true (.call (.f 50) [.t 9]), o_ 11 (.pick (.t 7) (.t 10) (.c (.b false))), m_ 12 11, q_ 13 12 true (.fieldAddr (.t 2) 3 l_), q_ 14 12 true (.load false (some 2) l_ (.t 13)), q_ 15 12 true (.bi .lenL [.t 14]), q_ 16 12 true (.call (.f 49) [.t 15]), o_ 17 (.pick (.t 12) (.t 16) (.c (.b false))), m_ 18 17, q_ 19 18 true (.fieldAddr (.t 2) 3 l_), q_ 20 18 true (.load false (some 2) l_ (.t 19)), q_ 21 18 true (.mkFn 232 [] [.t 3]), q_ 22 18 true (.call (.f 231) [.t 20, (.t 21)]), q_ 23 18 true (.un .not (.t 22)), o_ 24 (.pick (.t 18) (.t 23) (.c (.b false))), m_ 4 24] (.ret))), none, none⟩
def zQ : Fn := ⟨2, [.t 4], true, (k_ [o_ 4 (.mov (.c (.b false)))] (k_ [v_ 5 0, v_ 6 1, c_ 7 233 [.mv 5, .mv 6], g_ 8 .geq 7 0, m_ 4 8] (.ret))), none, none⟩
def qfy : Fn := ⟨1, [.t 2], true, (k_ [o_ 1 (.box true (.t 0)), o_ 2 (.mov (.c (.b false)))] (k_ [o_ 3 (.load false (some 1) (s_ 8) (.t 1)), c_ 4 58 [.t 3], u_ 5 4, m_ 2 5] (.ret))), none, none⟩
def yV : Fn := ⟨2, [.t 4], true, (k_ [o_ 4 (.mov (.c (.b false)))] (k_ [v_ 5 0, v_ 6 1, c_ 7 234 [.mv 5, .mv 6], g_ 8 .geq 7 0, m_ 4 8] (.ret))), none, none⟩
def j1 : C := (k_ [e_ 9 .lss 8 7] (.seq (.cond (.t 9) (.skip) (.exit 0)) (.seq (.block 1 [0, 1, 7, 8] (k_ [m_ 10 8, m_ 5 10] (k_ [m_ 11 1, m_ 12 0, m_ 13 5, x_ 14 12 13 1, h_ 15 14, o_ 16 (.call (.t 11) [.t 15])] (.cond (.t 16) (k_ [m_ 17 5, m_ 4 17] (.ret)) (.skip))))) (.ops [g_ 18 .add 8 1, m_ 8 18]))))
def jZ : C := .loop [0, 1, 7, 8] j1
def j2 : C := (k_ [o_ 4 (.mov (i_ (-1)))] (.ret))
def zH : Fn := ⟨2, [.t 4], true, (k_ [o_ 4 (.mov (i_ 0))] (.seq (k_ [m_ 6 0, n_ 7 6, o_ 8 (.mov (i_ 0))] (.block 0 [] (jZ))) (j2))), none, none⟩
def jr : C := (k_ [e_ 9 .lss 8 7] (.seq (.cond (.t 9) (.skip) (.exit 0)) (.seq (.block 1 [0, 1, 7, 8] (k_ [m_ 10 8, m_ 5 10] (k_ [m_ 11 1, m_ 12 0, m_ 13 5, x_ 14 12 13 10, o_ 15 (.load false none (s_ 10) (.t 14)), o_ 16 (.call (.t 11) [.t 15])] (.cond (.t 16) (k_ [m_ 17 5, m_ 4 17] (.ret)) (.skip))))) (.ops [g_ 18 .add 8 1, m_ 8 18]))))
def jt : C := .loop [0, 1, 7, 8] jr
def jq : C := (k_ [o_ 4 (.mov (i_ (-1)))] (.ret))
def kV : Fn := ⟨2, [.t 4], true, (k_ [o_ 4 (.mov (i_ 0))] (.seq (k_ [m_ 6 0, n_ 7 6, o_ 8 (.mov (i_ 0))] (.block 0 [] (jt))) (jq))), none, none⟩
def qdC : C := (k_ [e_ 10 .lss 9 8] (.seq (.cond (.t 10) (.skip) (.exit 0)) (.seq (.block 1 [3, 7, 8, 9] (k_ [x_ 11 7 9 8, o_ 12 (.load false none (s_ 8) (.t 11)), o_ 5 (.alloc true [(.i .i64 0), (.i .i64 0), (.i .i64 0), (.s []), .nil, (.i .i32 0), (.s []), .nil]), z_ (.store (some 5) (s_ 8) (.t 5) (.t 12))] (.ops [m_ 13 3, o_ 14 (.load false (some 5) (s_ 8) (.t 5)), c_ 15 134 [.t 14], o_ 16 (.bi .max [.t 13, (.t 15)]), m_ 3 16]))) (.ops [g_ 17 .add 9 1, m_ 9 17]))))
def qdF : C := .loop [3, 7, 8, 9] qdC
def qdL : C := (k_ [m_ 18 3, g_ 19 .add 18 1, m_ 2 19] (.ret))
def qcL : Fn := ⟨1, [.t 2], true, (k_ [o_ 1 (.box true (.t 0)), o_ 2 (.mov (i_ 0))] (k_ [o_ 3 (.mov (i_ 0))] (.seq (k_ [a_ 6 1 7, d_ 7 1 6, n_ 8 7, o_ 9 (.mov (i_ 0))] (.block 0 [3] (qdF))) (qdL)))), none, none⟩
def qaN : Fn := ⟨1, [.t 2], true, (k_ [o_ 1 (.box true (.t 0)), o_ 2 (.mov (.c (.b false)))] (k_ [a_ 3 1 6, d_ 4 1 3, o_ 5 (.bi .lenS [.t 4]), g_ 6 .leq 5 120, m_ 7 6, q_ 8 7 true (.fieldAddr (.t 1) 1 (s_ 4)), q_ 9 7 true (.load false (some 1) (s_ 4) (.t 8)), q_ 10 7 true (.call (.f 127) [.t 9, (i_ 8)]), o_ 11 (.pick (.t 7) (.t 10) (.c (.b false))), m_ 12 11, q_ 13 12 true (.fieldAddr (.t 1) 7 l_), q_ 14 12 true (.load false (some 1) l_ (.t 13)), q_ 15 12 true (.bi .lenL [.t 14]), q_ 16 12 true (.call (.f 49) [.t 15]), o_ 17 (.pick (.t 12) (.t 16) (.c (.b false))), m_ 18 17, q_ 19 18 true (.fieldAddr (.t 1) 7 l_), q_ 20 18 true (.load false (some 1) l_ (.t 19)), q_ 21 18 true (.call (.f 128) [.t 20, (.f 235)]), q_ 22 18 true (.un .not (.t 21)), o_ 23 (.pick (.t 18) (.t 22) (.c (.b false))), m_ 2 23] (.ret))), none, none⟩
def jI : C := (k_ [e_ 9 .lss 8 7] (.seq (.cond (.t 9) (.skip) (.exit 0)) (.seq (.block 1 [0, 1, 7, 8] (k_ [m_ 10 8, m_ 5 10] (k_ [m_ 11 1, m_ 12 0, m_ 13 5, x_ 14 12 13 4, o_ 15 (.load false none (s_ 4) (.t 14)), o_ 16 (.call (.t 11) [.t 15])] (.cond (.t 16) (k_ [m_ 17 5, m_ 4 17] (.ret)) (.skip))))) (.ops [g_ 18 .add 8 1, m_ 8 18]))))
def jL : C := .loop [0, 1, 7, 8] jI
def jG : C := (k_ [o_ 4 (.mov (i_ (-1)))] (.ret))
def zo : Fn := ⟨2, [.t 4], true, (k_ [o_ 4 (.mov (i_ 0))] (.seq (k_ [m_ 6 0, n_ 7 6, o_ 8 (.mov (i_ 0))] (.block 0 [] (jL))) (jG))), none, none⟩
def qau : C := (k_ [e_ 9 .lss 8 7] (.seq (.cond (.t 9) (.skip) (.exit 0)) (.seq (.block 1 [0, 1, 7, 8] (k_ [m_ 10 8, m_ 5 10] (k_ [m_ 11 1, m_ 12 0, m_ 13 5, x_ 14 12 13 10, o_ 15 (.load false none (s_ 10) (.t 14)), o_ 16 (.call (.t 11) [.t 15])] (.cond (.t 16) (k_ [m_ 17 5, m_ 4 17] (.ret)) (.skip))))) (.ops [g_ 18 .add 8 1, m_ 8 18]))))
def qas : C := .loop [0, 1, 7, 8] qau
def qan : C := (k_ [o_ 4 (.mov (i_ (-1)))] (.ret))
def jd : Fn := ⟨2, [.t 4], true, (k_ [o_ 4 (.mov (i_ 0))] (.seq (k_ [m_ 6 0, n_ 7 6, o_ 8 (.mov (i_ 0))] (.block 0 [] (qas))) (qan))), none, none⟩
def f_types_Right : Fn := ⟨1, [.t 2], true, (k_ [o_ 1 (.box true (.t 0)), o_ 2 (.mov (.c (.b false)))] (.seq (.block 0 [] (k_ [a_ 4 1 0, d_ 5 1 4, c_ 6 162 [.t 5], v_ 3 6] (.cond (.t 3) (k_ [a_ 7 1 1, d_ 8 1 7, g_ 9 .eql 8 0, m_ 10 9, q_ 11 10 true (.fieldAddr (.t 1) 2 l_), q_ 12 10 true (.load false (some 1) l_ (.t 11)), q_ 13 10 true (.bin .eql .num (.t 12) (.c (.s []))), o_ 14 (.pick (.t 10) (.t 13) (.c (.b false))), m_ 15 14, q_ 16 15 true (.fieldAddr (.t 1) 3 l_), q_ 17 15 true (.load false (some 1) l_ (.t 16)), q_ 18 15 true (.bi .lenL [.t 17]), q_ 19 15 true (.bin .eql .num (.t 18) (i_ 0)), o_ 20 (.pick (.t 15) (.t 19) (.c (.b false))), m_ 2 20] (.ret)) (k_ [a_ 22 1 0, d_ 23 1 22, g_ 24 .eql 23 7, m_ 21 24] (.cond (.t 21) (k_ [a_ 25 1 1, d_ 26 1 25, g_ 27 .geq 26 1, m_ 28 27, q_ 29 28 true (.fieldAddr (.t 1) 1 l_), q_ 30 28 true (.load false (some 1) l_ (.t 29)), q_ 31 28 true (.bin .leq .num (.t 30) (i_ 1024)), o_ 32 (.pick (.t 28) (.t 31) (.c (.b false))), m_ 33 32, q_ 34 33 true (.fieldAddr (.t 1) 2 l_), q_ 35 33 true (.load false (some 1) l_ (.t 34)), q_ 36 33 true (.bin .eql .num (.t 35) (.c (.s []))), o_ 37 (.pick (.t 33) (.t 36) (.c (.b false))), m_ 38 37, q_ 39 38 true (.fieldAddr (.t 1) 3 l_), q_ 40 38 true (.load false (some 1) l_ (.t 39)), q_ 41 38 true (.bi .lenL [.t 40]), q_ 42 38 true (.bin .eql .num (.t 41) (i_ 1)), o_ 43 (.pick (.t 38) (.t 42) (.c (.b false))), m_ 44 43, q_ 45 44 true (.fieldAddr (.t 1) 3 l_), q_ 46 44 true (.load false (some 1) l_ (.t 45)), q_ 47 44 true (.indexAddr (.t 46) (i_ 0) 4 none), q_ 48 44 true (.load false none (s_ 4) (.t 47)), q_ 49 44 true (.call (.f 147) [.t 48]), o_ 50 (.pick (.t 44) (.t 49) (.c (.b false))), m_ 2 50] (.ret)) (k_ [a_ 52 1 0, d_ 53 1 52, g_ 54 .eql 53 8, m_ 55 54, q_ 56 55 false (.fieldAddr (.t 1) 0 l_), q_ 57 55 false (.load false (some 1) l_ (.t 56)), q_ 58 55 false (.bin .eql .num (.t 57) (i_ 9)), o_ 59 (.pick (.t 55) (.c (.b true)) (.t 58)), m_ 51 59] (.cond (.t 51) (k_ [a_ 60 1 1, d_ 61 1 60, g_ 62 .eql 61 0, m_ 63 62, q_ 64 63 true (.fieldAddr (.t 1) 2 l_), q_ 65 63 true (.load false (some 1) l_ (.t 64)), q_ 66 63 true (.bin .neq .num (.t 65) (.c (.s []))), o_ 67 (.pick (.t 63) (.t 66) (.c (.b false))), m_ 68 67, q_ 69 68 true (.fieldAddr (.t 1) 3 l_), q_ 70 68 true (.load false (some 1) l_ (.t 69)), q_ 71 68 true (.bi .lenL [.t 70]), q_ 72 68 true (.bin .eql .num (.t 71) (i_ 0)), o_ 73 (.pick (.t 68) (.t 72) (.c (.b false))), m_ 2 73] (.ret)) (.skip)))))))) (k_ [o_ 2 (.mov (.c (.b false)))] (.ret)))), none, none⟩
def f_front_Env_Named : Fn := ⟨2, [.t 4], true, (k_ [o_ 2 (.box false (.t 0)), o_ 3 (.box true (.t 1)), o_ 4 (.mov (.c (.b false)))] (.seq (k_ [a_ 5 3 0, d_ 6 3 5] (.block 0 [] (k_ [g_ 8 .eql 6 7, m_ 7 8] (.cond (.t 7) (k_ [a_ 9 3 3, d_ 10 3 9, o_ 11 (.mkFn 241 [] [.t 2]), c_ 12 231 [.t 10, .t 11], u_ 13 12, m_ 4 13] (.ret)) (.seq (k_ [g_ 15 .eql 6 8, m_ 14 15] (.cond (.t 14) (.skip) (.ops [g_ 16 .eql 6 9, m_ 14 16]))) (.cond (.t 14) (.seq (.opsD [(h_ 17 2, false, []), (o_ 18 (.nilCheck (.t 17)), false, []), (a_ 19 18 2, false, []), (h_ 20 19, false, []), (a_ 21 3 2, false, []), (d_ 22 3 21, false, []), (o_ 23 (.lookup 2 (.b false) (.t 20) (.t 22) false), true, []), (m_ 4 23, true, [])]) (.ret)) (.skip))))))) (k_ [o_ 4 (.mov (.c (.b true)))] (.ret)))), none, none⟩
def f_types_Words : Fn := ⟨2, [.t 4, (.t 5)], false, (k_ [o_ 2 (.box true (.t 0)), o_ 4 (.mov (i_ 0)), o_ 5 (.mov (.c (.b false)))] (k_ [m_ 8 1, o_ 9 (.mkMap), o_ 10 (.build [.nm, .nm] [(0, 1, (.t 8)), (1, 1, (.t 9))]), o_ 11 (.box false (.t 10)), m_ 6 11] (k_ [v_ 12 6, o_ 13 (.load false (some 2) (s_ 4) (.t 2)), c_ 14 242 [.mv 12, .t 13], v_ 7 14] (k_ [m_ 15 7, o_ 16 (.bi .max [.t 15, (i_ 0)]), m_ 17 7, g_ 18 .geq 17 0, m_ 4 16, m_ 5 18] (.ret))))), none, none⟩
def f_types_Basic : Fn := ⟨1, [(.cell 2 (s_ 4))], true, (k_ [o_ 2 (.alloc true [(.i .i64 0), (.i .i64 0), (.s []), .nil])] (k_ [m_ 3 0, o_ 4 (.build [(.i .i64 0), (.i .i64 0), (.s []), .nil] [(0, 1, (.t 3))]), z_ (.store (some 2) (s_ 4) (.t 2) (.t 4))] (.ret))), none, none⟩
def f_recheck_bare : Fn := ⟨3, [.t 6], true, (k_ [o_ 3 (.box true (.t 0)), o_ 6 (.mov (.c (.b false)))] (k_ [m_ 7 1, m_ 8 7, q_ 9 8 false (.fieldAddr (.t 3) 5 l_), q_ 10 8 false (.load false (some 3) l_ (.t 9)), q_ 11 8 false (.bin .eql .num (.t 10) (.c (.i .i32 0))), o_ 12 (.pick (.t 8) (.c (.b true)) (.t 11)), m_ 13 12, q_ 14 13 true (.mov (.t 2)), q_ 15 13 true (.mov (.t 14)), q_ 16 15 false (.fieldAddr (.t 3) 6 l_), q_ 17 15 false (.load false (some 3) l_ (.t 16)), q_ 18 15 false (.bin .eql .num (.t 17) (.c (.s []))), q_ 19 13 true (.pick (.t 15) (.c (.b true)) (.t 18)), o_ 20 (.pick (.t 13) (.t 19) (.c (.b false))), m_ 6 20] (.ret))), none, none⟩
def f_recheck_checker_lit_B0 : C := (k_ [e_ 67 .lss 66 65] (.seq (.cond (.t 67) (.skip) (.exit 1)) (.seq (.block 2 [3, 65, 66] (k_ [m_ 68 66, m_ 5 68] (.ops [a_ 69 3 6, d_ 70 3 69, m_ 71 5, o_ 72 (.index (.t 70) (.t 71)), o_ 73 (.bin .geq .num (.t 72) (.c (.i .u8 32))), m_ 74 73, q_ 75 74 true (.fieldAddr (.t 3) 6 l_), q_ 76 74 true (.load false (some 3) l_ (.t 75)), q_ 77 74 true (.mov (.t 5)), q_ 78 74 true (.index (.t 76) (.t 77)), q_ 79 74 true (.bin .neq .num (.t 78) (.c (.i .u8 34))), o_ 80 (.pick (.t 74) (.t 79) (.c (.b false))), c_ 81 72 [.t 80]]))) (.ops [g_ 82 .add 66 1, m_ 66 82]))))
def f_recheck_checker_lit_L0 : C := .loop [3, 65, 66] f_recheck_checker_lit_B0
def f_recheck_checker_lit : Fn := ⟨2, [], false, (k_ [o_ 3 (.box true (.t 1))] (k_ [o_ 6 (.fieldAddr (.t 3) 1 (s_ 4)), a_ 7 6 0, d_ 8 3 7, m_ 4 8] (.seq (.seq (.opsD [(o_ 9 (.fieldAddr (.t 3) 1 (s_ 4)), false, []), (o_ 10 (.load false (some 3) (s_ 4) (.t 9)), false, []), (m_ 11 4, false, []), (c_ 12 150 [.t 11], true, []), (c_ 13 75 [.t 10, .t 12], true, []), (v_ 14 13, true, []), (q_ 15 14 true (.fieldAddr (.t 3) 7 l_), true, []), (q_ 16 14 true (.load false (some 3) l_ (.t 15)), true, []), (q_ 17 14 true (.bi .lenL [.t 16]), true, []), (q_ 18 14 true (.bin .eql .num (.t 17) (i_ 0)), true, []), (o_ 19 (.pick (.t 14) (.t 18) (.c (.b false))), true, []), (m_ 20 19, true, []), (q_ 21 20 true (.load false (some 3) (s_ 8) (.t 3)), false, []), (q_ 22 20 true (.mov (.t 4)), false, []), (q_ 23 20 true (.bin .neq .num (.t 22) (i_ 6)), false, []), (q_ 24 20 true (.mov (.t 23)), false, []), (q_ 25 24 true (.mov (.t 4)), false, []), (q_ 26 24 true (.bin .neq .num (.t 25) (i_ 5)), false, []), (q_ 27 20 true (.pick (.t 24) (.t 26) (.c (.b false))), false, []), (q_ 28 20 true (.mov (.t 4)), false, []), (q_ 29 20 true (.bin .eql .num (.t 28) (i_ 6)), false, []), (q_ 30 20 true (.call (.f 151) [.t 21, (.t 27), (.t 29)]), true, []), (o_ 31 (.pick (.t 20) (.t 30) (.c (.b false))), true, [])]) (.ops [c_ 32 72 [.t 31]])) (k_ [m_ 33 4] (.block 0 [] (.seq (k_ [g_ 36 .eql 33 1, m_ 35 36] (.cond (.t 35) (.skip) (k_ [g_ 37 .eql 33 4, m_ 35 37] (.cond (.t 35) (.skip) (.ops [g_ 38 .eql 33 5, m_ 35 38]))))) (.cond (.t 35) (.skip) (k_ [g_ 40 .eql 33 2, m_ 39 40] (.cond (.t 39) (.ops [a_ 41 3 5, d_ 42 3 41, o_ 43 (.bin .geq .num (.t 42) (.c (.i .i32 0))), m_ 44 43, q_ 45 44 true (.fieldAddr (.t 3) 5 l_), q_ 46 44 true (.load false (some 3) l_ (.t 45)), q_ 47 44 true (.bin .leq .num (.t 46) (.c (.i .i32 255))), o_ 48 (.pick (.t 44) (.t 47) (.c (.b false))), c_ 49 72 [.t 48]]) (k_ [g_ 51 .eql 33 3, m_ 50 51] (.cond (.t 50) (.ops [a_ 52 3 5, d_ 53 3 52, o_ 54 (.bin .eql .num (.t 53) (.c (.i .i32 0))), m_ 55 54, q_ 56 55 false (.fieldAddr (.t 3) 5 l_), q_ 57 55 false (.load false (some 3) l_ (.t 56)), q_ 58 55 false (.bin .eql .num (.t 57) (.c (.i .i32 1))), o_ 59 (.pick (.t 55) (.c (.b true)) (.t 58)), c_ 60 72 [.t 59]]) (k_ [g_ 62 .eql 33 6, m_ 61 62] (.cond (.t 61) (k_ [a_ 63 3 6, d_ 64 3 63, o_ 65 (.bi .lenS [.t 64]), o_ 66 (.mov (i_ 0))] (.block 1 [] (f_recheck_checker_lit_L0))) (.ops [o_ 34 (.call (.f 72) [(.c (.b false))])])))))))))))))), none, none⟩
def f_recheck_checker_name : Fn := ⟨2, [], false, (k_ [o_ 3 (.box true (.t 1))] (.seq (.opsD [(m_ 7 0, false, [4]), (o_ 8 (.nilCheck (.t 7)), false, [4]), (a_ 9 8 9, false, [4]), (h_ 10 9, false, [4]), (a_ 11 3 6, false, [4]), (d_ 12 3 11, false, [4]), (o_ 13 (.lookup 2 (.agg [(.i .i64 0), (.i .i64 0), (.s []), .nil]) (.t 10) (.t 12) true), false, [4]), (m_ 6 13, false, [4]), (r_ 14 6 0, false, [4]), (r_ 15 6 1, false, [4]), (o_ 4 (.alloc true [(.i .i64 0), (.i .i64 0), (.s []), .nil]), false, [4]), (z_ (.store (some 4) (s_ 4) (.t 4) (.t 14)), false, []), (m_ 5 15, true, [])]) (.seq (k_ [a_ 16 3 6, d_ 17 3 16, o_ 18 (.call (.f 244) [.t 17, (.c (.s [46]))])] (.cond (.t 18) (.opsD [(m_ 20 0, false, []), (o_ 21 (.nilCheck (.t 20)), false, []), (a_ 22 21 8, false, []), (h_ 23 22, false, []), (o_ 24 (.nilCheck (.t 23)), false, []), (a_ 25 24 3, false, []), (h_ 26 25, false, []), (a_ 27 3 6, false, []), (d_ 28 3 27, false, []), (o_ 29 (.lookup 2 (.agg [(.i .i64 0), (.i .i64 0), (.s []), .nil]) (.t 26) (.t 28) true), true, []), (m_ 19 29, true, []), (r_ 30 19 0, false, []), (r_ 31 19 1, false, []), (z_ (.store (some 4) (s_ 4) (.t 4) (.t 30)), false, []), (m_ 5 31, true, [])]) (.skip))) (k_ [v_ 32 5, c_ 33 65 [.mv 32]] (.ops [o_ 34 (.fieldAddr (.t 3) 1 (s_ 4)), o_ 35 (.load false (some 3) (s_ 4) (.t 34)), o_ 36 (.load false (some 4) (s_ 4) (.t 4)), c_ 37 75 [.t 35, .t 36], v_ 38 37, q_ 39 38 true (.fieldAddr (.t 3) 7 l_), q_ 40 38 true (.load false (some 3) l_ (.t 39)), q_ 41 38 true (.bi .lenL [.t 40]), q_ 42 38 true (.bin .eql .num (.t 41) (i_ 0)), o_ 43 (.pick (.t 38) (.t 42) (.c (.b false))), m_ 44 43, q_ 45 44 true (.load false (some 3) (s_ 8) (.t 3)), q_ 46 44 true (.call (.f 151) [.t 45, (.c (.b false)), (.c (.b true))]), o_ 47 (.pick (.t 44) (.t 46) (.c (.b false))), c_ 48 72 [.t 47]]))))), none, none⟩
def f_tree_SameExpr : Fn := ⟨2, [.t 4], true, (k_ [o_ 2 (.box true (.t 0)), o_ 3 (.box true (.t 1)), o_ 4 (.mov (.c (.b false)))] (k_ [a_ 5 2 0, d_ 6 2 5, a_ 7 3 0, d_ 8 3 7, e_ 9 .eql 6 8, m_ 10 9, q_ 11 10 true (.fieldAddr (.t 2) 1 (s_ 4)), q_ 12 10 true (.load false (some 2) (s_ 4) (.t 11)), q_ 13 10 true (.fieldAddr (.t 3) 1 (s_ 4)), q_ 14 10 true (.load false (some 3) (s_ 4) (.t 13)), q_ 15 10 true (.call (.f 252) [.t 12, (.t 14)]), o_ 16 (.pick (.t 10) (.t 15) (.c (.b false))), m_ 17 16, q_ 18 17 true (.fieldAddr (.t 2) 5 l_), q_ 19 17 true (.load false (some 2) l_ (.t 18)), q_ 20 17 true (.fieldAddr (.t 3) 5 l_), q_ 21 17 true (.load false (some 3) l_ (.t 20)), q_ 22 17 true (.bin .eql .num (.t 19) (.t 21)), o_ 23 (.pick (.t 17) (.t 22) (.c (.b false))), m_ 24 23, q_ 25 24 true (.fieldAddr (.t 2) 6 l_), q_ 26 24 true (.load false (some 2) l_ (.t 25)), q_ 27 24 true (.fieldAddr (.t 3) 6 l_), q_ 28 24 true (.load false (some 3) l_ (.t 27)), q_ 29 24 true (.bin .eql .num (.t 26) (.t 28)), o_ 30 (.pick (.t 24) (.t 29) (.c (.b false))), m_ 31 30, q_ 32 31 true (.fieldAddr (.t 2) 7 l_), q_ 33 31 true (.load false (some 2) l_ (.t 32)), q_ 34 31 true (.fieldAddr (.t 3) 7 l_), q_ 35 31 true (.load false (some 3) l_ (.t 34)), q_ 36 31 true (.call (.f 253) [.t 33, (.t 35), (.f 160)]), o_ 37 (.pick (.t 31) (.t 36) (.c (.b false))), m_ 4 37] (.ret))), none, none⟩
def f_types_plain : Fn := ⟨1, [.t 2], true, (k_ [o_ 2 (.mov (.c (.b false)))] (k_ [m_ 3 0, g_ 4 .geq 3 1, m_ 5 4, q_ 6 5 true (.mov (.t 0)), q_ 7 5 true (.bin .leq .num (.t 6) (i_ 4)), o_ 8 (.pick (.t 5) (.t 7) (.c (.b false))), m_ 2 8] (.ret))), none, none⟩
def f_recheck_checker_standard_B0 : C := (k_ [e_ 53 .lss 52 51] (.seq (.cond (.t 53) (.skip) (.exit 1)) (.seq (.block 2 [0, 3, 50, 51, 52] (k_ [x_ 54 50 52 8, o_ 55 (.load false none (s_ 8) (.t 54)), o_ 5 (.alloc true [(.i .i64 0), (.i .i64 0), (.i .i64 0), (.s []), .nil, (.i .i32 0), (.s []), .nil]), z_ (.store (some 5) (s_ 8) (.t 5) (.t 55))] (.ops [m_ 56 0, o_ 57 (.load false (some 5) (s_ 8) (.t 5)), c_ 58 71 [.t 56, .t 57]]))) (.ops [g_ 59 .add 52 1, m_ 52 59]))))
def f_recheck_checker_standard_L0 : C := .loop [0, 3, 50, 51, 52] f_recheck_checker_standard_B0
def f_recheck_checker_standard_R1 : C := (.seq (.opsD [(m_ 60 0, false, []), (o_ 61 (.nilCheck (.t 60)), false, []), (a_ 62 61 8, false, []), (h_ 63 62, false, []), (o_ 64 (.load false (some 3) (s_ 4) (.t 3)), false, []), (c_ 65 256 [.t 63, .t 64], true, [])]) (.ops [c_ 66 72 [.t 65]]))
def f_recheck_checker_standard : Fn := ⟨2, [], false, (k_ [o_ 3 (.box true (.t 1))] (k_ [a_ 6 3 0, d_ 7 3 6, g_ 8 .geq 7 7, m_ 9 8, q_ 10 9 true (.fieldAddr (.t 3) 0 l_), q_ 11 9 true (.load false (some 3) l_ (.t 10)), q_ 12 9 true (.bin .leq .num (.t 11) (i_ 17)), o_ 13 (.pick (.t 9) (.t 12) (.c (.b false))), m_ 14 13, q_ 15 14 true (.fieldAddr (.t 3) 2 l_), q_ 16 14 true (.load false (some 3) l_ (.t 15)), q_ 17 14 true (.bi .lenL [.t 16]), q_ 18 14 true (.bin .eql .num (.t 17) (i_ 0)), o_ 19 (.pick (.t 14) (.t 18) (.c (.b false))), m_ 20 19, q_ 21 20 true (.fieldAddr (.t 3) 3 l_), q_ 22 20 true (.load false (some 3) l_ (.t 21)), q_ 23 20 true (.bi .lenL [.t 22]), q_ 24 20 true (.bin .eql .num (.t 23) (i_ 0)), o_ 25 (.pick (.t 20) (.t 24) (.c (.b false))), c_ 26 72 [.t 25]] (.seq (.block 0 [0, 3] (k_ [a_ 28 3 0, d_ 29 3 28, g_ 30 .eql 29 13, m_ 27 30] (.cond (.t 27) (.ops [m_ 31 0, o_ 32 (.nilCheck (.t 31)), o_ 33 (.fieldAddr (.t 32) 0 (s_ 8)), a_ 34 33 1, h_ 35 34, o_ 36 (.call (.f 84) [.t 35, (.c (.s [73, 110]))]), c_ 37 65 [.t 36]]) (k_ [a_ 39 3 0, d_ 40 3 39, g_ 41 .gtr 40 13, m_ 38 41] (.cond (.t 38) (.ops [m_ 42 0, o_ 43 (.nilCheck (.t 42)), o_ 44 (.fieldAddr (.t 43) 0 (s_ 8)), a_ 45 44 1, h_ 46 45, o_ 47 (.call (.f 84) [.t 46, (.c (.s [79, 117, 116]))]), c_ 48 65 [.t 47]]) (.skip)))))) (.seq (k_ [a_ 49 3 1, d_ 50 3 49, n_ 51 50, o_ 52 (.mov (i_ 0))] (.block 1 [0, 3] (f_recheck_checker_standard_L0))) (f_recheck_checker_standard_R1))))), none, none⟩
def f_waferref11_Basic : Fn := ⟨1, [(.cell 2 (s_ 4))], true, (k_ [o_ 2 (.alloc true [(.i .i64 0), (.i .i64 0), (.s []), .nil])] (k_ [m_ 3 0, o_ 4 (.build [(.i .i64 0), (.i .i64 0), (.s []), .nil] [(0, 1, (.t 3))]), z_ (.store (some 2) (s_ 4) (.t 2) (.t 4))] (.ret))), none, none⟩
def je : C := (.seq (.seq (.opsD [(m_ 8 0, false, []), (o_ 9 (.nilCheck (.t 8)), false, []), (a_ 10 9 1, false, []), (h_ 11 10, false, []), (m_ 12 0, false, []), (o_ 13 (.nilCheck (.t 12)), false, []), (a_ 14 13 0, false, []), (h_ 15 14, false, []), (o_ 16 (.bi .lenS [.t 15]), false, []), (e_ 17 .lss 11 16, true, [])]) (.cond (.t 17) (.skip) (.exit 0))) (.block 1 [0, 2, 3] (.block 2 [0, 2, 3] (k_ [m_ 19 0, o_ 20 (.call (.f 178) [.t 19, (.c (.s [40, 42]))]), v_ 18 20] (.cond (.t 18) (.seq (k_ [m_ 21 3, g_ 22 .eql 21 0] (.cond (.t 22) (.ops [m_ 23 0, o_ 24 (.nilCheck (.t 23)), a_ 25 24 1, h_ 26 25, m_ 2 26]) (.skip))) (k_ [m_ 27 3, g_ 28 .add 27 1, m_ 3 28] (.ops [m_ 29 0, o_ 30 (.nilCheck (.t 29)), a_ 31 30 1, h_ 32 31, g_ 33 .add 32 2, o_ 34 (.nilCheck (.t 29)), a_ 35 34 1, z_ (.store none l_ (.t 35) (.t 33))]))) (k_ [m_ 37 3, g_ 38 .gtr 37 0, m_ 39 38, q_ 40 39 true (.mov (.t 0)), q_ 41 39 true (.call (.f 178) [.t 40, (.c (.s [42, 41]))]), o_ 42 (.pick (.t 39) (.t 41) (.c (.b false))), m_ 36 42] (.cond (.t 36) (k_ [m_ 43 3, g_ 44 .sub 43 1, m_ 3 44] (.ops [m_ 45 0, o_ 46 (.nilCheck (.t 45)), a_ 47 46 1, h_ 48 47, g_ 49 .add 48 2, o_ 50 (.nilCheck (.t 45)), a_ 51 50 1, z_ (.store none l_ (.t 51) (.t 49))])) (.seq (.opsD [(m_ 53 3, true, []), (g_ 54 .gtr 53 0, true, []), (m_ 55 54, true, []), (q_ 56 55 false (.mov (.t 0)), false, []), (q_ 57 55 false (.nilCheck (.t 56)), false, []), (q_ 58 55 false (.fieldAddr (.t 57) 0 l_), false, []), (q_ 59 55 false (.load false none l_ (.t 58)), false, []), (q_ 60 55 false (.mov (.t 0)), false, []), (q_ 61 55 false (.nilCheck (.t 60)), false, []), (q_ 62 55 false (.fieldAddr (.t 61) 1 l_), false, []), (q_ 63 55 false (.load false none l_ (.t 62)), false, []), (q_ 64 55 false (.index (.t 59) (.t 63)), true, []), (q_ 65 55 false (.call (.f 257) [(.c (.s [9, 10, 13, 32])), (.t 64)]), true, []), (q_ 66 55 false (.bin .geq .num (.t 65) (i_ 0)), true, []), (o_ 67 (.pick (.t 55) (.c (.b true)) (.t 66)), true, []), (m_ 52 67, true, [])]) (.cond (.t 52) (.ops [m_ 68 0, o_ 69 (.nilCheck (.t 68)), a_ 70 69 1, h_ 71 70, g_ 72 .add 71 1, o_ 73 (.nilCheck (.t 68)), a_ 74 73 1, z_ (.store none l_ (.t 74) (.t 72))]) (.ret))))))))))
def qav : C := .loop [0, 2, 3] je
noncomputable def yw (pg : Pg) (v0 v2 v3 : V) (H : List Obj) (lo : Nat) : Option (Ex × St) := exL pg qav ⟨[(0, v0), (2, v2), (3, v3)], H, lo⟩
theorem jV {pg : Pg} {e : Env} {H : List Obj} {lo : Nat} : exL pg qav ⟨e, H, lo⟩ = yw pg (zz (get 0 e)) (zz (get 2 e)) (zz (get 3 e)) H lo := qf4
theorem yQ {pg : Pg} {v0 v2 v3 : V} {H : List Obj} {lo : Nat} : yw pg v0 v2 v3 H lo = qcp pg (exL pg je ⟨[(0, zz v0), (2, zz v2), (3, zz v3)], H, lo⟩) qav := by
  unfold yw qav; rw [jy]; simp only [qo, qp, qE, qH, Nat.reduceEqDiff]
def yy : C := (k_ [m_ 75 3, g_ 76 .gtr 75 0] (.cond (.t 76) (.ops [v_ 77 2, c_ 78 258 [.mv 77, (i_ 30)]]) (.skip)))
def qbi : Fn := ⟨1, [], false, (k_ [m_ 4 0, o_ 5 (.nilCheck (.t 4)), a_ 6 5 1, h_ 7 6, m_ 2 7, o_ 3 (.mov (i_ 0))] (.seq (.block 0 [2, 3] (qav)) (yy))), none, none⟩
def qeQ : Fn := ⟨1, [.t 2], true, (k_ [o_ 2 (.mov (.c (.b false)))] (k_ [m_ 3 0, o_ 4 (.bin .geq .num (.t 3) (.c (.i .u8 97))), m_ 5 4, q_ 6 5 true (.mov (.t 0)), q_ 7 5 true (.bin .leq .num (.t 6) (.c (.i .u8 122))), o_ 8 (.pick (.t 5) (.t 7) (.c (.b false))), m_ 9 8, q_ 10 9 false (.mov (.t 0)), q_ 11 9 false (.bin .geq .num (.t 10) (.c (.i .u8 65))), q_ 12 9 false (.mov (.t 11)), q_ 13 12 true (.mov (.t 0)), q_ 14 12 true (.bin .leq .num (.t 13) (.c (.i .u8 90))), q_ 15 9 false (.pick (.t 12) (.t 14) (.c (.b false))), o_ 16 (.pick (.t 9) (.c (.b true)) (.t 15)), m_ 2 16] (.ret))), none, none⟩
def qax : Fn := ⟨1, [(.cell 2 (s_ 5))], true, (k_ [o_ 2 (.alloc true [(.i .i64 0), (.i .i64 0), (.i .i64 0), (.s []), (.i .i32 0)])] (k_ [m_ 5 0, o_ 6 (.nilCheck (.t 5)), a_ 7 6 1, h_ 8 7, m_ 3 8] (k_ [v_ 9 0, c_ 10 259 [.mv 9, .f 260], v_ 4 10] (.seq (.block 0 [2, 4] (k_ [m_ 12 4, o_ 13 (.bi .lenS [.t 12]), g_ 14 .gtr 13 32, m_ 11 14] (.cond (.t 11) (.ops [v_ 15 3, c_ 16 258 [.mv 15, (i_ 34)]]) (k_ [c_ 18 261 [], m_ 19 4, c_ 20 84 [.t 18, .t 19], v_ 17 20] (.cond (.t 17) (k_ [m_ 21 4, o_ 22 (.build [(.i .i64 0), (.i .i64 0), (.i .i64 0), (.s []), (.i .i32 0)] [(0, 1, (i_ 6)), (3, 1, (.t 21))]), z_ (.store (some 2) (s_ 5) (.t 2) (.t 22))] (.ret)) (.skip)))))) (k_ [m_ 23 4, o_ 24 (.build [(.i .i64 0), (.i .i64 0), (.i .i64 0), (.s []), (.i .i32 0)] [(0, 1, (i_ 1)), (3, 1, (.t 23))]), z_ (.store (some 2) (s_ 5) (.t 2) (.t 24))] (.ret)))))), none, none⟩
def qfk : Fn := ⟨1, [.t 2], true, (k_ [o_ 2 (.mov (.c (.b false)))] (k_ [m_ 3 0, o_ 4 (.bin .geq .num (.t 3) (.c (.i .u8 48))), m_ 5 4, q_ 6 5 true (.mov (.t 0)), q_ 7 5 true (.bin .leq .num (.t 6) (.c (.i .u8 57))), o_ 8 (.pick (.t 5) (.t 7) (.c (.b false))), m_ 2 8] (.ret))), none, none⟩
def jK : Fn := ⟨1, [(.cell 2 (s_ 5))], true, (k_ [o_ 2 (.alloc true [(.i .i64 0), (.i .i64 0), (.i .i64 0), (.s []), (.i .i32 0)])] (k_ [m_ 10 0, o_ 11 (.nilCheck (.t 10)), a_ 12 11 1, h_ 13 12, m_ 3 13] (k_ [m_ 14 0, c_ 15 259 [.t 14, .f 262], v_ 4 15] (k_ [o_ 5 (.mov (i_ 2)), o_ 6 (.mov (i_ 10)), o_ 7 (.mov (i_ 31))] (.seq (.block 0 [2, 3, 4, 5, 6, 7] (k_ [m_ 17 0, o_ 18 (.call (.f 178) [.t 17, (.c (.s [72]))]), v_ 16 18] (.cond (.t 16) (k_ [o_ 6 (.mov (i_ 16)), o_ 7 (.mov (i_ 32))] (.ops [m_ 19 0, o_ 20 (.nilCheck (.t 19)), a_ 21 20 1, h_ 22 21, g_ 23 .add 22 1, o_ 24 (.nilCheck (.t 19)), a_ 25 24 1, z_ (.store none l_ (.t 25) (.t 23))])) (k_ [m_ 27 0, o_ 28 (.call (.f 178) [.t 27, (.c (.s [88]))]), v_ 26 28] (.cond (.t 26) (k_ [o_ 5 (.mov (i_ 3)), o_ 6 (.mov (i_ 16)), o_ 7 (.mov (i_ 8))] (.ops [m_ 29 0, o_ 30 (.nilCheck (.t 29)), a_ 31 30 1, h_ 32 31, g_ 33 .add 32 1, o_ 34 (.nilCheck (.t 29)), a_ 35 34 1, z_ (.store none l_ (.t 35) (.t 33))])) (.skip)))))) (k_ [v_ 37 4, v_ 38 6, v_ 39 7, c_ 40 263 [.mv 37, .mv 38, .mv 39], m_ 36 40, r_ 41 36 0, r_ 42 36 1, m_ 8 41, m_ 9 42] (.seq (k_ [m_ 43 9, o_ 44 (.bin .neq .iface (.t 43) (.c .ni))] (.cond (.t 44) (.ops [v_ 45 3, c_ 46 258 [.mv 45, (i_ 30)]]) (.skip))) (k_ [m_ 47 5, m_ 48 8, o_ 49 (.conv .u32 (.t 48)), o_ 50 (.conv .i32 (.t 49)), o_ 51 (.build [(.i .i64 0), (.i .i64 0), (.i .i64 0), (.s []), (.i .i32 0)] [(0, 1, (.t 47)), (4, 1, (.t 50))]), z_ (.store (some 2) (s_ 5) (.t 2) (.t 51))] (.ret))))))))), none, none⟩
def qcM : Fn := ⟨2, [.t 4], true, (k_ [o_ 4 (.mov (.c (.b false)))] (.seq (.opsD [(m_ 5 0, false, []), (o_ 6 (.nilCheck (.t 5)), false, []), (a_ 7 6 0, false, []), (h_ 8 7, false, []), (m_ 9 0, false, []), (o_ 10 (.nilCheck (.t 9)), false, []), (a_ 11 10 1, false, []), (h_ 12 11, false, []), (o_ 13 (.sliceS (.t 8) (some (.t 12)) none), false, []), (v_ 14 1, false, []), (c_ 15 255 [.t 13, .mv 14], true, []), (v_ 4 15, true, [])]) (.ret))), none, none⟩
def qaw : Fn := ⟨1, [(.cell 2 (s_ 5))], true, (k_ [o_ 2 (.alloc true [(.i .i64 0), (.i .i64 0), (.i .i64 0), (.s []), (.i .i32 0)])] (k_ [m_ 5 0, o_ 6 (.nilCheck (.t 5)), a_ 7 6 1, h_ 8 7, m_ 3 8] (k_ [m_ 9 0, o_ 10 (.nilCheck (.t 9)), a_ 11 10 1, h_ 12 11, g_ 13 .add 12 1, o_ 14 (.nilCheck (.t 9)), a_ 15 14 1, z_ (.store none l_ (.t 15) (.t 13))] (k_ [m_ 16 0, c_ 17 259 [.t 16, .f 264], v_ 4 17] (.seq (.block 0 [0, 2, 4] (k_ [m_ 19 0, o_ 20 (.call (.f 178) [.t 19, (.c (.s [34]))]), u_ 21 20, m_ 18 21] (.cond (.t 18) (.ops [v_ 22 3, c_ 23 258 [.mv 22, (i_ 30)]]) (k_ [m_ 25 4, o_ 26 (.bi .lenS [.t 25]), g_ 27 .gtr 26 120, m_ 24 27] (.cond (.t 24) (.ops [v_ 28 3, c_ 29 258 [.mv 28, (i_ 34)]]) (.skip)))))) (k_ [m_ 30 0, o_ 31 (.nilCheck (.t 30)), a_ 32 31 1, h_ 33 32, g_ 34 .add 33 1, o_ 35 (.nilCheck (.t 30)), a_ 36 35 1, z_ (.store none l_ (.t 36) (.t 34))] (k_ [m_ 37 4, o_ 38 (.build [(.i .i64 0), (.i .i64 0), (.i .i64 0), (.s []), (.i .i32 0)] [(0, 1, (i_ 4)), (3, 1, (.t 37))]), z_ (.store (some 2) (s_ 5) (.t 2) (.t 38))] (.ret)))))))), none, none⟩
def jY : C := (k_ [e_ 8 .lss 7 6] (.seq (.cond (.t 8) (.skip) (.exit 0)) (.seq (.block 1 [0, 2, 5, 6, 7] (k_ [x_ 9 5 7 1, o_ 10 (.loadC l_ (.t 9)), m_ 4 10] (k_ [m_ 11 0, m_ 12 4, c_ 13 178 [.t 11, .t 12]] (.cond (.t 13) (k_ [m_ 14 0, o_ 15 (.nilCheck (.t 14)), a_ 16 15 1, h_ 17 16, m_ 18 4, o_ 19 (.bi .lenS [.t 18]), e_ 20 .add 17 19, o_ 21 (.nilCheck (.t 14)), a_ 22 21 1, z_ (.store none l_ (.t 22) (.t 20))] (k_ [m_ 23 4, o_ 24 (.build [(.i .i64 0), (.i .i64 0), (.i .i64 0), (.s []), (.i .i32 0)] [(0, 1, (i_ 5)), (3, 1, (.t 23))]), z_ (.store (some 2) (s_ 5) (.t 2) (.t 24))] (.ret))) (.skip))))) (.ops [g_ 25 .add 7 1, m_ 7 25]))))
def qai : C := .loop [0, 2, 5, 6, 7] jY
noncomputable def qcK (pg : Pg) (v0 v2 v5 v6 v7 : V) (H : List Obj) (lo : Nat) : Option (Ex × St) := exL pg qai ⟨[(0, v0), (2, v2), (5, v5), (6, v6), (7, v7)], H, lo⟩
theorem yq {pg : Pg} {e : Env} {H : List Obj} {lo : Nat} : exL pg qai ⟨e, H, lo⟩ = qcK pg (zz (get 0 e)) (zz (get 2 e)) (zz (get 5 e)) (zz (get 6 e)) (zz (get 7 e)) H lo := qf4
theorem yp {pg : Pg} {v0 v2 v5 v6 v7 : V} {H : List Obj} {lo : Nat} : qcK pg v0 v2 v5 v6 v7 H lo = qcp pg (exL pg jY ⟨[(0, zz v0), (2, zz v2), (5, zz v5), (6, zz v6), (7, zz v7)], H, lo⟩) qai := by
  unfold qcK qai; rw [jy]; simp only [qo, qp, qE, qH, Nat.reduceEqDiff]
def qcX : C := (.seq (.seq (.opsD [(m_ 26 0, false, []), (o_ 27 (.nilCheck (.t 26)), false, []), (a_ 28 27 0, false, []), (h_ 29 28, false, []), (m_ 30 0, false, []), (o_ 31 (.nilCheck (.t 30)), false, []), (a_ 32 31 1, false, []), (h_ 33 32, false, []), (o_ 34 (.index (.t 29) (.t 33)), true, []), (o_ 35 (.call (.f 257) [(.c (.s [43, 45, 42, 47, 38, 126, 61, 35, 60, 62, 46, 44, 59, 58, 40, 41, 91, 93, 123, 125, 94, 124])), (.t 34)]), true, []), (g_ 36 .lss 35 0, true, [])]) (.cond (.t 36) (.ops [m_ 37 0, o_ 38 (.nilCheck (.t 37)), a_ 39 38 1, h_ 40 39, c_ 41 258 [.t 40, (i_ 30)]]) (.skip))) (k_ [m_ 42 0, o_ 43 (.nilCheck (.t 42)), a_ 44 43 1, h_ 45 44, g_ 46 .add 45 1, o_ 47 (.nilCheck (.t 42)), a_ 48 47 1, z_ (.store none l_ (.t 48) (.t 46))] (.seq (.opsD [(m_ 49 0, false, []), (o_ 50 (.nilCheck (.t 49)), false, []), (a_ 51 50 0, false, []), (h_ 52 51, false, []), (m_ 53 0, false, []), (o_ 54 (.nilCheck (.t 53)), false, []), (a_ 55 54 1, false, []), (h_ 56 55, false, []), (g_ 57 .sub 56 1, false, []), (m_ 58 0, false, []), (o_ 59 (.nilCheck (.t 58)), false, []), (a_ 60 59 1, false, []), (h_ 61 60, false, []), (o_ 62 (.sliceS (.t 52) (some (.t 57)) (some (.t 61))), true, []), (o_ 63 (.build [(.i .i64 0), (.i .i64 0), (.i .i64 0), (.s []), (.i .i32 0)] [(0, 1, (i_ 5)), (3, 1, (.t 62))]), true, []), (z_ (.store (some 2) (s_ 5) (.t 2) (.t 63)), true, [])]) (.ret))))
def yc : Fn := ⟨1, [(.cell 2 (s_ 5))], true, (k_ [o_ 2 (.alloc true [(.i .i64 0), (.i .i64 0), (.i .i64 0), (.s []), (.i .i32 0)])] (.seq (k_ [o_ 5 (.buildSlice (.s []) 4 [(0, (.c (.s [60, 61]))), (1, (.c (.s [62, 61]))), (2, (.c (.s [58, 61]))), (3, (.c (.s [46, 46])))]), n_ 6 5, o_ 7 (.mov (i_ 0))] (.block 0 [0, 2] (qai))) (qcX))), none, none⟩
def f_slices_Index___string_string__B0 : C := (k_ [e_ 9 .lss 8 7] (.seq (.cond (.t 9) (.skip) (.exit 0)) (.seq (.block 1 [0, 1, 7, 8] (k_ [m_ 10 8, m_ 5 10] (k_ [m_ 11 1, m_ 12 0, m_ 13 5, x_ 14 12 13 1, h_ 15 14, e_ 16 .eql 11 15] (.cond (.t 16) (k_ [m_ 17 5, m_ 4 17] (.ret)) (.skip))))) (.ops [g_ 18 .add 8 1, m_ 8 18]))))
def f_slices_Index___string_string__L0 : C := .loop [0, 1, 7, 8] f_slices_Index___string_string__B0
noncomputable def yx (pg : Pg) (v0 v1 v7 v8 : V) (H : List Obj) (lo : Nat) : Option (Ex × St) := exL pg f_slices_Index___string_string__L0 ⟨[(0, v0), (1, v1), (7, v7), (8, v8)], H, lo⟩
theorem qbg {pg : Pg} {e : Env} {H : List Obj} {lo : Nat} : exL pg f_slices_Index___string_string__L0 ⟨e, H, lo⟩ = yx pg (zz (get 0 e)) (zz (get 1 e)) (zz (get 7 e)) (zz (get 8 e)) H lo := qf4
theorem qbc {pg : Pg} {v0 v1 v7 v8 : V} {H : List Obj} {lo : Nat} : yx pg v0 v1 v7 v8 H lo = qcp pg (exL pg f_slices_Index___string_string__B0 ⟨[(0, zz v0), (1, zz v1), (7, zz v7), (8, zz v8)], H, lo⟩) f_slices_Index___string_string__L0 := by
  unfold yx f_slices_Index___string_string__L0; rw [jy]; simp only [qo, qp, qE, qH, Nat.reduceEqDiff]
def f_slices_Index___string_string__R1 : C := (k_ [o_ 4 (.mov (i_ (-1)))] (.ret))
def f_slices_Index___string_string_ : Fn := ⟨2, [.t 4], true, (k_ [o_ 4 (.mov (i_ 0))] (.seq (k_ [m_ 6 0, n_ 7 6, o_ 8 (.mov (i_ 0))] (.block 0 [] (f_slices_Index___string_string__L0))) (f_slices_Index___string_string__R1))), none, none⟩
def zN : C := (.seq (k_ [m_ 21 5, a_ 22 2 3, d_ 23 2 22, n_ 24 23, e_ 25 .lss 21 24] (.cond (.t 25) (.skip) (.exit 0))) (.seq (.block 1 [1, 2, 5] (k_ [a_ 28 2 3, d_ 29 2 28, m_ 30 5, x_ 31 29 30 4, o_ 32 (.load false none (s_ 4) (.t 31)), m_ 33 1, g_ 34 .sub 33 1, c_ 35 184 [.t 32, .t 34], u_ 36 35] (.cond (.t 36) (k_ [o_ 4 (.mov (.c (.b false)))] (.ret)) (.skip)))) (.ops [m_ 26 5, g_ 27 .add 26 1, m_ 5 27])))
def zt : C := .loop [1, 2, 5] zN
def jv : C := (k_ [o_ 4 (.mov (.c (.b true)))] (.ret))
def jf : Fn := ⟨2, [.t 4], true, (k_ [o_ 2 (.box true (.t 0)), o_ 4 (.mov (.c (.b false)))] (.seq (k_ [m_ 6 1, g_ 7 .lss 6 1, m_ 8 7, q_ 9 8 false (.fieldAddr (.t 2) 2 l_), q_ 10 8 false (.load false (some 2) l_ (.t 9)), q_ 11 8 false (.bi .lenS [.t 10]), q_ 12 8 false (.bin .gtr .num (.t 11) (i_ 65)), o_ 13 (.pick (.t 8) (.c (.b true)) (.t 12)), m_ 14 13, q_ 15 14 false (.fieldAddr (.t 2) 3 l_), q_ 16 14 false (.load false (some 2) l_ (.t 15)), q_ 17 14 false (.bi .lenL [.t 16]), q_ 18 14 false (.call (.f 87) [.t 17]), q_ 19 14 false (.un .not (.t 18)), o_ 20 (.pick (.t 14) (.c (.b true)) (.t 19))] (.cond (.t 20) (k_ [o_ 4 (.mov (.c (.b false)))] (.ret)) (.skip))) (.seq (k_ [o_ 5 (.mov (i_ 0))] (.block 0 [] (zt))) (jv)))), none, none⟩
def qbZ : C := (.seq (k_ [m_ 5 4, a_ 6 1 7, d_ 7 1 6, n_ 8 7, e_ 9 .lss 5 8] (.cond (.t 9) (.skip) (.exit 0))) (.seq (.block 1 [1, 3, 4] (.ops [m_ 12 3, a_ 13 1 7, d_ 14 1 13, m_ 15 4, x_ 16 14 15 8, o_ 17 (.load false none (s_ 8) (.t 16)), c_ 18 185 [.t 17], o_ 19 (.bi .max [.t 12, (.t 18)]), m_ 3 19])) (.ops [m_ 10 4, g_ 11 .add 10 1, m_ 4 11])))
def qbV : C := .loop [1, 3, 4] qbZ
def qbT : C := (k_ [m_ 20 3, g_ 21 .add 20 1, m_ 2 21] (.ret))
def y2 : Fn := ⟨1, [.t 2], true, (k_ [o_ 1 (.box true (.t 0)), o_ 2 (.mov (i_ 0))] (k_ [o_ 3 (.mov (i_ 0))] (.seq (k_ [o_ 4 (.mov (i_ 0))] (.block 0 [3] (qbV))) (qbT)))), none, none⟩
def qaJ : C := (.seq (k_ [m_ 21 3, a_ 22 1 7, d_ 23 1 22, n_ 24 23, e_ 25 .lss 21 24] (.cond (.t 25) (.skip) (.exit 0))) (.seq (.block 1 [1, 3] (k_ [a_ 28 1 7, d_ 29 1 28, m_ 30 3, x_ 31 29 30 8, o_ 32 (.load false none (s_ 8) (.t 31)), c_ 33 186 [.t 32], u_ 34 33] (.cond (.t 34) (k_ [o_ 2 (.mov (.c (.b false)))] (.ret)) (.skip)))) (.ops [m_ 26 3, g_ 27 .add 26 1, m_ 3 27])))
def qaH : C := .loop [1, 3] qaJ
def qaG : C := (k_ [o_ 2 (.mov (.c (.b true)))] (.ret))
def yz : Fn := ⟨1, [.t 2], true, (k_ [o_ 1 (.box true (.t 0)), o_ 2 (.mov (.c (.b false)))] (.seq (k_ [a_ 4 1 6, d_ 5 1 4, o_ 6 (.bi .lenS [.t 5]), g_ 7 .gtr 6 120, m_ 8 7, q_ 9 8 false (.fieldAddr (.t 1) 7 l_), q_ 10 8 false (.load false (some 1) l_ (.t 9)), q_ 11 8 false (.bi .lenL [.t 10]), q_ 12 8 false (.call (.f 87) [.t 11]), q_ 13 8 false (.un .not (.t 12)), o_ 14 (.pick (.t 8) (.c (.b true)) (.t 13)), m_ 15 14, q_ 16 15 false (.fieldAddr (.t 1) 1 (s_ 4)), q_ 17 15 false (.load false (some 1) (s_ 4) (.t 16)), q_ 18 15 false (.call (.f 184) [.t 17, (i_ 8)]), q_ 19 15 false (.un .not (.t 18)), o_ 20 (.pick (.t 15) (.c (.b true)) (.t 19))] (.cond (.t 20) (k_ [o_ 2 (.mov (.c (.b false)))] (.ret)) (.skip))) (.seq (k_ [o_ 3 (.mov (i_ 0))] (.block 0 [] (qaH))) (qaG)))), none, none⟩
def f_waferref17_basic : Fn := ⟨1, [(.cell 2 (s_ 4))], true, (k_ [o_ 2 (.alloc true [(.i .i64 0), (.i .i64 0), (.s []), .nil])] (k_ [v_ 3 0, c_ 4 172 [.mv 3], z_ (.store (some 2) (s_ 4) (.t 2) (.mv 4))] (.ret))), none, none⟩
def jF : C := (k_ [e_ 9 .lss 8 7] (.seq (.cond (.t 9) (.skip) (.exit 0)) (.seq (.block 1 [0, 1, 7, 8] (k_ [m_ 10 8, m_ 5 10] (k_ [m_ 11 1, m_ 12 0, m_ 13 5, x_ 14 12 13 6, o_ 15 (.load false none (s_ 6) (.t 14)), o_ 16 (.call (.t 11) [.t 15])] (.cond (.t 16) (k_ [m_ 17 5, m_ 4 17] (.ret)) (.skip))))) (.ops [g_ 18 .add 8 1, m_ 8 18]))))
def jJ : C := .loop [0, 1, 7, 8] jF
def jH : C := (k_ [o_ 4 (.mov (i_ (-1)))] (.ret))
def zp : Fn := ⟨2, [.t 4], true, (k_ [o_ 4 (.mov (i_ 0))] (.seq (k_ [m_ 6 0, n_ 7 6, o_ 8 (.mov (i_ 0))] (.block 0 [] (jJ))) (jH))), none, none⟩
def f_slices_ContainsFunc___api_Type_api_Type_ : Fn := ⟨2, [.t 4], true, (k_ [o_ 4 (.mov (.c (.b false)))] (k_ [v_ 5 0, v_ 6 1, c_ 7 292 [.mv 5, .mv 6], g_ 8 .geq 7 0, m_ 4 8] (.ret))), none, none⟩
def qbE : Fn := ⟨2, [.t 3], true, (k_ [o_ 2 (.box true (.t 0)), o_ 3 (.mov (.c (.b false)))] (k_ [o_ 4 (.load false (some 2) (s_ 4) (.t 2)), h_ 5 1, g_ 6 .sub 5 1, c_ 7 127 [.t 4, .t 6], u_ 8 7, m_ 3 8] (.ret))), none, none⟩
def qaq : C := (k_ [e_ 9 .lss 8 7] (.seq (.cond (.t 9) (.skip) (.exit 0)) (.seq (.block 1 [0, 1, 7, 8] (k_ [m_ 10 8, m_ 5 10] (k_ [m_ 11 1, m_ 12 0, m_ 13 5, x_ 14 12 13 8, o_ 15 (.load false none (s_ 8) (.t 14)), o_ 16 (.call (.t 11) [.t 15])] (.cond (.t 16) (k_ [m_ 17 5, m_ 4 17] (.ret)) (.skip))))) (.ops [g_ 18 .add 8 1, m_ 8 18]))))
def qae : C := .loop [0, 1, 7, 8] qaq
def qag : C := (k_ [o_ 4 (.mov (i_ (-1)))] (.ret))
def jb : Fn := ⟨2, [.t 4], true, (k_ [o_ 4 (.mov (i_ 0))] (.seq (k_ [m_ 6 0, n_ 7 6, o_ 8 (.mov (i_ 0))] (.block 0 [] (qae))) (qag))), none, none⟩
def qck : C := (k_ [e_ 9 .lss 8 7] (.seq (.cond (.t 9) (.skip) (.exit 0)) (.seq (.block 1 [0, 1, 7, 8] (k_ [m_ 10 8, m_ 5 10] (k_ [m_ 11 1, m_ 12 0, m_ 13 5, x_ 14 12 13 1, h_ 15 14, o_ 16 (.call (.t 11) [.t 15])] (.cond (.t 16) (k_ [m_ 17 5, m_ 4 17] (.ret)) (.skip))))) (.ops [g_ 18 .add 8 1, m_ 8 18]))))
def qco : C := .loop [0, 1, 7, 8] qck
def qcl : C := (k_ [o_ 4 (.mov (i_ (-1)))] (.ret))
def qaa : Fn := ⟨2, [.t 4], true, (k_ [o_ 4 (.mov (i_ 0))] (.seq (k_ [m_ 6 0, n_ 7 6, o_ 8 (.mov (i_ 0))] (.block 0 [] (qco))) (qcl))), none, none⟩
def f_types_sizes_words : Fn := ⟨2, [.t 4], true, (k_ [o_ 3 (.box true (.t 1)), o_ 4 (.mov (i_ 0))] (.seq (.block 0 [] (k_ [o_ 7 (.load false (some 3) (s_ 4) (.t 3)), c_ 8 147 [.t 7], u_ 9 8, m_ 6 9] (.cond (.t 6) (k_ [o_ 4 (.mov (i_ (-1)))] (.ret)) (k_ [a_ 11 3 0, d_ 12 3 11, g_ 13 .eql 12 7, m_ 10 13] (.cond (.t 10) (k_ [v_ 14 0, a_ 15 3 3, d_ 16 3 15, o_ 17 (.indexAddr (.t 16) (i_ 0) 4 none), o_ 18 (.load false none (s_ 4) (.t 17)), c_ 19 242 [.mv 14, .t 18], v_ 5 19] (.seq (k_ [m_ 20 5, g_ 21 .lss 20 0, m_ 22 21, q_ 23 22 false (.mov (.t 5)), q_ 24 22 false (.fieldAddr (.t 3) 1 l_), q_ 25 22 false (.load false (some 3) l_ (.t 24)), q_ 26 22 false (.bin .quo .num (i_ 16384) (.t 25)), q_ 27 22 false (.bin .gtr .num (.t 23) (.t 26)), o_ 28 (.pick (.t 22) (.c (.b true)) (.t 27))] (.cond (.t 28) (k_ [o_ 4 (.mov (i_ (-1)))] (.ret)) (.skip))) (k_ [m_ 29 5, a_ 30 3 1, d_ 31 3 30, e_ 32 .mul 29 31, m_ 4 32] (.ret)))) (k_ [a_ 34 3 0, d_ 35 3 34, g_ 36 .eql 35 8, m_ 33 36] (.cond (.t 33) (k_ [v_ 37 0, a_ 38 3 2, d_ 39 3 38, c_ 40 293 [.mv 37, .t 39], v_ 4 40] (.ret)) (.skip)))))))) (k_ [o_ 4 (.mov (i_ 1))] (.ret)))), none, none⟩
def f_strings_Contains : Fn := ⟨2, [.t 4], true, (k_ [o_ 4 (.mov (.c (.b false)))] (k_ [v_ 5 0, v_ 6 1, c_ 7 294 [.mv 5, .mv 6], g_ 8 .geq 7 0, m_ 4 8] (.ret))), none, none⟩
def f_tree_sameType : Fn := ⟨2, [.t 4], true, (k_ [o_ 2 (.box true (.t 0)), o_ 3 (.box true (.t 1)), o_ 4 (.mov (.c (.b false)))] (k_ [a_ 5 2 0, d_ 6 2 5, a_ 7 3 0, d_ 8 3 7, e_ 9 .eql 6 8, m_ 10 9, q_ 11 10 true (.fieldAddr (.t 2) 1 l_), q_ 12 10 true (.load false (some 2) l_ (.t 11)), q_ 13 10 true (.fieldAddr (.t 3) 1 l_), q_ 14 10 true (.load false (some 3) l_ (.t 13)), q_ 15 10 true (.bin .eql .num (.t 12) (.t 14)), o_ 16 (.pick (.t 10) (.t 15) (.c (.b false))), m_ 17 16, q_ 18 17 true (.fieldAddr (.t 2) 2 l_), q_ 19 17 true (.load false (some 2) l_ (.t 18)), q_ 20 17 true (.fieldAddr (.t 3) 2 l_), q_ 21 17 true (.load false (some 3) l_ (.t 20)), q_ 22 17 true (.bin .eql .num (.t 19) (.t 21)), o_ 23 (.pick (.t 17) (.t 22) (.c (.b false))), m_ 24 23, q_ 25 24 true (.fieldAddr (.t 2) 3 l_), q_ 26 24 true (.load false (some 2) l_ (.t 25)), q_ 27 24 true (.fieldAddr (.t 3) 3 l_), q_ 28 24 true (.load false (some 3) l_ (.t 27)), q_ 29 24 true (.call (.f 254) [.t 26, (.t 28), (.f 252)]), o_ 30 (.pick (.t 24) (.t 29) (.c (.b false))), m_ 4 30] (.ret))), none, none⟩
def f_slices_EqualFunc___api_Expr___api_Expr_api_Expr_api_Expr__B0 : C := (k_ [e_ 18 .lss 17 16] (.seq (.cond (.t 18) (.skip) (.exit 0)) (.seq (.block 1 [1, 2, 15, 16, 17] (k_ [m_ 19 17, x_ 20 15 17 8, o_ 21 (.load false none (s_ 8) (.t 20)), o_ 8 (.alloc true [(.i .i64 0), (.i .i64 0), (.i .i64 0), (.s []), .nil, (.i .i32 0), (.s []), .nil]), m_ 7 19, z_ (.store (some 8) (s_ 8) (.t 8) (.t 21))] (k_ [m_ 22 1, m_ 23 7, x_ 24 22 23 8, o_ 25 (.load false none (s_ 8) (.t 24)), o_ 9 (.alloc true [(.i .i64 0), (.i .i64 0), (.i .i64 0), (.s []), .nil, (.i .i32 0), (.s []), .nil]), z_ (.store (some 9) (s_ 8) (.t 9) (.t 25))] (k_ [m_ 26 2, o_ 27 (.load false (some 8) (s_ 8) (.t 8)), o_ 28 (.load false (some 9) (s_ 8) (.t 9)), o_ 29 (.call (.t 26) [.t 27, (.t 28)]), u_ 30 29] (.cond (.t 30) (k_ [o_ 6 (.mov (.c (.b false)))] (.ret)) (.skip)))))) (.ops [g_ 31 .add 17 1, m_ 17 31]))))
def f_slices_EqualFunc___api_Expr___api_Expr_api_Expr_api_Expr__L0 : C := .loop [1, 2, 15, 16, 17] f_slices_EqualFunc___api_Expr___api_Expr_api_Expr_api_Expr__B0
def f_slices_EqualFunc___api_Expr___api_Expr_api_Expr_api_Expr__R1 : C := (k_ [o_ 6 (.mov (.c (.b true)))] (.ret))
def f_slices_EqualFunc___api_Expr___api_Expr_api_Expr_api_Expr_ : Fn := ⟨3, [.t 6], true, (k_ [o_ 6 (.mov (.c (.b false)))] (.seq (k_ [m_ 10 0, n_ 11 10, m_ 12 1, n_ 13 12, e_ 14 .neq 11 13] (.cond (.t 14) (k_ [o_ 6 (.mov (.c (.b false)))] (.ret)) (.skip))) (.seq (k_ [m_ 15 0, n_ 16 15, o_ 17 (.mov (i_ 0))] (.block 0 [] (f_slices_EqualFunc___api_Expr___api_Expr_api_Expr_api_Expr__L0))) (f_slices_EqualFunc___api_Expr___api_Expr_api_Expr_api_Expr__R1)))), none, none⟩
def f_slices_EqualFunc___api_Type___api_Type_api_Type_api_Type__B0 : C := (k_ [e_ 18 .lss 17 16] (.seq (.cond (.t 18) (.skip) (.exit 0)) (.seq (.block 1 [1, 2, 15, 16, 17] (k_ [m_ 19 17, x_ 20 15 17 4, o_ 21 (.load false none (s_ 4) (.t 20)), o_ 8 (.alloc true [(.i .i64 0), (.i .i64 0), (.s []), .nil]), m_ 7 19, z_ (.store (some 8) (s_ 4) (.t 8) (.t 21))] (k_ [m_ 22 1, m_ 23 7, x_ 24 22 23 4, o_ 25 (.load false none (s_ 4) (.t 24)), o_ 9 (.alloc true [(.i .i64 0), (.i .i64 0), (.s []), .nil]), z_ (.store (some 9) (s_ 4) (.t 9) (.t 25))] (k_ [m_ 26 2, o_ 27 (.load false (some 8) (s_ 4) (.t 8)), o_ 28 (.load false (some 9) (s_ 4) (.t 9)), o_ 29 (.call (.t 26) [.t 27, (.t 28)]), u_ 30 29] (.cond (.t 30) (k_ [o_ 6 (.mov (.c (.b false)))] (.ret)) (.skip)))))) (.ops [g_ 31 .add 17 1, m_ 17 31]))))
def f_slices_EqualFunc___api_Type___api_Type_api_Type_api_Type__L0 : C := .loop [1, 2, 15, 16, 17] f_slices_EqualFunc___api_Type___api_Type_api_Type_api_Type__B0
def f_slices_EqualFunc___api_Type___api_Type_api_Type_api_Type__R1 : C := (k_ [o_ 6 (.mov (.c (.b true)))] (.ret))
def f_slices_EqualFunc___api_Type___api_Type_api_Type_api_Type_ : Fn := ⟨3, [.t 6], true, (k_ [o_ 6 (.mov (.c (.b false)))] (.seq (k_ [m_ 10 0, n_ 11 10, m_ 12 1, n_ 13 12, e_ 14 .neq 11 13] (.cond (.t 14) (k_ [o_ 6 (.mov (.c (.b false)))] (.ret)) (.skip))) (.seq (k_ [m_ 15 0, n_ 16 15, o_ 17 (.mov (i_ 0))] (.block 0 [] (f_slices_EqualFunc___api_Type___api_Type_api_Type_api_Type__L0))) (f_slices_EqualFunc___api_Type___api_Type_api_Type_api_Type__R1)))), none, none⟩
def qcr : Fn := ⟨2, [.t 4], true, (k_ [o_ 4 (.mov (.c (.b false)))] (k_ [v_ 5 0, v_ 6 1, c_ 7 299 [.mv 5, .mv 6], v_ 4 7] (.ret))), none, none⟩
def f_front_Env_Right_B0 : C := (k_ [e_ 74 .lss 73 72] (.seq (.cond (.t 74) (.skip) (.exit 0)) (.seq (.block 1 [3, 71, 72, 73] (k_ [m_ 75 73, x_ 76 71 73 1, h_ 77 76, m_ 7 75, m_ 8 77] (k_ [a_ 78 3 1, d_ 79 3 78, m_ 80 7, x_ 81 79 80 8, o_ 82 (.fieldAddr (.t 81) 1 (s_ 4)), a_ 83 82 0, h_ 84 83, m_ 85 8, e_ 86 .neq 84 85] (.cond (.t 86) (k_ [o_ 4 (.mov (.c (.b false)))] (.ret)) (.skip))))) (.ops [g_ 87 .add 73 1, m_ 73 87]))))
def f_front_Env_Right_L0 : C := .loop [3, 71, 72, 73] f_front_Env_Right_B0
def f_front_Env_Right_R1 : C := (k_ [o_ 4 (.mov (.c (.b true)))] (.ret))
def f_front_Env_Right : Fn := ⟨2, [.t 4], true, (k_ [o_ 3 (.box true (.t 1)), o_ 4 (.mov (.c (.b false)))] (.seq (k_ [a_ 9 3 0, d_ 10 3 9, g_ 11 .eql 10 16] (.cond (.t 11) (k_ [a_ 12 3 1, d_ 13 3 12, n_ 14 13, g_ 15 .eql 14 1, m_ 16 15, q_ 17 16 true (.fieldAddr (.t 3) 1 l_), q_ 18 16 true (.load false (some 3) l_ (.t 17)), q_ 19 16 true (.indexAddr (.t 18) (i_ 0) 8 none), q_ 20 16 true (.fieldAddr (.t 19) 0 l_), q_ 21 16 true (.load false none l_ (.t 20)), q_ 22 16 true (.bin .eql .num (.t 21) (i_ 0)), q_ 23 16 true (.mov (.t 22)), q_ 24 23 true (.fieldAddr (.t 3) 1 l_), q_ 25 23 true (.load false (some 3) l_ (.t 24)), q_ 26 23 true (.indexAddr (.t 25) (i_ 0) 8 none), q_ 27 23 true (.fieldAddr (.t 26) 1 (s_ 4)), q_ 28 23 true (.fieldAddr (.t 27) 0 l_), q_ 29 23 true (.load false none l_ (.t 28)), q_ 30 23 true (.bin .eql .num (.t 29) (i_ 6)), q_ 31 16 true (.pick (.t 23) (.t 30) (.c (.b false))), q_ 32 16 true (.mov (.t 31)), q_ 33 32 false (.fieldAddr (.t 3) 1 l_), q_ 34 32 false (.load false (some 3) l_ (.t 33)), q_ 35 32 false (.indexAddr (.t 34) (i_ 0) 8 none), q_ 36 32 false (.load false none (s_ 8) (.t 35)), q_ 37 32 false (.call (.f 300) [.t 36]), q_ 38 16 true (.pick (.t 32) (.c (.b true)) (.t 37)), o_ 39 (.pick (.t 16) (.t 38) (.c (.b false))), m_ 4 39] (.ret)) (.skip))) (k_ [a_ 41 3 0, d_ 42 3 41, c_ 43 301 [.t 42], m_ 40 43, r_ 44 40 0, r_ 45 40 1, m_ 5 44, m_ 6 45] (.seq (k_ [a_ 46 3 1, d_ 47 3 46, n_ 48 47, m_ 49 5, n_ 50 49, e_ 51 .neq 48 50, m_ 52 51, q_ 53 52 false (.mov (.t 6)), q_ 54 52 false (.mov (.t 53)), q_ 55 54 true (.fieldAddr (.t 3) 1 l_), q_ 56 54 true (.load false (some 3) l_ (.t 55)), q_ 57 54 true (.indexAddr (.t 56) (i_ 0) 8 none), q_ 58 54 true (.load false none (s_ 8) (.t 57)), q_ 59 54 true (.call (.f 165) [.t 58]), q_ 60 54 true (.mov (.mv 59)), q_ 61 60 true (.mov (.t 0)), q_ 62 60 true (.fieldAddr (.t 3) 1 l_), q_ 63 60 true (.load false (some 3) l_ (.t 62)), q_ 64 60 true (.indexAddr (.t 63) (i_ 0) 8 none), q_ 65 60 true (.load false none (s_ 8) (.t 64)), q_ 66 60 true (.call (.f 166) [.t 61, (.t 65)]), q_ 67 54 true (.pick (.t 60) (.t 66) (.c (.b false))), q_ 68 54 true (.un .not (.t 67)), q_ 69 52 false (.pick (.t 54) (.t 68) (.c (.b false))), o_ 70 (.pick (.t 52) (.c (.b true)) (.t 69))] (.cond (.t 70) (k_ [o_ 4 (.mov (.c (.b false)))] (.ret)) (.skip))) (.seq (k_ [m_ 71 5, n_ 72 71, o_ 73 (.mov (i_ 0))] (.block 0 [] (f_front_Env_Right_L0))) (f_front_Env_Right_R1)))))), none, none⟩
def qf9 : Fn := ⟨2, [], false, .ops [m_ 4 0, m_ 5 1, o_ 6 (.build [(.i .i64 0), (.i .i64 0)] [(0, 1, (.t 4)), (1, 1, (.t 5))]), o_ 7 (.build [(.i .i64 0), (.i .i64 0)] [(0, 2, (.t 6))]), o_ 8 (.mkIfc 157 (.t 7)), z_ (.panic (.t 8))], none, none⟩
def y6 : C := (.seq (.seq (.opsD [(m_ 10 0, false, []), (o_ 11 (.nilCheck (.t 10)), false, []), (a_ 12 11 1, false, []), (h_ 13 12, false, []), (m_ 14 0, false, []), (o_ 15 (.nilCheck (.t 14)), false, []), (a_ 16 15 0, false, []), (h_ 17 16, false, []), (o_ 18 (.bi .lenS [.t 17]), false, []), (e_ 19 .lss 13 18, true, []), (m_ 20 19, true, []), (q_ 21 20 true (.mov (.t 1)), false, []), (q_ 22 20 true (.mov (.t 0)), false, []), (q_ 23 20 true (.nilCheck (.t 22)), false, []), (q_ 24 20 true (.fieldAddr (.t 23) 0 l_), false, []), (q_ 25 20 true (.load false none l_ (.t 24)), false, []), (q_ 26 20 true (.mov (.t 0)), false, []), (q_ 27 20 true (.nilCheck (.t 26)), false, []), (q_ 28 20 true (.fieldAddr (.t 27) 1 l_), false, []), (q_ 29 20 true (.load false none l_ (.t 28)), false, []), (q_ 30 20 true (.index (.t 25) (.t 29)), false, []), (q_ 31 20 true (.call (.t 21) [.t 30]), true, []), (o_ 32 (.pick (.t 20) (.t 31) (.c (.b false))), true, [])]) (.cond (.t 32) (.skip) (.exit 0))) (.block 1 [0, 1, 5] (.ops [m_ 33 0, o_ 34 (.nilCheck (.t 33)), a_ 35 34 1, h_ 36 35, g_ 37 .add 36 1, o_ 38 (.nilCheck (.t 33)), a_ 39 38 1, z_ (.store none l_ (.t 39) (.t 37))])))
def y8 : C := .loop [0, 1, 5] y6
noncomputable def qba (pg : Pg) (v0 v1 v5 : V) (H : List Obj) (lo : Nat) : Option (Ex × St) := exL pg y8 ⟨[(0, v0), (1, v1), (5, v5)], H, lo⟩
theorem qdc {pg : Pg} {e : Env} {H : List Obj} {lo : Nat} : exL pg y8 ⟨e, H, lo⟩ = qba pg (zz (get 0 e)) (zz (get 1 e)) (zz (get 5 e)) H lo := qf4
theorem qdg {pg : Pg} {v0 v1 v5 : V} {H : List Obj} {lo : Nat} : qba pg v0 v1 v5 H lo = qcp pg (exL pg y6 ⟨[(0, zz v0), (1, zz v1), (5, zz v5)], H, lo⟩) y8 := by
  unfold qba y8; rw [jy]; simp only [qo, qp, qE, qH, Nat.reduceEqDiff]
def qdX : C := (.seq (.opsD [(m_ 40 0, false, []), (o_ 41 (.nilCheck (.t 40)), false, []), (a_ 42 41 0, false, []), (h_ 43 42, false, []), (m_ 44 5, false, []), (m_ 45 0, false, []), (o_ 46 (.nilCheck (.t 45)), false, []), (a_ 47 46 1, false, []), (h_ 48 47, false, []), (o_ 49 (.sliceS (.t 43) (some (.t 44)) (some (.t 48))), true, []), (m_ 4 49, true, [])]) (.ret))
def qcg : Fn := ⟨2, [.t 4], true, (k_ [o_ 4 (.mov (.c (.s [])))] (k_ [m_ 6 0, o_ 7 (.nilCheck (.t 6)), a_ 8 7 1, h_ 9 8, m_ 5 9] (.seq (.block 0 [0, 5] (y8)) (qdX)))), none, none⟩
def qfa : Fn := ⟨1, [.t 2], true, (k_ [o_ 2 (.mov (.c (.b false)))] (k_ [m_ 3 0, c_ 4 174 [.t 3], v_ 5 4, q_ 6 5 false (.mov (.t 0)), q_ 7 5 false (.call (.f 176) [.t 6]), o_ 8 (.pick (.t 5) (.c (.b true)) (.t 7)), m_ 2 8] (.ret))), none, none⟩
def qhc : Fn := ⟨0, [.t 0], true, (k_ [o_ 0 (.mov (.c .nil))] (k_ [o_ 1 (.call (.f 85) [(.c (.s [65, 82, 82, 65, 89, 32, 66, 69, 71, 73, 78, 32, 66, 89, 32, 67, 65, 83, 69, 32, 67, 79, 78, 83, 84, 32, 68, 73, 86, 32, 68, 79, 32, 69, 76, 83, 69, 32, 69, 76, 83, 73, 70, 32, 69, 78, 68, 32, 70, 65, 76, 83, 69, 32, 70, 79, 82, 32, 73, 70, 32, 73, 77, 80, 79, 82, 84, 32, 73, 78, 32, 73, 83, 32, 77, 79, 68, 32, 77, 79, 68, 85, 76, 69, 32, 78, 73, 76, 32, 79, 70, 32, 79, 82, 32, 80, 79, 73, 78, 84, 69, 82, 32, 80, 82, 79, 67, 69, 68, 85, 82, 69, 32, 82, 69, 67, 79, 82, 68, 32, 82, 69, 80, 69, 65, 84, 32, 82, 69, 84, 85, 82, 78, 32, 84, 72, 69, 78, 32, 84, 79, 32, 84, 82, 85, 69, 32, 84, 89, 80, 69, 32, 85, 78, 84, 73, 76, 32, 86, 65, 82, 32, 87, 72, 73, 76, 69]))]), v_ 0 1] (.ret))), none, none⟩
def qgG : Fn := ⟨1, [.t 2], true, (k_ [o_ 2 (.mov (.c (.b false)))] (k_ [m_ 3 0, c_ 4 176 [.t 3], v_ 5 4, q_ 6 5 false (.mov (.t 0)), q_ 7 5 false (.bin .geq .num (.t 6) (.c (.i .u8 65))), q_ 8 5 false (.mov (.t 7)), q_ 9 8 true (.mov (.t 0)), q_ 10 8 true (.bin .leq .num (.t 9) (.c (.i .u8 70))), q_ 11 5 false (.pick (.t 8) (.t 10) (.c (.b false))), o_ 12 (.pick (.t 5) (.c (.b true)) (.t 11)), m_ 2 12] (.ret))), none, none⟩
def qbh : Fn := ⟨3, [.t 6, (.t 7)], false, (k_ [o_ 6 (.mov (.c (.i .u64 0))), o_ 7 (.mov (.c .ni))] (k_ [m_ 11 0, m_ 12 1, m_ 13 2, c_ 14 303 [.t 11, .t 12, .t 13], m_ 10 14, r_ 15 10 0, r_ 16 10 1, m_ 8 15, m_ 9 16] (.seq (k_ [m_ 17 9, o_ 18 (.bin .neq .iface (.t 17) (.c .ni))] (.cond (.t 18) (k_ [m_ 19 8, v_ 20 0, v_ 21 1, v_ 22 2, v_ 23 9, o_ 24 (.call (.f 304) [(.c (.s [80, 97, 114, 115, 101, 85, 105, 110, 116])), (.mv 20), (.mv 21), (.mv 22), (.mv 23)]), m_ 6 19, v_ 7 24] (.ret)) (.skip))) (k_ [m_ 25 8, m_ 6 25, o_ 7 (.mov (.c .ni))] (.ret))))), none, none⟩
def qbI : Fn := ⟨1, [.t 2], true, (k_ [o_ 2 (.mov (.c (.b false)))] (k_ [m_ 3 0, o_ 4 (.bin .geq .num (.t 3) (.c (.i .u8 32))), m_ 5 4, q_ 6 5 true (.mov (.t 0)), q_ 7 5 true (.bin .neq .num (.t 6) (.c (.i .u8 34))), o_ 8 (.pick (.t 5) (.t 7) (.c (.b false))), m_ 2 8] (.ret))), none, none⟩
def f_slices_IndexFunc___api_Type_api_Type__B0 : C := (k_ [e_ 9 .lss 8 7] (.seq (.cond (.t 9) (.skip) (.exit 0)) (.seq (.block 1 [0, 1, 7, 8] (k_ [m_ 10 8, m_ 5 10] (k_ [m_ 11 1, m_ 12 0, m_ 13 5, x_ 14 12 13 4, o_ 15 (.load false none (s_ 4) (.t 14)), o_ 16 (.call (.t 11) [.t 15])] (.cond (.t 16) (k_ [m_ 17 5, m_ 4 17] (.ret)) (.skip))))) (.ops [g_ 18 .add 8 1, m_ 8 18]))))
def f_slices_IndexFunc___api_Type_api_Type__L0 : C := .loop [0, 1, 7, 8] f_slices_IndexFunc___api_Type_api_Type__B0
def f_slices_IndexFunc___api_Type_api_Type__R1 : C := (k_ [o_ 4 (.mov (i_ (-1)))] (.ret))
def f_slices_IndexFunc___api_Type_api_Type_ : Fn := ⟨2, [.t 4], true, (k_ [o_ 4 (.mov (i_ 0))] (.seq (k_ [m_ 6 0, n_ 7 6, o_ 8 (.mov (i_ 0))] (.block 0 [] (f_slices_IndexFunc___api_Type_api_Type__L0))) (f_slices_IndexFunc___api_Type_api_Type__R1))), none, none⟩
def f_strings_Index : Fn := ⟨2, [.t 4], true, (k_ [o_ 4 (.mov (i_ 0))] (k_ [v_ 5 0, v_ 6 1, c_ 7 322 [.mv 5, .mv 6], v_ 4 7] (.ret))), none, none⟩
def j0 : Fn := ⟨2, [.t 4], true, (k_ [o_ 4 (.mov (.c (.b false)))] (k_ [m_ 5 0, o_ 6 (.bi .lenS [.t 5]), m_ 7 1, o_ 8 (.bi .lenS [.t 7]), e_ 9 .geq 6 8, m_ 10 9, q_ 11 10 true (.mov (.t 0)), q_ 12 10 true (.mov (.t 1)), q_ 13 10 true (.bi .lenS [.t 12]), q_ 14 10 true (.sliceS (.t 11) none (some (.t 13))), q_ 15 10 true (.mov (.t 1)), q_ 16 10 true (.bin .eql .num (.t 14) (.t 15)), o_ 17 (.pick (.t 10) (.t 16) (.c (.b false))), m_ 4 17] (.ret))), none, none⟩
def f_front_forms : Fn := ⟨1, [.t 2, (.t 3)], false, (k_ [o_ 2 (.mov (.c .nil)), o_ 3 (.mov (.c (.b false)))] (.seq (k_ [m_ 4 0] (.block 0 [] (.seq (k_ [g_ 6 .eql 4 7, m_ 5 6] (.cond (.t 5) (.skip) (.ops [g_ 7 .eql 4 8, m_ 5 7]))) (.cond (.t 5) (k_ [o_ 8 (.buildSlice (.i .i64 0) 2 [(0, (i_ 1)), (1, (i_ 1))]), v_ 2 8, o_ 3 (.mov (.c (.b true)))] (.ret)) (.seq (k_ [g_ 10 .eql 4 9, m_ 9 10] (.cond (.t 9) (.skip) (.ops [g_ 11 .eql 4 10, m_ 9 11]))) (.cond (.t 9) (k_ [o_ 12 (.buildSlice (.i .i64 0) 2 [(0, (i_ 4)), (1, (i_ 1))]), v_ 2 12, o_ 3 (.mov (.c (.b true)))] (.ret)) (k_ [g_ 14 .eql 4 11, m_ 13 14] (.cond (.t 13) (k_ [o_ 15 (.buildSlice (.i .i64 0) 1 [(0, (i_ 9))]), v_ 2 15, o_ 3 (.mov (.c (.b true)))] (.ret)) (k_ [g_ 17 .eql 4 13, m_ 16 17] (.cond (.t 16) (k_ [o_ 18 (.buildSlice (.i .i64 0) 1 [(0, (i_ 2))]), v_ 2 18, o_ 3 (.mov (.c (.b true)))] (.ret)) (k_ [g_ 20 .eql 4 12, m_ 19 20] (.cond (.t 19) (k_ [o_ 21 (.buildSlice (.i .i64 0) 1 [(0, (i_ 3))]), v_ 2 21, o_ 3 (.mov (.c (.b false)))] (.ret)) (k_ [g_ 23 .eql 4 14, m_ 22 23] (.cond (.t 22) (k_ [o_ 24 (.buildSlice (.i .i64 0) 1 [(0, (i_ 1))]), v_ 2 24, o_ 3 (.mov (.c (.b false)))] (.ret)) (k_ [g_ 26 .eql 4 15, m_ 25 26] (.cond (.t 25) (k_ [o_ 27 (.buildSlice (.i .i64 0) 1 [(0, (i_ 2))]), v_ 2 27, o_ 3 (.mov (.c (.b false)))] (.ret)) (.skip))))))))))))))))) (k_ [o_ 2 (.mov (.c .nil)), o_ 3 (.mov (.c (.b false)))] (.ret)))), none, none⟩
def zl : C := (k_ [e_ 102 .lss 101 100] (.seq (.cond (.t 102) (.skip) (.exit 3)) (.seq (.block 4 [1, 8, 9, 10, 11, 12, 13, 99, 100, 101] (k_ [x_ 103 99 101 1, h_ 104 103, m_ 15 104] (k_ [o_ 16 (.mov (.c (.i .u8 0)))] (.seq (.block 5 [1, 8, 9, 10, 11, 12, 13, 16, 99, 100, 101] (k_ [m_ 107 15, o_ 108 (.bin .eql .num (.t 107) (.c (.i .u8 95))), m_ 109 108, q_ 110 109 true (.mov (.t 8)), o_ 111 (.pick (.t 109) (.t 110) (.c (.b false))), m_ 106 111] (.cond (.t 106) (k_ [o_ 12 (.mov (.c (.b true)))] (.exit 4)) (k_ [m_ 113 15, o_ 114 (.bin .leq .num (.c (.i .u8 48)) (.t 113)), m_ 115 114, q_ 116 115 true (.mov (.t 15)), q_ 117 115 true (.bin .leq .num (.t 116) (.c (.i .u8 57))), o_ 118 (.pick (.t 115) (.t 117) (.c (.b false))), m_ 112 118] (.cond (.t 112) (.ops [m_ 119 15, o_ 120 (.bin .sub .num (.t 119) (.c (.i .u8 48))), m_ 16 120]) (k_ [m_ 122 15, c_ 123 324 [.t 122], o_ 124 (.bin .leq .num (.c (.i .u8 97)) (.t 123)), m_ 125 124, q_ 126 125 true (.mov (.t 15)), q_ 127 125 true (.call (.f 324) [.t 126]), q_ 128 125 true (.bin .leq .num (.t 127) (.c (.i .u8 122))), o_ 129 (.pick (.t 125) (.t 128) (.c (.b false))), m_ 121 129] (.cond (.t 121) (.ops [v_ 130 15, c_ 131 324 [.mv 130], o_ 132 (.bin .sub .num (.t 131) (.c (.i .u8 97))), o_ 133 (.bin .add .num (.t 132) (.c (.i .u8 10))), m_ 16 133]) (k_ [o_ 105 (.mkIfc 323 (i_ 2)), o_ 6 (.mov (.c (.i .u64 0))), m_ 7 105] (.ret))))))))) (.seq (k_ [m_ 134 16, m_ 135 1, o_ 136 (.conv .u8 (.t 135)), e_ 137 .geq 134 136] (.cond (.t 137) (k_ [o_ 138 (.mkIfc 323 (i_ 2)), o_ 6 (.mov (.c (.i .u64 0))), m_ 7 138] (.ret)) (.skip))) (.seq (k_ [m_ 139 13, m_ 140 10, e_ 141 .geq 139 140] (.cond (.t 141) (k_ [m_ 142 11, o_ 143 (.mkIfc 323 (i_ 1)), m_ 6 142, m_ 7 143] (.ret)) (.skip))) (k_ [m_ 144 13, m_ 145 1, o_ 146 (.conv .u64 (.t 145)), e_ 147 .mul 144 146, m_ 13 147] (k_ [m_ 148 13, m_ 149 16, o_ 150 (.conv .u64 (.t 149)), e_ 151 .add 148 150, m_ 17 151] (.seq (k_ [m_ 152 17, m_ 153 13, e_ 154 .lss 152 153, m_ 155 154, q_ 156 155 false (.mov (.t 17)), q_ 157 155 false (.mov (.t 11)), q_ 158 155 false (.bin .gtr .num (.t 156) (.t 157)), o_ 159 (.pick (.t 155) (.c (.b true)) (.t 158))] (.cond (.t 159) (k_ [m_ 160 11, o_ 161 (.mkIfc 323 (i_ 1)), m_ 6 160, m_ 7 161] (.ret)) (.skip))) (.ops [m_ 162 17, m_ 13 162])))))))))) (.ops [g_ 163 .add 101 1, m_ 101 163]))))
def j9 : C := .loop [1, 8, 9, 10, 11, 12, 13, 99, 100, 101] zl
noncomputable def j5 (pg : Pg) (v1 v8 v9 v10 v11 v12 v13 v99 v100 v101 : V) (H : List Obj) (lo : Nat) : Option (Ex × St) := exL pg j9 ⟨[(1, v1), (8, v8), (9, v9), (10, v10), (11, v11), (12, v12), (13, v13), (99, v99), (100, v100), (101, v101)], H, lo⟩
theorem jD {pg : Pg} {e : Env} {H : List Obj} {lo : Nat} : exL pg j9 ⟨e, H, lo⟩ = j5 pg (zz (get 1 e)) (zz (get 8 e)) (zz (get 9 e)) (zz (get 10 e)) (zz (get 11 e)) (zz (get 12 e)) (zz (get 13 e)) (zz (get 99 e)) (zz (get 100 e)) (zz (get 101 e)) H lo := qf4
theorem qbz {pg : Pg} {v1 v8 v9 v10 v11 v12 v13 v99 v100 v101 : V} {H : List Obj} {lo : Nat} : j5 pg v1 v8 v9 v10 v11 v12 v13 v99 v100 v101 H lo = qcp pg (exL pg zl ⟨[(1, zz v1), (8, zz v8), (9, zz v9), (10, zz v10), (11, zz v11), (12, zz v12), (13, zz v13), (99, zz v99), (100, zz v100), (101, zz v101)], H, lo⟩) j9 := by
  unfold j5 j9; rw [jy]; simp only [qo, qp, qE, qH, Nat.reduceEqDiff]
def yK : C := (.seq (k_ [m_ 164 12, m_ 165 164, q_ 166 165 true (.mov (.t 9)), q_ 167 165 true (.call (.f 325) [.t 166]), q_ 168 165 true (.un .not (.t 167)), o_ 169 (.pick (.t 165) (.t 168) (.c (.b false)))] (.cond (.t 169) (k_ [o_ 170 (.mkIfc 323 (i_ 2)), o_ 6 (.mov (.c (.i .u64 0))), m_ 7 170] (.ret)) (.skip))) (k_ [m_ 171 13, m_ 6 171, o_ 7 (.mov (.c .ni))] (.ret)))
def jX : Fn := ⟨3, [.t 6, (.t 7)], false, (k_ [o_ 6 (.mov (.c (.i .u64 0))), o_ 7 (.mov (.c .ni))] (.seq (k_ [m_ 18 0, o_ 19 (.bin .eql .num (.t 18) (.c (.s [])))] (.cond (.t 19) (k_ [o_ 20 (.mkIfc 323 (i_ 2)), o_ 6 (.mov (.c (.i .u64 0))), m_ 7 20] (.ret)) (.skip))) (k_ [m_ 21 1, g_ 22 .eql 21 0, m_ 8 22] (k_ [m_ 23 0, m_ 9 23] (.seq (.block 0 [0, 1, 2, 8, 9] (k_ [m_ 26 1, o_ 27 (.bin .leq .num (i_ 2) (.t 26)), m_ 28 27, q_ 29 28 true (.mov (.t 1)), q_ 30 28 true (.bin .leq .num (.t 29) (i_ 36)), o_ 31 (.pick (.t 28) (.t 30) (.c (.b false))), m_ 25 31] (.cond (.t 25) (.skip) (k_ [m_ 33 1, g_ 34 .eql 33 0, m_ 32 34] (.cond (.t 32) (k_ [o_ 1 (.mov (i_ 10))] (k_ [m_ 35 0, o_ 36 (.index (.t 35) (i_ 0)), o_ 37 (.bin .eql .num (.t 36) (.c (.i .u8 48)))] (.cond (.t 37) (.block 1 [0, 1, 2, 8, 9] (k_ [m_ 41 0, o_ 42 (.bi .lenS [.t 41]), g_ 43 .geq 42 3, m_ 44 43, q_ 45 44 true (.mov (.t 0)), q_ 46 44 true (.index (.t 45) (i_ 1)), q_ 47 44 true (.call (.f 324) [.t 46]), q_ 48 44 true (.bin .eql .num (.t 47) (.c (.i .u8 98))), o_ 49 (.pick (.t 44) (.t 48) (.c (.b false))), m_ 40 49] (.cond (.t 40) (k_ [o_ 1 (.mov (i_ 2))] (.ops [m_ 50 0, o_ 51 (.sliceS (.t 50) (some (i_ 2)) none), m_ 0 51])) (k_ [m_ 53 0, o_ 54 (.bi .lenS [.t 53]), g_ 55 .geq 54 3, m_ 56 55, q_ 57 56 true (.mov (.t 0)), q_ 58 56 true (.index (.t 57) (i_ 1)), q_ 59 56 true (.call (.f 324) [.t 58]), q_ 60 56 true (.bin .eql .num (.t 59) (.c (.i .u8 111))), o_ 61 (.pick (.t 56) (.t 60) (.c (.b false))), m_ 52 61] (.cond (.t 52) (k_ [o_ 1 (.mov (i_ 8))] (.ops [m_ 62 0, o_ 63 (.sliceS (.t 62) (some (i_ 2)) none), m_ 0 63])) (k_ [m_ 65 0, o_ 66 (.bi .lenS [.t 65]), g_ 67 .geq 66 3, m_ 68 67, q_ 69 68 true (.mov (.t 0)), q_ 70 68 true (.index (.t 69) (i_ 1)), q_ 71 68 true (.call (.f 324) [.t 70]), q_ 72 68 true (.bin .eql .num (.t 71) (.c (.i .u8 120))), o_ 73 (.pick (.t 68) (.t 72) (.c (.b false))), m_ 64 73] (.cond (.t 64) (k_ [o_ 1 (.mov (i_ 16))] (.ops [m_ 74 0, o_ 75 (.sliceS (.t 74) (some (i_ 2)) none), m_ 0 75])) (k_ [o_ 1 (.mov (i_ 8))] (.ops [m_ 38 0, o_ 39 (.sliceS (.t 38) (some (i_ 1)) none), m_ 0 39]))))))))) (.skip)))) (k_ [o_ 24 (.mkIfc 323 (i_ 3)), o_ 6 (.mov (.c (.i .u64 0))), m_ 7 24] (.ret))))))) (.seq (k_ [m_ 76 2, g_ 77 .eql 76 0] (.cond (.t 77) (.ops [o_ 2 (.mov (i_ 64))]) (k_ [m_ 78 2, g_ 79 .lss 78 0, m_ 80 79, q_ 81 80 false (.mov (.t 2)), q_ 82 80 false (.bin .gtr .num (.t 81) (i_ 64)), o_ 83 (.pick (.t 80) (.c (.b true)) (.t 82))] (.cond (.t 83) (k_ [o_ 84 (.mkIfc 323 (i_ 4)), o_ 6 (.mov (.c (.i .u64 0))), m_ 7 84] (.ret)) (.skip))))) (k_ [o_ 10 (.mov (.c (.i .u64 0)))] (.seq (k_ [m_ 85 1] (.block 2 [0, 1, 2, 8, 9, 10] (k_ [g_ 91 .eql 85 10, m_ 90 91] (.cond (.t 90) (.ops [o_ 10 (.mov (.c (.i .u64 1844674407370955162)))]) (k_ [g_ 93 .eql 85 16, m_ 92 93] (.cond (.t 92) (.ops [o_ 10 (.mov (.c (.i .u64 1152921504606846976)))]) (.ops [m_ 86 1, o_ 87 (.conv .u64 (.t 86)), o_ 88 (.bin .quo .num (.c (.i .u64 18446744073709551615)) (.t 87)), o_ 89 (.bin .add .num (.t 88) (.c (.i .u64 1))), m_ 10 89]))))))) (k_ [m_ 94 2, o_ 95 (.conv .u64 (.t 94)), o_ 96 (.bin .shl .num (.c (.i .u64 1)) (.t 95)), o_ 97 (.bin .sub .num (.t 96) (.c (.i .u64 1))), m_ 11 97] (k_ [o_ 12 (.mov (.c (.b false)))] (k_ [o_ 13 (.mov (.c (.i .u64 0)))] (.seq (k_ [m_ 98 0, o_ 99 (.bytes (.t 98)), n_ 100 99, o_ 101 (.mov (i_ 0))] (.block 3 [9, 12, 13] (j9))) (yK))))))))))))), none, none⟩
def f_internal_stringslite_Index_B0 : C := (.seq (k_ [m_ 57 8, m_ 58 9, e_ 59 .lss 57 58] (.cond (.t 59) (.skip) (.exit 1))) (.block 2 [0, 1, 5, 6, 7, 8, 9, 10] (.seq (k_ [m_ 60 0, m_ 61 8, o_ 62 (.index (.t 60) (.t 61)), m_ 63 6, e_ 64 .neq 62 63] (.cond (.t 64) (k_ [m_ 65 0, m_ 66 8, g_ 67 .add 66 1, m_ 68 9, o_ 69 (.sliceS (.t 65) (some (.t 67)) (some (.t 68))), m_ 70 6, c_ 71 302 [.t 69, .t 70], v_ 11 71] (.seq (k_ [m_ 72 11, g_ 73 .lss 72 0] (.cond (.t 73) (k_ [o_ 4 (.mov (i_ (-1)))] (.ret)) (.skip))) (.ops [m_ 74 8, m_ 75 11, g_ 76 .add 75 1, e_ 77 .add 74 76, m_ 8 77]))) (.skip))) (.seq (k_ [m_ 78 0, m_ 79 8, g_ 80 .add 79 1, o_ 81 (.index (.t 78) (.t 80)), m_ 82 7, e_ 83 .eql 81 82, m_ 84 83, q_ 85 84 true (.mov (.t 0)), q_ 86 84 true (.mov (.t 8)), q_ 87 84 true (.mov (.t 8)), q_ 88 84 true (.mov (.t 5)), q_ 89 84 true (.bin .add .num (.t 87) (.t 88)), q_ 90 84 true (.sliceS (.t 85) (some (.t 86)) (some (.t 89))), q_ 91 84 true (.mov (.t 1)), q_ 92 84 true (.bin .eql .num (.t 90) (.t 91)), o_ 93 (.pick (.t 84) (.t 92) (.c (.b false)))] (.cond (.t 93) (k_ [m_ 94 8, m_ 4 94] (.ret)) (.skip))) (k_ [m_ 95 8, g_ 96 .add 95 1, m_ 8 96] (k_ [m_ 97 10, g_ 98 .add 97 1, m_ 10 98] (k_ [m_ 99 5, o_ 100 (.stuck), e_ 101 .leq 99 100, m_ 102 101, q_ 103 102 true (.mov (.t 10)), q_ 104 102 true (.mov (.t 8)), q_ 105 102 true (.call (.f 340) [.t 104]), q_ 106 102 true (.bin .gtr .num (.t 103) (.t 105)), o_ 107 (.pick (.t 102) (.t 106) (.c (.b false)))] (.cond (.t 107) (k_ [m_ 108 0, m_ 109 8, o_ 110 (.sliceS (.t 108) (some (.t 109)) none), v_ 111 1, c_ 112 339 [.t 110, .mv 111], m_ 12 112] (.seq (k_ [m_ 113 12, g_ 114 .geq 113 0] (.cond (.t 114) (k_ [m_ 115 12, m_ 116 8, e_ 117 .add 115 116, m_ 4 117] (.ret)) (.skip))) (k_ [o_ 4 (.mov (i_ (-1)))] (.ret)))) (k_ [m_ 118 5, o_ 119 (.stuck), e_ 120 .gtr 118 119, m_ 121 120, q_ 122 121 true (.mov (.t 10)), q_ 123 121 true (.mov (.t 8)), q_ 124 121 true (.bin .shr .num (.t 123) (.c (.i .u64 4))), q_ 125 121 true (.bin .add .num (i_ 4) (.t 124)), q_ 126 121 true (.bin .geq .num (.t 122) (.t 125)), o_ 127 (.pick (.t 121) (.t 126) (.c (.b false))), m_ 128 127, q_ 129 128 true (.mov (.t 8)), q_ 130 128 true (.mov (.t 9)), q_ 131 128 true (.bin .lss .num (.t 129) (.t 130)), o_ 132 (.pick (.t 128) (.t 131) (.c (.b false)))] (.cond (.t 132) (k_ [m_ 133 0, m_ 134 8, o_ 135 (.sliceS (.t 133) (some (.t 134)) none), v_ 136 1, c_ 137 341 [.t 135, .mv 136], v_ 13 137] (.seq (k_ [m_ 138 13, g_ 139 .lss 138 0] (.cond (.t 139) (k_ [o_ 4 (.mov (i_ (-1)))] (.ret)) (.skip))) (k_ [m_ 140 8, m_ 141 13, e_ 142 .add 140 141, m_ 4 142] (.ret)))) (.skip)))))))))))
def f_internal_stringslite_Index_L0 : C := .loop [0, 1, 5, 6, 7, 8, 9, 10] f_internal_stringslite_Index_B0
def f_internal_stringslite_Index_R1 : C := (k_ [o_ 4 (.mov (i_ (-1)))] (.ret))
def f_internal_stringslite_Index : Fn := ⟨2, [.t 4], true, (k_ [o_ 4 (.mov (i_ 0))] (k_ [m_ 14 1, o_ 15 (.bi .lenS [.t 14]), m_ 5 15] (.seq (.block 0 [0, 1, 5] (k_ [m_ 17 5, g_ 18 .eql 17 0, m_ 19 18, q_ 20 19 false (.mov (.t 1)), q_ 21 19 false (.mov (.t 0)), q_ 22 19 false (.bin .eql .num (.t 20) (.t 21)), o_ 23 (.pick (.t 19) (.c (.b true)) (.t 22)), m_ 16 23] (.cond (.t 16) (k_ [o_ 4 (.mov (i_ 0))] (.ret)) (k_ [m_ 25 5, g_ 26 .eql 25 1, m_ 24 26] (.cond (.t 24) (k_ [v_ 27 0, m_ 28 1, o_ 29 (.index (.t 28) (i_ 0)), c_ 30 302 [.mv 27, .t 29], v_ 4 30] (.ret)) (k_ [m_ 32 5, m_ 33 0, o_ 34 (.bi .lenS [.t 33]), e_ 35 .geq 32 34, m_ 31 35] (.cond (.t 31) (k_ [o_ 4 (.mov (i_ (-1)))] (.ret)) (k_ [m_ 37 5, o_ 38 (.stuck), e_ 39 .leq 37 38, m_ 40 39, q_ 41 40 true (.mov (.t 0)), q_ 42 40 true (.bi .lenS [.t 41]), q_ 43 40 true (.bin .leq .num (.t 42) (i_ 64)), o_ 44 (.pick (.t 40) (.t 43) (.c (.b false))), m_ 36 44] (.cond (.t 36) (k_ [v_ 45 0, v_ 46 1, c_ 47 339 [.mv 45, .mv 46], m_ 4 47] (.ret)) (.skip)))))))))) (k_ [m_ 48 1, o_ 49 (.index (.t 48) (i_ 0)), m_ 6 49] (k_ [m_ 50 1, o_ 51 (.index (.t 50) (i_ 1)), m_ 7 51] (k_ [o_ 8 (.mov (i_ 0))] (k_ [m_ 52 0, o_ 53 (.bi .lenS [.t 52]), m_ 54 5, e_ 55 .sub 53 54, g_ 56 .add 55 1, m_ 9 56] (k_ [o_ 10 (.mov (i_ 0))] (.seq (.block 1 [] (f_internal_stringslite_Index_L0)) (f_internal_stringslite_Index_R1)))))))))), none, none⟩
def qaZ : Fn := ⟨1, [.t 2], true, (k_ [o_ 2 (.mov (.c (.i .u8 0)))] (k_ [m_ 3 0, o_ 4 (.bin .or .num (.t 3) (.c (.i .u8 32))), m_ 2 4] (.ret))), none, none⟩
def prog (n : Nat) : Option Fn :=
  bif qDG n 5 then some zI else
  bif qDG n 8 then some qfO else
  bif qDG n 11 then some f_recheck_Check else
  bif qDG n 13 then some qaf else
  bif qDG n 14 then some yN else
  bif qDG n 15 then some yM else
  bif qDG n 16 then some f_waferref17_Check else
  bif qDG n 20 then some f_recheck_Check_1 else
  bif qDG n 21 then some f_recheck_must else
  bif qDG n 22 then some qcS else
  bif qDG n 23 then some f_front_NewEnv else
  bif qDG n 24 then some f_recheck_checker_heads else
  bif qDG n 25 then some f_recheck_checker_records else
  bif qDG n 26 then some f_recheck_checker_declared else
  bif qDG n 28 then some f_recheck_checker_body else
  bif qDG n 33 then some f_scan_All else
  bif qDG n 34 then some qdt else
  bif qDG n 35 then some qcf else
  bif qDG n 36 then some qbC else
  bif qDG n 37 then some y1 else
  bif qDG n 38 then some f_waferref17_Others else
  bif qDG n 39 then some f_waferref11_Recs else
  bif qDG n 40 then some f_waferref17_ctx_names else
  bif qDG n 41 then some f_waferref17_ctx_types else
  bif qDG n 43 then some f_waferref17_ctx_body else
  bif qDG n 49 then some qbn else
  bif qDG n 50 then some qay else
  bif qDG n 51 then some qaU else
  bif qDG n 52 then some qdk else
  bif qDG n 53 then some qaQ else
  bif qDG n 54 then some zm else
  bif qDG n 56 then some kR else
  bif qDG n 57 then some qbw else
  bif qDG n 58 then some qbu else
  bif qDG n 59 then some zf else
  bif qDG n 61 then some zR else
  bif qDG n 65 then some f_recheck_name else
  bif qDG n 66 then some f_recheck_checker_heads_1 else
  bif qDG n 68 then some f_recheck_checker_own else
  bif qDG n 70 then some f_recheck_checker_typ else
  bif qDG n 71 then some f_recheck_checker_expr else
  bif qDG n 72 then some f_recheck_typed else
  bif qDG n 75 then some f_recheck_same else
  bif qDG n 77 then some f_recheck_checker_stmt else
  bif qDG n 82 then some f_scan_All_1 else
  bif qDG n 83 then some f_scan_scanner_next else
  bif qDG n 84 then some f_slices_Contains___string_string_ else
  bif qDG n 85 then some qgp else
  bif qDG n 86 then some qbO else
  bif qDG n 87 then some yE else
  bif qDG n 88 then some yA else
  bif qDG n 89 then some qap else
  bif qDG n 90 then some yu else
  bif qDG n 91 then some yf else
  bif qDG n 93 then some f_waferref17_once else
  bif qDG n 94 then some f_waferref17_all else
  bif qDG n 95 then some f_waferref17_imported else
  bif qDG n 97 then some f_waferref17_RightLit else
  bif qDG n 98 then some f_waferref17_is else
  bif qDG n 105 then some f_waferref11_Alike else
  bif qDG n 125 then some zg else
  bif qDG n 126 then some qfC else
  bif qDG n 127 then some yG else
  bif qDG n 128 then some zQ else
  bif qDG n 129 then some qfy else
  bif qDG n 130 then some yV else
  bif qDG n 132 then some zH else
  bif qDG n 133 then some kV else
  bif qDG n 134 then some qcL else
  bif qDG n 135 then some qaN else
  bif qDG n 136 then some zo else
  bif qDG n 137 then some jd else
  bif qDG n 147 then some f_types_Right else
  bif qDG n 148 then some f_front_Env_Named else
  bif qDG n 149 then some f_types_Words else
  bif qDG n 150 then some f_types_Basic else
  bif qDG n 151 then some f_recheck_bare else
  bif qDG n 153 then some f_recheck_checker_lit else
  bif qDG n 154 then some f_recheck_checker_name else
  bif qDG n 160 then some f_tree_SameExpr else
  bif qDG n 162 then some f_types_plain else
  bif qDG n 171 then some f_recheck_checker_standard else
  bif qDG n 172 then some f_waferref11_Basic else
  bif qDG n 173 then some qbi else
  bif qDG n 174 then some qeQ else
  bif qDG n 175 then some qax else
  bif qDG n 176 then some qfk else
  bif qDG n 177 then some jK else
  bif qDG n 178 then some qcM else
  bif qDG n 179 then some qaw else
  bif qDG n 180 then some yc else
  bif qDG n 181 then some f_slices_Index___string_string_ else
  bif qDG n 184 then some jf else
  bif qDG n 185 then some y2 else
  bif qDG n 186 then some yz else
  bif qDG n 187 then some f_waferref17_basic else
  bif qDG n 230 then some zp else
  bif qDG n 231 then some f_slices_ContainsFunc___api_Type_api_Type_ else
  bif qDG n 232 then some qbE else
  bif qDG n 233 then some jb else
  bif qDG n 234 then some qaa else
  bif qDG n 242 then some f_types_sizes_words else
  bif qDG n 244 then some f_strings_Contains else
  bif qDG n 252 then some f_tree_sameType else
  bif qDG n 253 then some f_slices_EqualFunc___api_Expr___api_Expr_api_Expr_api_Expr_ else
  bif qDG n 254 then some f_slices_EqualFunc___api_Type___api_Type_api_Type_api_Type_ else
  bif qDG n 255 then some qcr else
  bif qDG n 256 then some f_front_Env_Right else
  bif qDG n 258 then some qf9 else
  bif qDG n 259 then some qcg else
  bif qDG n 260 then some qfa else
  bif qDG n 261 then some qhc else
  bif qDG n 262 then some qgG else
  bif qDG n 263 then some qbh else
  bif qDG n 264 then some qbI else
  bif qDG n 292 then some f_slices_IndexFunc___api_Type_api_Type_ else
  bif qDG n 294 then some f_strings_Index else
  bif qDG n 299 then some j0 else
  bif qDG n 301 then some f_front_forms else
  bif qDG n 303 then some jX else
  bif qDG n 322 then some f_internal_stringslite_Index else
  bif qDG n 324 then some qaZ else none
end W

/-
  More equations: nil slices, shifts, bits, bytes.
-/
set_option linter.unusedSimpArgs false
set_option linter.unusedVariables false
namespace W
open Go (IntKind BinOp UnOp)
theorem qm3 {xs : List D} : qkD true (.osl xs) = some (.osl xs) := (rfl)
theorem quI {own : Bool} {xs : List V} (h : own = true) : qkD own (.tup xs) = some (.tup xs) := by subst h; rfl
theorem kf {n : Nat} : isC (.t n) = false := (rfl)
theorem kA {x : D} : isC (.c x) = true := (rfl)
theorem qAu {n : Nat} : isC (.mv n) = false := (rfl)
theorem qCX {n : Nat} : isC (.f n) = false := (rfl)
theorem qoJ : qb1 .eql .slice true (.d .nil) (.d .nil) = some (.d (.b true)) := (rfl)
theorem qq5 {xs : List D} : qb1 .eql .slice true (.d (.sl xs)) (.d .nil) = some (.d (.b false)) := (rfl)
theorem qoB : qb1 .neq .slice true (.d .nil) (.d .nil) = some (.d (.b false)) := (rfl)
theorem qp0 {xs : List D} : qb1 .neq .slice true (.d (.sl xs)) (.d .nil) = some (.d (.b true)) := (rfl)
theorem qzA {i : Nat} : qb1 .eql .map true (.map i) (.d .nm) = some (.d (.b false)) := (rfl)
theorem qxa {c : Bool} {k k' : IntKind} {m n : Int} (h : (0 ≤ n) = True) : qb1 .shl .num c (.d (.i k m)) (.d (.i k' n)) = some (.d (.i k (wr k (m * 2 ^ (min n.toNat k.bits))))) := by
  have h : 0 ≤ n := by rw [h]; trivial
  simp [qb1, qek, qgz, qc9, h]
theorem qxd {c : Bool} {k k' : IntKind} {m n : Int} (h : (0 ≤ n) = True) : qb1 .shr .num c (.d (.i k m)) (.d (.i k' n)) = some (.d (.i k (m.fdiv (2 ^ (min n.toNat k.bits))))) := by
  have h : 0 ≤ n := by rw [h]; trivial
  simp [qb1, qek, qgz, qc9, h]
def orI (k : IntKind) (a b : Int) : Int := k.wrap ((BitVec.ofInt k.bits a) ||| (BitVec.ofInt k.bits b)).toNat
def qDn (k : IntKind) (a b : Int) : Int := k.wrap ((BitVec.ofInt k.bits a) &&& (BitVec.ofInt k.bits b)).toNat
def qC7 (k : IntKind) (a b : Int) : Int := k.wrap ((BitVec.ofInt k.bits a) ^^^ (BitVec.ofInt k.bits b)).toNat
theorem qwe {c : Bool} {k : IntKind} {m n : Int} : qb1 .or .num c (.d (.i k m)) (.d (.i k n)) = some (.d (.i k (orI k m n))) := by rw [qfX rfl]; rfl
theorem qnt {c : Bool} {k : IntKind} {m n : Int} : qb1 .and .num c (.d (.i k m)) (.d (.i k n)) = some (.d (.i k (qDn k m n))) := by rw [qfX rfl]; rfl
theorem qxp {c : Bool} {k : IntKind} {m n : Int} : qb1 .xor .num c (.d (.i k m)) (.d (.i k n)) = some (.d (.i k (qC7 k m n))) := by rw [qfX rfl]; rfl
def qey (s : Nat) (v : V) : V := match v with | .lp t o => bif qDG t s then .undef else .lp t o | v => v
theorem qN {s : Nat} : qeK s [] = [] := (rfl)
theorem qJ {s n : Nat} {v : V} {e : Env} : qeK s ((n, v) :: e) = (n, qey s v) :: qeK s e := (rfl)
theorem zj {s : Nat} {x : D} : qey s (.d x) = .d x := (rfl)
theorem qds {s : Nat} {x : List D} : qey s (.osl x) = .osl x := (rfl)
theorem zG {s i o : Nat} : qey s (.ptr i o) = .ptr i o := (rfl)
theorem qtH {s i : Nat} : qey s (.map i) = .map i := (rfl)
theorem yr {s : Nat} {x : List V} : qey s (.box x) = .box x := (rfl)
theorem qdh {s : Nat} {x : D} : qey s (.cp x) = .cp x := (rfl)
theorem qr8 {s : Nat} {x : List V} : qey s (.agg x) = .agg x := (rfl)
theorem qbq {s : Nat} {x : List V} : qey s (.tup x) = .tup x := (rfl)
theorem qoW {s i : Nat} {x y : List V} : qey s (.fn i x y) = .fn i x y := (rfl)
theorem qic {s i : Nat} {x : V} : qey s (.ifc i x) = .ifc i x := (rfl)
theorem qoS {s : Nat} : qey s .undef = .undef := (rfl)
theorem qpa {s t o : Nat} : qey s (.lp t o) = bif qDG t s then .undef else .lp t o := (rfl)
theorem qul {s a b c d : Nat} : qey s (.rs a b c d) = .rs a b c d := (rfl)
theorem qtA {α : Type} {s : Nat} {e : α → D} {L : List α} : qey s (slV e L) = slV e L := by cases L <;> rfl
theorem jA {cs vs : List V} (h : (vs.length = cs.length) = True) : jo cs 0 vs = some vs := by
  have h : vs.length = cs.length := by rw [h]; trivial
  simp [jo, h]
theorem ql6 {cs : List V} {o : Nat} {v w : V} (h : (o + 1 < cs.length) = True) : jo cs o [v, w] = some ((cs.set o v).set (o + 1) w) := by
  have h : o + 1 < cs.length := by rw [h]; trivial
  have : o + [v, w].length ≤ cs.length := by simp; omega
  rw [jo, if_pos this]
  congr 1
  apply List.ext_getElem?
  intro j
  simp only [List.getElem?_append, List.length_append, List.length_take, qDE, qDD, List.getElem?_drop, List.getElem?_set, List.length_set, List.getElem?_take]
  rcases Nat.lt_trichotomy j o with hj | hj | hj
  · rw [if_pos (by omega), if_pos (by omega), if_pos (by omega), if_neg (by omega), if_neg (by omega)]
  · subst hj
    rw [if_pos (by omega), if_neg (by omega), if_neg (by omega), if_pos rfl, if_pos (by omega)]
    have : j - min j cs.length = 0 := by omega
    simp [this]
  · by_cases hj2 : j = o + 1
    · subst hj2
      rw [if_pos (by omega), if_neg (by omega), if_pos rfl, if_pos (by omega)]
      have : o + 1 - min o cs.length = 1 := by omega
      simp [this]
    · rw [if_neg (by omega), if_neg (by omega), if_neg (by omega)]
      congr 1; omega
def cpV (r : Option D) : Option V := match r with | some y => bif y.one then some (.cp y) else none | none => none
theorem qfr {cs : List D} {off : Nat} : faV (.cp (.agg cs)) off ⟨1, false⟩ = cpV (cs[off]?) := by
  simp only [faV, D.part, cpV]
  cases h : cs[off]? with
  | none => simp [h]
  | some y => cases hy : y.one <;> simp [h, hy]
theorem qoH {k : IntKind} {n : Int} : cpV (some (.i k n)) = some (.cp (.i k n)) := (rfl)
theorem qks {x : List Nat} : cpV (some (.s x)) = some (.cp (.s x)) := (rfl)
theorem qB2 {x : Bool} : cpV (some (.b x)) = some (.cp (.b x)) := (rfl)
theorem qAa {x : List D} : cpV (some (.sl x)) = some (.cp (.sl x)) := (rfl)
theorem qrE : cpV (some .nil) = some (.cp .nil) := (rfl)
theorem qxk {α : Type} {e : α → D} {L : List α} : cpV (some (slD e L)) = some (.cp (slD e L)) := by cases L <;> rfl
def qw6 (l : L) (st : St) : V → Option V
  | .box cs => V.part 0 l cs
  | .ptr id off => qaW l st (.ptr id off)
  | _ => none
theorem zP {own : Bool} {st : St} {n : Nat} {l : L} : qfe own st (.cell n l) = qw6 l st (get n st.env) := by
  simp only [qfe, qw6]
  cases get n st.env <;> rfl
theorem qaj {l : L} {st : St} {cs : List V} : qw6 l st (.box cs) = qqF l 0 (.box cs) := (rfl)
theorem qgs {l : L} {st : St} {i o : Nat} : qw6 l st (.ptr i o) = qez none l st (.ptr i o) := (rfl)
theorem qqx {b : Bool} {cs : List D} : qm8 (.alloc b cs) = b := (rfl)
theorem qlk {b : Bool} {x : O} : qm8 (.box b x) = b := (rfl)
def qAY (r : Bool) (n : Nat) (cs : List V) (st : St) : Option St := bif r then some { st with env := (n, .box cs) :: st.env } else none
theorem qxu {no : List Nat} {n : Nat} {cs : List V} {st : St} : qe1 true no (some n) (.box cs) st = qAY (qcA n st.env) n cs st := by
  simp only [qe1, qAY, Bool.true_and]
theorem qAI {n : Nat} {cs : List V} {st : St} : qAY true n cs st = some ⟨(n, .box cs) :: st.env, st.H, st.lo⟩ := (rfl)
def lpD (r : Bool) (n m o : Nat) (st : St) : Option St := bif r then none else some { st with env := (n, .lp m o) :: st.env }
theorem qeR {bx : Bool} {no : List Nat} {n m o : Nat} {st : St} : qe1 bx no (some n) (.lp m o) st = lpD (qeJ m no) n m o st := (rfl)
theorem qiB {n m o : Nat} {st : St} : lpD false n m o st = some ⟨(n, .lp m o) :: st.env, st.H, st.lo⟩ := (rfl)
theorem qcn {n : Nat} : qeJ n [] = false := (rfl)
theorem qpq {n m : Nat} {l : List Nat} : qeJ n (m :: l) = (qDG n m || qeJ n l) := (rfl)
theorem qum {i o n c : Nat} : qex (.rs i o n c) = .rs i o n c := (rfl)
theorem qfu {i o : Nat} : qex (.ptr i o) = .ptr i o := (rfl)
theorem qtL {i : Nat} : qex (.map i) = .map i := (rfl)
theorem qwk {x : D} : qex (.cp x) = .cp x := (rfl)
theorem qup {i o : Nat} : qex (.lp i o) = .lp i o := (rfl)
theorem qgx {i : Nat} {u w : List V} : qex (.fn i u w) = .fn i u w := (rfl)
theorem qmI {t : Nat} {w : V} : qex (.ifc t w) = .ifc t w := (rfl)
theorem qty {w : List V} : qex (.agg w) = .agg w := (rfl)
theorem qtS {w : List V} : qex (.tup w) = .tup w := (rfl)
theorem qxC {bx : Bool} {no : List Nat} {n a b c d : Nat} {st : St} : qe1 bx no (some n) (.rs a b c d) st = some ⟨(n, .rs a b c d) :: st.env, st.H, st.lo⟩ := by cases bx <;> rfl
theorem qtU {α : Type} {bx : Bool} {no : List Nat} {n : Nat} {e : α → D} {L : List α} {st : St} : qe1 bx no (some n) (slV e L) st = some ⟨(n, slV e L) :: st.env, st.H, st.lo⟩ := by cases L <;> rfl
def noL (n : Nat) (v : V) : Bool := match v with | .lp m _ => !Nat.beq m n | _ => true
theorem qvu {n : Nat} : qcA n [] = true := (rfl)
theorem qy6 {n k : Nat} {v : V} {e : Env} : qcA n ((k, v) :: e) = (noL n v && qcA n e) := by cases v <;> rfl
theorem qCI {n : Nat} {x : D} : noL n (.d x) = true := (rfl)
theorem qwW {n : Nat} {x : List D} : noL n (.osl x) = true := (rfl)
theorem qwQ {n i o : Nat} : noL n (.ptr i o) = true := (rfl)
theorem qwU {n i : Nat} : noL n (.map i) = true := (rfl)
theorem qwx {n : Nat} {x : List V} : noL n (.box x) = true := (rfl)
theorem qAl {n : Nat} {x : D} : noL n (.cp x) = true := (rfl)
theorem qx8 {n : Nat} {x : List V} : noL n (.agg x) = true := (rfl)
theorem qwV {n : Nat} {x : List V} : noL n (.tup x) = true := (rfl)
theorem qz4 {n i : Nat} {x y : List V} : noL n (.fn i x y) = true := (rfl)
theorem qxl {n i : Nat} {x : V} : noL n (.ifc i x) = true := (rfl)
theorem qtt {n : Nat} : noL n .undef = true := (rfl)
theorem qzc {n a b c d : Nat} : noL n (.rs a b c d) = true := (rfl)
theorem qAk {n m o : Nat} : noL n (.lp m o) = !Nat.beq m n := (rfl)
theorem qxe {α : Type} {n : Nat} {e : α → D} {L : List α} : noL n (slV e L) = true := by cases L <;> rfl
theorem qp5 {k : D} {v : V} : qdP k v [] = some [(k, v)] := (rfl)
theorem qsN {o o' : Obj} : kO [o] 0 o' = [o'] := (rfl)
def e8 (n : Nat) : D := .i .u8 (n : Int)
end W

/- Walking on: interfaces, panics, function values, deferred closures. -/
set_option linter.unusedSimpArgs false
set_option linter.unusedVariables false
namespace W
open Go (IntKind BinOp UnOp)
variable {pg : Pg} {st : St} {call : Call}
def qvl (t : Nat) (v : V) (st : St) : Option Or := if v.ok then some ⟨false, true, .ifc t v, st⟩ else none
theorem qci {t : Nat} {x : O} : kM call (.mkIfc t x) st = qvl t (rd st.env x) st := (rfl)
theorem qep {t : Nat} {x : D} : qvl t (.d x) st = some ⟨false, true, .ifc t (.d x), st⟩ := (rfl)
def qCT (v : V) (st : St) : Option Or := match v with | .ifc t y => some ⟨true, true, .ifc t y, st⟩ | _ => none
theorem qeU {x : O} : kM call (.panic x) st = qCT (rd st.env x) st := (rfl)
theorem qhu {t : Nat} {y : V} : qCT (.ifc t y) st = some ⟨true, true, .ifc t y, st⟩ := (rfl)
theorem qf6 {t : Nat} {x : V} : qb1 .neq .iface true (.ifc t x) (.d .ni) = some (.d (.b true)) := (rfl)
theorem qx4 {t : Nat} {x : V} : qb1 .eql .iface true (.ifc t x) (.d .ni) = some (.d (.b false)) := (rfl)
theorem qiE : qb1 .neq .iface true (.d .ni) (.d .ni) = some (.d (.b false)) := (rfl)
theorem qyM : qb1 .eql .iface true (.d .ni) (.d .ni) = some (.d (.b true)) := (rfl)
noncomputable def qpt (pg : Pg) (v : V) (args : List O) (st : St) : Option Or :=
  match v with
  | .fn i first cap =>
    let vs := first ++ args.map (rd st.env) ++ cap
    if V.allLeave vs then (match qs pg i vs st.H with
      | some r => some ⟨r.pan, r.same, r.v, { env := spentAll args st.env, H := r.H, lo := min st.lo r.lo }⟩
      | none => none) else none
  | _ => none
theorem qfd {n : Nat} {args : List O} : qfE (qs pg) (.t n) args st = qpt pg (rd st.env (.t n)) args st := (rfl)
theorem qlX {i : Nat} {args : List O} (hl : V.allLeave (args.map (rd st.env)) = true) : qpt pg (.fn i [] []) args st = qhG (qs pg i (args.map (rd st.env)) st.H) args st := by
  have : ([] : List V) ++ args.map (rd st.env) ++ [] = args.map (rd st.env) := by simp
  simp only [qpt, this, hl, if_true, qhG]
  all_goals rfl
theorem qpF {t : Nat} {x : D} : V.leaves (.ifc t (.d x)) = true := (rfl)
theorem qps {t : Nat} : V.leaves (.ifc t .undef) = true := (rfl)
def qtW (f : Nat) (a b : List V) (st : St) : Option Or := if V.ok.oks a && V.ok.oks b then some ⟨false, true, .fn f a b, st⟩ else none
theorem qeC {f : Nat} {a b : List O} : kM call (.mkFn f a b) st = qtW f (a.map (rd st.env)) (b.map (rd st.env)) st := (rfl)
theorem qgv {f : Nat} {a b : List V} (h : (V.ok.oks a && V.ok.oks b) = true) : qtW f a b st = some ⟨false, true, .fn f a b, st⟩ := by simp [qtW, h]
theorem qwM {f : Nat} {a b : List V} : copy (.fn f a b) = .fn f a b := (rfl)
theorem qq2 {s t : Nat} {x : D} : qey s (.ifc t (.d x)) = .ifc t (.d x) := (rfl)
theorem qqg {s t : Nat} : qey s (.ifc t .undef) = .ifc t .undef := (rfl)
theorem quJ {n t : Nat} {x : D} : noL n (.ifc t (.d x)) = true := (rfl)
theorem qvT {n t : Nat} : noL n (.ifc t .undef) = true := (rfl)
theorem qnl {bx : Bool} {no : List Nat} {n f : Nat} {a b : List V} : qe1 bx no (some n) (.fn f a b) st = some ⟨(n, .fn f a b) :: st.env, st.H, st.lo⟩ := by cases bx <;> rfl
theorem qt7 {bx : Bool} {no : List Nat} {n f : Nat} {a : V} : qe1 bx no (some n) (.ifc f a) st = some ⟨(n, .ifc f a) :: st.env, st.H, st.lo⟩ := by cases bx <;> rfl
theorem qfJ {H : List Obj} {pan : Bool} {v : V} {e : Env} {lo id : Nat} {o : Obj} (hv : v.leaves = true) (hr : v.ref = 0) (hs : ∀ G, settle H.length G v = v) (hh : kO H id o = H ∨ lo ≤ id) (hid : id < H.length) :
    ∃ sm, leave H pan v ⟨e, kO H id o, lo⟩ = some ⟨pan, sm, v, kO H id o, lo⟩ := by
  by_cases hl : H.length ≤ lo
  · have he : kO H id o = H := by
      rcases hh with h | h
      · exact h
      · omega
    rw [he]
    exact ⟨true, qat hv (by omega) hl (hs _)⟩
  · exact ⟨false, qjS hv (.inr (by simp only; omega)) (hs _)⟩
theorem qhD {t : Nat} {x : V} : copy (.ifc t x) = .ifc t x := (rfl)
theorem qtl {t : Nat} {x : V} : qb2 (.ifc t x) = .ifc t x := (rfl)
theorem qoj : V.ok .undef = true := (rfl)
def qwS (r : Option (List D)) : Option V := match r with | some xs => if D.wfs xs then some (.fsl xs) else none | none => none
theorem qkB {call : Call} {st : St} {zero : D} {n : Nat} {ps : List (Nat × O)} : kM call (.buildFull zero n ps) st = okS (qwS (qew zero.cells.length (List.replicate n zero) (ps.map fun (j, x) => (j, rd st.env x)))) st := by
  show qbA zero n ps st = _
  unfold qbA qwS
  cases qew zero.cells.length (List.replicate n zero) (ps.map fun (j, x) => (j, rd st.env x)) with
  | none => rfl
  | some xs => simp only; split <;> rfl
theorem qtr {xs : List D} (h : D.wfs xs = true) : qwS (some xs) = some (.fsl xs) := by simp [qwS, h]
def qB0 (r : Option (List V)) : Option V := match r with | some cs => some (.agg cs) | none => none
theorem qm7 {call : Call} {st : St} {zero : List D} {ps : List (Nat × Nat × O)} : kM call (.buildV zero ps) st = okS (qB0 (qhV (zero.map .d) (ps.map fun (o, s, x) => (o, s, rd st.env x)))) st := by
  show qdH zero ps st = _
  unfold qdH qhV
  cases qcs (ps.map fun (o, s, x) => (o, s, rd st.env x)) with
  | false => rfl
  | true => simp only [qDL, cond_false, cond_true]; cases fill (zero.map .d) (ps.map fun (o, s, x) => (o, s, rd st.env x)) <;> rfl
theorem qsW {cs : List V} : qB0 (some cs) = some (.agg cs) := (rfl)
theorem qtP {n : Nat} {xs : List D} : qd1 n (.fsl xs) = .fsl xs := (rfl)
theorem qsL {xs : List D} : qex (.fsl xs) = .fsl xs := (rfl)
theorem qw0 {st : St} {n : Nat} {xs : List D} : put (some n) (.fsl xs) st = ⟨(n, .fsl xs) :: st.env, st.H, st.lo⟩ := (rfl)
theorem qsp {xs : List D} : zz (.fsl xs) = .fsl xs := (rfl)
theorem qsz {xs : List D} : V.cells (.fsl xs) = [.fsl xs] := (rfl)
theorem qui {x : List D} : V.one (.fsl x) = true := (rfl)
theorem qux {x : List D} {l : List V} : qc0 (.fsl x :: l) = qmN (.sl x) (qc0 l) := (rfl)
theorem qtM {x : List D} : qb2 (.fsl x) = .fsl x := (rfl)
theorem qwo {x : List D} : copy (.fsl x) = .fsl x := (rfl)
theorem qs4 {s : Nat} {x : List D} : qey s (.fsl x) = .fsl x := (rfl)
theorem qw4 {n : Nat} {x : List D} : noL n (.fsl x) = true := (rfl)
theorem qwB {z b : Nat} {xs ys : List D} (hx : yP z xs = true) (h : yP z ys = true) (hr : roomy b (xs.length + ys.length) = true) : qbm z b (.fsl xs) (.d (.sl ys)) = some (.osl (xs ++ ys)) := by
  simp [qbm, hx, h, hr]
def mvB (st : St) (s : Nat) (o : Nat) (r : V) : Option Or := match r with
  | .box cs => mvC st s o cs (cs[o]?)
  | _ => none
 where mvC (st : St) (s o : Nat) (cs : List V) : Option V → Option Or
  | some v => some ⟨false, true, v, { st with env := (s, .box (cs.set o .undef)) :: st.env }⟩
  | none => none
theorem qwF {st : St} {s o : Nat} {cs : List V} : mvB st s o (.box cs) = mvB.mvC st s o cs (cs[o]?) := (rfl)
theorem qv6 {st : St} {s o : Nat} {cs : List V} {v : V} : mvB.mvC st s o cs (some v) = some ⟨false, true, v, { st with env := (s, .box (cs.set o .undef)) :: st.env }⟩ := (rfl)
def qkM (sl : Nat) (st : St) (r : V) : Option Or := match r with
  | .lp s o => bif qDG sl s then mvB st s o (get s st.env) else none
  | _ => none
theorem qms {call : Call} {st : St} {s : Nat} {a : O} : kM call (.load true (some s) ⟨1, false⟩ a) st = qkM s st (rd st.env a) := by
  show qdf true (some s) ⟨1, false⟩ a st = _
  unfold qdf qkM
  cases rd st.env a with
  | lp s' o =>
    simp only [yJ]
    cases qDG s s' with
    | false => rfl
    | true =>
      simp only [qDL, cond_false, cond_true, qjB, mvB]
      cases get s' st.env with
      | box cs => simp only; cases hq : cs[o]? <;> rfl
      | _ => rfl
  | _ => rfl
theorem qqI {st : St} {s o : Nat} : qkM s st (.lp s o) = mvB st s o (get s st.env) := by simp [qkM]
end W

/-
  The same evaluator, in forms that the kernel reckons fast.
-/
set_option linter.unusedSimpArgs false
set_option linter.unusedVariables false
namespace W
open Go (IntKind BinOp UnOp)
noncomputable def fget (n : Nat) (e : Env) : V := List.rec (motive := fun _ => V) .undef (fun p _ ih => Bool.rec ih p.2 (qDG n p.1)) e
theorem qjh (n : Nat) (e : Env) : fget n e = get n e := by
  induction e with
  | nil => rfl
  | cons p e ih =>
    obtain ⟨m, v⟩ := p
    show Bool.rec (fget n e) v (qDG n m) = bif qDG n m then v else get n e
    rw [ih]
    cases qDG n m <;> rfl
noncomputable def fnth {α : Type} (l : List α) (n : Nat) : Option α :=
  List.rec (motive := fun _ => Nat → Option α) (fun _ => none) (fun x _ ih n => Nat.rec (motive := fun _ => Option α) (some x) (fun m _ => ih m) n) l n
theorem qjw {α : Type} (l : List α) (n : Nat) : fnth l n = l[n]? := by
  induction l generalizing n with
  | nil => rfl
  | cons x l ih =>
    cases n with
    | zero => rfl
    | succ n => exact ih n
noncomputable def frd (e : Env) (o : O) : V := O.rec (motive := fun _ => V) (fun n => qd1 n (fget n e)) (fun x => .d x) (fun i => .fn i [] []) (fun n => qex (fget n e)) (fun _ x => .cp x) o
theorem qe5 (e : Env) (o : O) : frd e o = rd e o := by cases o <;> simp only [frd, qjh] <;> rfl
noncomputable def qbH {α : Type} (a : Nat) (k : Nat → α) : α := Nat.rec (motive := fun _ => α) (k 0) (fun m _ => k (Nat.succ m)) a
noncomputable def ql9 {α : Type} (n : Int) (k : Int → α) : α := Int.rec (motive := fun _ => α) (fun a => qbH a fun a => k (.ofNat a)) (fun a => qbH a fun a => k (.negSucc a)) n
noncomputable def qlt {α : Type} (b : Bool) (k : Bool → α) : α := Bool.rec (motive := fun _ => α) (k false) (k true) b
theorem qeA {α : Type} (a : Nat) (k : Nat → α) : qbH a k = k a := by cases a <;> rfl
theorem qj7 {α : Type} (n : Int) (k : Int → α) : ql9 n k = k n := by
  cases n with
  | ofNat a => exact qeA a fun a => k (.ofNat a)
  | negSucc a => exact qeA a fun a => k (.negSucc a)
theorem qjQ {α : Type} (b : Bool) (k : Bool → α) : qlt b k = k b := by cases b <;> rfl
noncomputable def qqo {α : Type} (l : List Nat) (k : List Nat → α) : α :=
  List.rec (motive := fun _ => (List Nat → α) → α) (fun k => k []) (fun x _ ih k => qbH x fun x => ih fun r => k (x :: r)) l k
theorem qtR {α : Type} (l : List Nat) (k : List Nat → α) : qqo l k = k l := by
  induction l generalizing k with
  | nil => rfl
  | cons x l ih => exact (qeA x fun x => qqo l fun r => k (x :: r)).trans (ih fun r => k (x :: r))
noncomputable def qcv {β α : Type} (f : β → (β → α) → α) (l : List β) (k : List β → α) : α :=
  List.rec (motive := fun _ => (List β → α) → α) (fun k => k []) (fun x _ ih k => f x fun x => ih fun r => k (x :: r)) l k
theorem qbr {β α : Type} {f : β → (β → α) → α} (hf : ∀ x k, f x k = k x) (l : List β) (k : List β → α) : qcv f l k = k l := by
  induction l generalizing k with
  | nil => rfl
  | cons x l ih => exact (hf x fun x => qcv f l fun r => k (x :: r)).trans (ih fun r => k (x :: r))
noncomputable def qg7 {α : Type} (x : D) (k : D → α) : α :=
  D.casesOn (motive_1 := fun _ => α) x (fun z => qlt z fun z => k (.b z)) (fun kk n => ql9 n fun n => k (.i kk n)) (fun t => k (.s t)) (k .nil) (fun xs => k (.sl xs)) (fun cs => k (.agg cs)) (k .np) (k .nf) (k .ni) (k .nm)
theorem qeE {α : Type} (x : D) (k : D → α) : qg7 x k = k x := by
  cases x with
  | b z => exact qjQ z fun z => k (.b z)
  | i kk n => exact qj7 n fun n => k (.i kk n)
  | _ => rfl
noncomputable def qwp {α : Type} (x : D) (k : D → α) : α :=
  D.casesOn (motive_1 := fun _ => α) x (fun z => qlt z fun z => k (.b z)) (fun kk n => ql9 n fun n => k (.i kk n)) (fun t => qqo t fun t => k (.s t)) (k .nil) (fun xs => qcv qg7 xs fun xs => k (.sl xs)) (fun cs => qcv qg7 cs fun cs => k (.agg cs)) (k .np) (k .nf) (k .ni) (k .nm)
theorem qsB {α : Type} (x : D) (k : D → α) : qwp x k = k x := by
  cases x with
  | b z => exact qjQ z fun z => k (.b z)
  | i kk n => exact qj7 n fun n => k (.i kk n)
  | s t => exact qtR t fun t => k (.s t)
  | sl xs => exact qbr qeE xs fun xs => k (.sl xs)
  | agg xs => exact qbr qeE xs fun xs => k (.agg xs)
  | _ => rfl
noncomputable def qbk {α : Type} (v : V) (k : V → α) : α :=
  V.casesOn (motive_1 := fun _ => α) v (fun x => qg7 x fun x => k (.d x)) (fun xs => k (.osl xs)) (fun xs => k (.fsl xs)) (fun i o => qbH i fun i => qbH o fun o => k (.ptr i o)) (fun i o => qbH i fun i => qbH o fun o => k (.lp i o)) (fun cs => k (.box cs)) (fun x => k (.cp x))
    (fun i o n c => k (.rs i o n c)) (fun i => qbH i fun i => k (.map i)) (fun f a b => k (.fn f a b)) (fun t x => k (.ifc t x)) (fun cs => k (.agg cs)) (fun vs => k (.tup vs)) (k .undef)
theorem qbv {α : Type} (v : V) (k : V → α) : qbk v k = k v := by
  cases v with
  | d x => exact qeE x fun x => k (.d x)
  | _ => simp only [qbk, qeA]
noncomputable def qqT {α : Type} (v : V) (k : V → α) : α :=
  V.casesOn (motive_1 := fun _ => α) v (fun x => qwp x fun x => k (.d x)) (fun xs => qcv qg7 xs fun xs => k (.osl xs)) (fun xs => qcv qg7 xs fun xs => k (.fsl xs)) (fun i o => qbH i fun i => qbH o fun o => k (.ptr i o)) (fun i o => qbH i fun i => qbH o fun o => k (.lp i o)) (fun cs => qcv qbk cs fun cs => k (.box cs)) (fun x => qg7 x fun x => k (.cp x))
    (fun i o n c => qbH i fun i => qbH o fun o => qbH n fun n => qbH c fun c => k (.rs i o n c)) (fun i => qbH i fun i => k (.map i)) (fun f a b => qbH f fun f => k (.fn f a b)) (fun t x => k (.ifc t x)) (fun cs => qcv qbk cs fun cs => k (.agg cs)) (fun vs => qcv qbk vs fun vs => k (.tup vs)) (k .undef)
theorem qtm {α : Type} (v : V) (k : V → α) : qqT v k = k v := by
  cases v with
  | d x => exact qsB x fun x => k (.d x)
  | osl xs => exact qbr qeE xs fun xs => k (.osl xs)
  | fsl xs => exact qbr qeE xs fun xs => k (.fsl xs)
  | box cs => exact qbr qbv cs fun cs => k (.box cs)
  | cp x => exact qeE x fun x => k (.cp x)
  | agg cs => exact qbr qbv cs fun cs => k (.agg cs)
  | tup cs => exact qbr qbv cs fun cs => k (.tup cs)
  | _ => simp only [qqT, qeA]
noncomputable def qu9 {α : Type} (o : Obj) (k : Obj → α) : α :=
  Obj.casesOn (motive := fun _ => α) o (fun cs => qcv qbk cs fun cs => k (.cells cs)) (fun es => qcv (fun p k => qbk p.2 fun v => k (p.1, v)) es fun es => k (.map es))
theorem qsA {α : Type} (o : Obj) (k : Obj → α) : qu9 o k = k o := by
  cases o with
  | cells cs => exact qbr qbv cs fun cs => k (.cells cs)
  | map es => exact qbr (fun p k => qbv p.2 fun v => k (p.1, v)) es fun es => k (.map es)
noncomputable def qjz {α : Type} (H : List Obj) (k : List Obj → α) : α := qcv (fun o k => qu9 o k) H k
theorem qmH {α : Type} (H : List Obj) (k : List Obj → α) : qjz H k = k H := qbr qsA _ _
noncomputable def qwr (l : L) (off : Nat) (cs : List V) : Option V := Bool.rec (motive := fun _ => Option V) ((fnth cs off).map qb2) (V.part off l cs) l.agg
noncomputable def qm5 (l : L) (st : St) (v : V) : Option V :=
  match v with
  | .lp s off => match fget s st.env with
    | .box cs => qwr l off cs
    | _ => none
  | .ptr id off => match fnth st.H id with
    | some (.cells cs) => qwr l off cs
    | _ => none
  | v => qaW l st v
theorem qAF (l : L) (off : Nat) (cs : List V) : qwr l off cs = V.part off l cs := by
  obtain ⟨n, agg⟩ := l
  cases agg with
  | true => rfl
  | false => show (fnth cs off).map qb2 = _; rw [qjw]; simp [V.part]
theorem qqs : qm5 = qaW := by
  funext l st v
  cases v <;> simp only [qm5, qAF, qjh, qjw] <;> rfl
noncomputable def qBm (x : O) (st : St) : Option Or := ok (frd st.env x) { st with env := spent x st.env }
noncomputable def qyv (c : O) (a : O) (b : O) (st : St) : Option Or :=
  match frd st.env c with
    | .d (.b z) => ok (Bool.rec (motive := fun _ => V) (frd st.env b) (frd st.env a) z) st
    | _ => none
noncomputable def qyn (mv : Bool) (sl : Option Nat) (l : L) (a : O) (st : St) : Option Or :=
  Bool.rec (motive := fun _ => Option Or) (bif !yJ sl (frd st.env a) then none else (match qm5 l st (frd st.env a) with | some v => ok v st | none => none)) (qdf true sl l a st) mv
noncomputable def qm4 (x : O) (st : St) : Option Or :=
  match frd st.env x with
    | .ptr id off => ok (.ptr id off) st
    | .lp s off => ok (.lp s off) st
    | .cp y => ok (.cp y) st
    | _ => none
noncomputable def qBx (op : BinOp) (kd : Kd) (x : O) (y : O) (st : St) : Option Or :=
  match qb1 op kd (isC x || isC y) (frd st.env x) (frd st.env y) with
    | some v => ok v st
    | none => none
noncomputable def qld (x : O) (off : Nat) (l : L) (st : St) : Option Or :=
  match frd st.env x with
    | .ptr id o => ok (.ptr id (o + off)) st
    | .lp s o => ok (.lp s (o + off)) st
    | _ => qaS x off l st
noncomputable def qlz (x : O) (i : O) (size : Nat) (arr : Option Nat) (st : St) : Option Or :=
  match frd st.env i with
    | .d (.i _ n) => match arr with
      | some len => bif leI 0 n && !leI len n then (match frd st.env x with
        | .ptr id o => ok (.ptr id (o + n.toNat * size)) st
        | .lp s o => ok (.lp s (o + n.toNat * size)) st
        | .cp (.agg cs) => bif qDG size 1 then (match fnth cs n.toNat with
          | some y => if y.one then ok (.cp y) st else none
          | none => none) else none
        | _ => none) else none
      | none => bif leI 0 n then (match frd st.env x with
        | .d (.sl xs) => match fnth xs n.toNat with
          | some y => bif qDG y.cells.length size then ok (.cp y) st else none
          | none => none
        | .rs id o len _ => bif !leI len n && qDG size 1 then ok (.ptr id (o + n.toNat)) st else none
        | _ => none) else none
    | _ => none
noncomputable def quf (x : O) (i : O) (st : St) : Option Or :=
  match frd st.env x, frd st.env i with
    | .d (.s t), .d (.i _ n) => bif leI 0 n then (match fnth t n.toNat with
        | some y => ok (.d (.i .u8 y)) st
        | none => none) else none
    | _, _ => none
noncomputable def qpN (x : O) (i : Nat) (st : St) : Option Or :=
  match x with
    | .t n => match fget n st.env with
      | .tup vs => match fnth vs i with
        | some v => ok (copy v) st
        | none => none
      | _ => none
    | _ => none
noncomputable def qqE {α : Type} (l : List α) : Nat := List.rec (motive := fun _ => Nat) 0 (fun _ _ ih => Nat.succ ih) l
theorem qnd {α : Type} (l : List α) : qqE l = l.length := by
  induction l with
  | nil => rfl
  | cons x l ih => simp only [qDE, ← ih]; rfl
noncomputable def qym (x : O) (st : St) : Option Or :=
  match frd st.env x with
    | .d (.s t) => ok (.d (.i .i64 (qqE t))) st
    | _ => none
noncomputable def qyd (x : O) (st : St) : Option Or :=
  match frd st.env x with
    | .d .nil => ok (.d (.i .i64 0)) st
    | .d (.sl xs) => ok (.d (.i .i64 (qqE xs))) st
    | .rs _ _ n _ => ok (.d (.i .i64 n)) st
    | _ => none
noncomputable def fBi (b : Bi) (args : List O) (st : St) : Option Or :=
  match b, args with
    | .lenS, [x] => qym x st
    | .lenL, [x] => qyd x st
    | b, l => eBi b l st
noncomputable def qe6 (call : Call) (k : OpK) (st : St) : Option Or :=
  match k with
  | .mov x => qBm x st
  | .pick c a b => qyv c a b st
  | .load mv sl l a => qyn mv sl l a st
  | .nilCheck x => qm4 x st
  | .bin op kd x y => qBx op kd x y st
  | .fieldAddr x off l => qld x off l st
  | .indexAddr x i size arr => qlz x i size arr st
  | .index x i => quf x i st
  | .extract x i => qpN x i st
  | .bi b args => fBi b args st
  | k => kM call k st
theorem qtv : qe6 = kM := by
  funext call k st
  cases k with
  | mov x => simp only [qe6, qBm, qe5]; rfl
  | pick c a b =>
    simp only [qe6, qyv, qe5, kM, qg8]
    cases rd st.env c with
    | d w => cases w with
      | b z => cases z <;> rfl
      | _ => rfl
    | _ => rfl
  | load mv sl l a => cases mv <;> simp only [qe6, qyn, qe5, qqs] <;> rfl
  | nilCheck x => simp only [qe6, qm4, qe5]; rfl
  | bin op kd x y => simp only [qe6, qBx, qe5]; rfl
  | fieldAddr x off l =>
    simp only [qe6, qld, qe5, kM]
    split <;> rename_i h <;> (try simp only [qaS, h])
  | indexAddr x i size arr => simp only [qe6, qlz, qe5, qjw]; rfl
  | index x i => simp only [qe6, quf, qe5, qjw]; rfl
  | extract x i => simp only [qe6, qpN, qjh, qjw]; rfl
  | bi b args =>
    simp only [qe6, fBi, kM]
    split
    · rename_i x; simp only [qym, qe5, qnd]; rfl
    · rename_i x
      simp only [qyd, qe5, qnd]
      show _ = qf1 x st
      unfold qf1
      cases rd st.env x with
      | d w => cases w <;> rfl
      | _ => rfl
    · rfl
  | _ => rfl
noncomputable def makes (k : OpK) : Bool :=
  match k with
  | .mov _ => false
  | .load _ _ _ _ => false
  | .extract _ _ => false
  | .pick _ _ _ => false
  | .nilCheck _ => false
  | .store _ _ _ _ => false
  | .call _ _ => false
  | .indexAddr _ _ _ _ => false
  | .fieldAddr _ _ _ => false
  | .field _ _ _ => false
  | _ => true
noncomputable def qqe {α : Type} (m : Bool) (v : V) (k : V → α) : α := Bool.rec (motive := fun _ => α) (qbk v k) (qqT v k) m
theorem qsb {α : Type} (m : Bool) (v : V) (k : V → α) : qqe m v k = k v := by
  cases m
  · exact qbv v k
  · exact qtm v k
noncomputable def frestrict (live : List Nat) (e : Env) (k : Env → Option (Ex × St)) : Option (Ex × St) :=
  List.rec (motive := fun _ => (Env → Option (Ex × St)) → Option (Ex × St)) (fun k => k []) (fun n _ ih k => qbk (match fget n e with | .lp _ _ => .undef | v => v) fun v => ih fun r => k ((n, v) :: r)) live k
theorem qgJ (live : List Nat) (e : Env) (k : Env → Option (Ex × St)) : frestrict live e k = k (restrict live e) := by
  induction live generalizing k with
  | nil => rfl
  | cons n l ih =>
    show qbk (match fget n e with | .lp _ _ => .undef | v => v) (fun v => frestrict l e fun r => k ((n, v) :: r)) = _
    rw [qbv, ih, qjh]
    rfl
end W

