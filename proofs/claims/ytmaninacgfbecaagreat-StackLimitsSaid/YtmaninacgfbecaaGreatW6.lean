/-
  StackLimits: part 6 of what the proof rests on (a value semantics for a part of the language, sound against the model; the walks).
-/
import Derived.Test.YtmaninacgfbecaaGreatRows
import Derived.WalkKit
import Derived.ProofKit
import Derived.OpenShut
import Derived.JoinedOf
import Derived.Handed
import Derived.Test.YtmaninacgfbecaaGreatW5
set_option linter.unusedVariables false
open Nat renaming beq → qCy, le_refl → qCC, eq_of_beq_eq_true → qCD
open Bool renaming and_eq_true → qCz, cond_eq_ite → qCA, false_eq_true → qCG
open Option renaming bind_eq_some_iff → qCB, bind_eq_bind → qCE, pure_def → qCF, map_some → qCH
namespace W
def jl : Fn := ⟨2, [(.cell 4 (s_ 8))], true, (k_ [o_ 3 (.box true (.t 1)), o_ 4 (.alloc true [(.i .i64 0), (.i .i64 0), (.i .i64 0), (.s []), .nil, (.i .i32 0), (.s []), .nil])] (.seq (.block 0 [3, 4] (qaW)) (qaI))), none, none⟩
def jM : Fn := ⟨2, [(.cell 4 (s_ 4))], true, (k_ [o_ 4 (.alloc true [(.i .i64 0), .nil, .nil, .nil])] (k_ [o_ 8 (.build [(.i .i64 0), .nil, .nil, .nil] []), o_ 5 (.alloc true [(.i .i64 0), .nil, .nil, .nil]), z_ (.store (some 5) (s_ 4) (.t 5) (.t 8))] (.seq (k_ [m_ 9 1, o_ 10 (.bin .eql .num (.t 9) (.c (.s [79, 117, 116, 46, 76, 110])))] (.cond (.t 10) (.seq (k_ [m_ 11 0, o_ 12 (.call (.f 35) [.t 11, (.c (.s [40]))])] (.cond (.t 12) (.ops [v_ 13 0, c_ 14 233 [.mv 13]]) (.skip))) (k_ [a_ 15 5 0, z_ (.store (some 5) l_ (.t 15) (i_ 17))] (k_ [o_ 16 (.load false (some 5) (s_ 4) (.t 5)), z_ (.store (some 4) (s_ 4) (.t 4) (.t 16))] (.ret)))) (.skip))) (k_ [m_ 17 1, o_ 18 (.bin .eql .num (.t 17) (.c (.s [73, 110, 46, 67, 104, 97, 114]))), m_ 6 18] (.seq (k_ [m_ 19 6, u_ 20 19, m_ 21 20, q_ 22 21 true (.mov (.t 1)), q_ 23 21 true (.bin .neq .num (.t 22) (.c (.s [79, 117, 116, 46, 73, 110, 116]))), o_ 24 (.pick (.t 21) (.t 23) (.c (.b false))), m_ 25 24, q_ 26 25 true (.mov (.t 1)), q_ 27 25 true (.bin .neq .num (.t 26) (.c (.s [79, 117, 116, 46, 67, 104, 97, 114]))), o_ 28 (.pick (.t 25) (.t 27) (.c (.b false))), m_ 29 28, q_ 30 29 true (.mov (.t 1)), q_ 31 29 true (.bin .neq .num (.t 30) (.c (.s [79, 117, 116, 46, 83, 116, 114, 105, 110, 103]))), o_ 32 (.pick (.t 29) (.t 31) (.c (.b false)))] (.cond (.t 32) (.ops [m_ 33 0, c_ 34 34 [.t 33, (i_ 32)]]) (.skip))) (k_ [m_ 35 0, c_ 36 231 [.t 35]] (.seq (k_ [m_ 37 1] (.block 0 [0, 4, 5] (k_ [o_ 75 (.bin .eql .num (.t 37) (.c (.s [73, 110, 46, 67, 104, 97, 114]))), m_ 74 75] (.cond (.t 74) (.ops [m_ 76 0, c_ 77 232 [.t 76, (i_ 2)], o_ 78 (.buildSlice (.agg [(.i .i64 0), (.i .i64 0), (.i .i64 0), (.s []), .nil, (.i .i32 0), (.s []), .nil]) 1 [(0, (.t 77))]), a_ 79 5 0, z_ (.store (some 5) l_ (.t 79) (i_ 13)), a_ 80 5 1, z_ (.store (some 5) l_ (.t 80) (.mv 78))]) (k_ [o_ 82 (.bin .eql .num (.t 37) (.c (.s [79, 117, 116, 46, 73, 110, 116]))), m_ 81 82] (.cond (.t 81) (.ops [m_ 83 0, c_ 84 174 [.t 83], o_ 85 (.buildSlice (.agg [(.i .i64 0), (.i .i64 0), (.i .i64 0), (.s []), .nil, (.i .i32 0), (.s []), .nil]) 1 [(0, (.t 84))]), a_ 86 5 0, z_ (.store (some 5) l_ (.t 86) (i_ 14)), a_ 87 5 1, z_ (.store (some 5) l_ (.t 87) (.mv 85))]) (k_ [o_ 89 (.bin .eql .num (.t 37) (.c (.s [79, 117, 116, 46, 67, 104, 97, 114]))), m_ 88 89] (.cond (.t 88) (.ops [m_ 90 0, c_ 91 171 [.t 90, (i_ 2)], o_ 92 (.buildSlice (.agg [(.i .i64 0), (.i .i64 0), (.i .i64 0), (.s []), .nil, (.i .i32 0), (.s []), .nil]) 1 [(0, (.t 91))]), a_ 93 5 0, z_ (.store (some 5) l_ (.t 93) (i_ 15)), a_ 94 5 1, z_ (.store (some 5) l_ (.t 94) (.mv 92))]) (k_ [m_ 38 0, c_ 39 71 [.t 38], o_ 7 (.alloc true [(.i .i64 0), (.i .i64 0), (.i .i64 0), (.s []), .nil, (.i .i32 0), (.s []), .nil]), z_ (.store (some 7) (s_ 8) (.t 7) (.mv 39))] (k_ [m_ 40 0, a_ 41 7 0, d_ 42 7 41, g_ 43 .eql 42 0, m_ 44 43, q_ 45 44 true (.fieldAddr (.t 7) 1 (s_ 4)), q_ 46 44 true (.fieldAddr (.t 45) 0 l_), q_ 47 44 true (.load false (some 7) l_ (.t 46)), q_ 48 44 true (.bin .eql .num (.t 47) (i_ 6)), o_ 49 (.pick (.t 44) (.t 48) (.c (.b false))), m_ 50 49, q_ 51 50 false (.load false (some 7) (s_ 8) (.t 7)), q_ 52 50 false (.call (.f 237) [.t 51]), q_ 53 50 false (.mov (.mv 52)), q_ 54 53 true (.fieldAddr (.t 7) 1 (s_ 4)), q_ 55 53 true (.fieldAddr (.t 54) 0 l_), q_ 56 53 true (.load false (some 7) l_ (.t 55)), q_ 57 53 true (.bin .eql .num (.t 56) (i_ 7)), q_ 58 50 false (.pick (.t 53) (.t 57) (.c (.b false))), q_ 59 50 false (.mov (.t 58)), q_ 60 59 true (.fieldAddr (.t 7) 1 (s_ 4)), q_ 61 59 true (.fieldAddr (.t 60) 3 l_), q_ 62 59 true (.load false (some 7) l_ (.t 61)), q_ 63 59 true (.indexAddr (.t 62) (i_ 0) 4 none), q_ 64 59 true (.fieldAddr (.t 63) 0 l_), q_ 65 59 true (.load false none l_ (.t 64)), q_ 66 59 true (.bin .eql .num (.t 65) (i_ 2)), q_ 67 50 false (.pick (.t 59) (.t 66) (.c (.b false))), o_ 68 (.pick (.t 50) (.c (.b true)) (.t 67)), c_ 69 72 [.t 40, .t 68]] (.opsD [(o_ 70 (.load false (some 7) (s_ 8) (.t 7)), false, []), (o_ 71 (.buildSlice (.agg [(.i .i64 0), (.i .i64 0), (.i .i64 0), (.s []), .nil, (.i .i32 0), (.s []), .nil]) 1 [(0, (.t 70))]), false, []), (a_ 72 5 0, false, []), (z_ (.store (some 5) l_ (.t 72) (i_ 16)), false, []), (a_ 73 5 1, true, []), (z_ (.store (some 5) l_ (.t 73) (.mv 71)), true, [])]))))))))))) (k_ [v_ 95 0, c_ 96 233 [.mv 95]] (k_ [o_ 97 (.load false (some 5) (s_ 4) (.t 5)), z_ (.store (some 4) (s_ 4) (.t 4) (.t 97))] (.ret)))))))))), none, none⟩
def qdx : Fn := ⟨1, [.t 2], true, (k_ [o_ 1 (.box true (.t 0)), o_ 2 (.mov (.c (.b false)))] (.seq (k_ [a_ 3 1 0, d_ 4 1 3] (.block 0 [] (.seq (k_ [g_ 6 .eql 4 1, m_ 5 6] (.cond (.t 5) (.skip) (k_ [g_ 7 .eql 4 2, m_ 5 7] (.cond (.t 5) (.skip) (k_ [g_ 8 .eql 4 3, m_ 5 8] (.cond (.t 5) (.skip) (.ops [g_ 9 .eql 4 4, m_ 5 9]))))))) (.cond (.t 5) (k_ [a_ 10 1 1, d_ 11 1 10, g_ 12 .eql 11 0, m_ 13 12, q_ 14 13 true (.fieldAddr (.t 1) 2 l_), q_ 15 13 true (.load false (some 1) l_ (.t 14)), q_ 16 13 true (.bin .eql .num (.t 15) (.c (.s []))), o_ 17 (.pick (.t 13) (.t 16) (.c (.b false))), m_ 18 17, q_ 19 18 true (.fieldAddr (.t 1) 3 l_), q_ 20 18 true (.load false (some 1) l_ (.t 19)), q_ 21 18 true (.bi .lenL [.t 20]), q_ 22 18 true (.bin .eql .num (.t 21) (i_ 0)), o_ 23 (.pick (.t 18) (.t 22) (.c (.b false))), m_ 2 23] (.ret)) (k_ [g_ 25 .eql 4 7, m_ 24 25] (.cond (.t 24) (k_ [a_ 26 1 1, d_ 27 1 26, g_ 28 .geq 27 1, m_ 29 28, q_ 30 29 true (.fieldAddr (.t 1) 1 l_), q_ 31 29 true (.load false (some 1) l_ (.t 30)), q_ 32 29 true (.bin .leq .num (.t 31) (i_ 1024)), o_ 33 (.pick (.t 29) (.t 32) (.c (.b false))), m_ 34 33, q_ 35 34 true (.fieldAddr (.t 1) 2 l_), q_ 36 34 true (.load false (some 1) l_ (.t 35)), q_ 37 34 true (.bin .eql .num (.t 36) (.c (.s []))), o_ 38 (.pick (.t 34) (.t 37) (.c (.b false))), m_ 39 38, q_ 40 39 true (.fieldAddr (.t 1) 3 l_), q_ 41 39 true (.load false (some 1) l_ (.t 40)), q_ 42 39 true (.bi .lenL [.t 41]), q_ 43 39 true (.bin .eql .num (.t 42) (i_ 1)), o_ 44 (.pick (.t 39) (.t 43) (.c (.b false))), m_ 45 44, q_ 46 45 true (.fieldAddr (.t 1) 3 l_), q_ 47 45 true (.load false (some 1) l_ (.t 46)), q_ 48 45 true (.indexAddr (.t 47) (i_ 0) 4 none), q_ 49 45 true (.load false none (s_ 4) (.t 48)), q_ 50 45 true (.call (.f 180) [.t 49]), o_ 51 (.pick (.t 45) (.t 50) (.c (.b false))), m_ 2 51] (.ret)) (.seq (k_ [g_ 53 .eql 4 8, m_ 52 53] (.cond (.t 52) (.skip) (.ops [g_ 54 .eql 4 9, m_ 52 54]))) (.cond (.t 52) (k_ [a_ 55 1 1, d_ 56 1 55, g_ 57 .eql 56 0, m_ 58 57, q_ 59 58 true (.fieldAddr (.t 1) 2 l_), q_ 60 58 true (.load false (some 1) l_ (.t 59)), q_ 61 58 true (.bin .neq .num (.t 60) (.c (.s []))), o_ 62 (.pick (.t 58) (.t 61) (.c (.b false))), m_ 63 62, q_ 64 63 true (.fieldAddr (.t 1) 3 l_), q_ 65 63 true (.load false (some 1) l_ (.t 64)), q_ 66 63 true (.bi .lenL [.t 65]), q_ 67 63 true (.bin .eql .num (.t 66) (i_ 0)), o_ 68 (.pick (.t 63) (.t 67) (.c (.b false))), m_ 2 68] (.ret)) (.skip))))))))) (k_ [o_ 2 (.mov (.c (.b false)))] (.ret)))), none, none⟩
def qkV : C := (k_ [e_ 8 .lss 7 6] (.seq (.cond (.t 8) (.skip) (.exit 0)) (.seq (.block 1 [1, 5, 6, 7] (k_ [x_ 9 5 7 8, o_ 10 (.load false none (s_ 8) (.t 9)), o_ 4 (.alloc true [(.i .i64 0), (.i .i64 0), (.i .i64 0), (.s []), .nil, (.i .i32 0), (.s []), .nil]), z_ (.store (some 4) (s_ 8) (.t 4) (.t 10))] (.opsD [(h_ 11 1, false, []), (o_ 12 (.load false (some 4) (s_ 8) (.t 4)), false, []), (c_ 13 193 [.t 12], false, []), (o_ 14 (.bi .max [.t 11, (.t 13)]), true, []), (z_ (.store none l_ (.t 1) (.t 14)), true, [])]))) (.ops [g_ 15 .add 7 1, m_ 7 15]))))
def qkY : C := .loop [1, 5, 6, 7] qkV
def qjx : Fn := ⟨2, [], false, (k_ [m_ 5 0, n_ 6 5, o_ 7 (.mov (i_ 0))] (.block 0 [] (qkY))), none, none⟩
def qmX : C := (k_ [e_ 10 .lss 9 8] (.seq (.cond (.t 10) (.skip) (.exit 0)) (.seq (.block 1 [3, 7, 8, 9] (k_ [m_ 11 9, x_ 12 7 9 8, o_ 13 (.load false none (s_ 8) (.t 12)), o_ 5 (.alloc true [(.i .i64 0), (.i .i64 0), (.i .i64 0), (.s []), .nil, (.i .i32 0), (.s []), .nil]), m_ 4 11, z_ (.store (some 5) (s_ 8) (.t 5) (.t 13))] (.ops [m_ 14 3, o_ 15 (.load false (some 5) (s_ 8) (.t 5)), c_ 16 193 [.t 15], m_ 17 4, e_ 18 .add 16 17, o_ 19 (.bi .max [.t 14, (.t 18)]), m_ 3 19]))) (.ops [g_ 20 .add 9 1, m_ 9 20]))))
def qme : C := .loop [3, 7, 8, 9] qmX
def ql9 : C := (k_ [m_ 21 3, m_ 2 21] (.ret))
def qlq : Fn := ⟨1, [.t 2], true, (k_ [o_ 1 (.box true (.t 0)), o_ 2 (.mov (i_ 0))] (k_ [o_ 3 (.mov (i_ 1))] (.seq (k_ [a_ 6 1 7, d_ 7 1 6, n_ 8 7, o_ 9 (.mov (i_ 0))] (.block 0 [3] (qme))) (ql9)))), none, none⟩
def qjz : Fn := ⟨2, [], false, (k_ [o_ 2 (.box true (.t 0))] (.ops [h_ 3 1, a_ 4 2 1, d_ 5 2 4, o_ 6 (.call (.t 3) [.t 5])])), none, none⟩
def qmZ : C := (k_ [e_ 25 .lss 24 23] (.seq (.cond (.t 25) (.skip) (.exit 2)) (.seq (.block 3 [1, 2, 7, 12, 13, 14, 22, 23, 24] (k_ [x_ 26 22 24 8, o_ 27 (.load false none (s_ 8) (.t 26)), o_ 9 (.alloc true [(.i .i64 0), (.i .i64 0), (.i .i64 0), (.s []), .nil, (.i .i32 0), (.s []), .nil]), z_ (.store (some 9) (s_ 8) (.t 9) (.t 27))] (.ops [o_ 28 (.load false (some 9) (s_ 8) (.t 9)), m_ 29 2, c_ 30 247 [.t 28, .t 29]]))) (.ops [g_ 31 .add 24 1, m_ 24 31]))))
def qna : C := .loop [1, 2, 7, 12, 13, 14, 22, 23, 24] qmZ
def qmc : C := (k_ [e_ 36 .lss 35 34] (.seq (.cond (.t 36) (.skip) (.exit 4)) (.seq (.block 5 [1, 2, 12, 13, 14, 33, 34, 35] (k_ [x_ 37 33 35 1, h_ 38 37, m_ 11 38] (.ops [v_ 39 11, m_ 40 1, m_ 41 2, c_ 42 195 [.mv 39, .t 40, .t 41]]))) (.ops [g_ 43 .add 35 1, m_ 35 43]))))
def qnd : C := .loop [1, 2, 12, 13, 14, 33, 34, 35] qmc
def qmP : C := (k_ [a_ 32 7 2, d_ 33 7 32, n_ 34 33, o_ 35 (.mov (i_ 0))] (.block 4 [1, 2, 12, 13, 14] (qnd)))
def qmh : C := .ops [g_ 44 .add 14 1, m_ 14 44]
def qmG : C := (k_ [e_ 15 .lss 14 13] (.seq (.cond (.t 15) (.skip) (.exit 0)) (.seq (.block 1 [1, 2, 12, 13, 14] (k_ [x_ 16 12 14 4, o_ 17 (.load false none (s_ 4) (.t 16)), o_ 7 (.alloc true [(.i .i64 0), .nil, .nil, .nil]), z_ (.store (some 7) (s_ 4) (.t 7) (.t 17))] (k_ [m_ 18 1, o_ 19 (.load false (some 7) (s_ 4) (.t 7)), o_ 20 (.call (.t 18) [.t 19])] (.seq (k_ [a_ 21 7 1, d_ 22 7 21, n_ 23 22, o_ 24 (.mov (i_ 0))] (.block 2 [1, 2, 7, 12, 13, 14] (qna))) (qmP))))) (qmh))))
def qmj : C := .loop [1, 2, 12, 13, 14] qmG
def qla : Fn := ⟨3, [], false, (k_ [m_ 12 0, n_ 13 12, o_ 14 (.mov (i_ 0))] (.block 0 [] (qmj))), none, none⟩
def qjs : Fn := ⟨1, [], false, .ops [o_ 1 (.box true (.t 0))], none, none⟩
def ji : C := (k_ [e_ 12 .lss 11 10] (.seq (.cond (.t 12) (.skip) (.exit 0)) (.seq (.block 1 [0, 3, 9, 10, 11] (k_ [x_ 13 9 11 1, h_ 14 13, m_ 5 14] (k_ [m_ 15 3, m_ 16 5, n_ 17 16, e_ 18 .add 15 17, m_ 3 18] (k_ [m_ 19 3, g_ 20 .lss 19 0] (.cond (.t 20) (.ops [o_ 21 (.mkIfc 9 (.c (.s [108, 101, 110, 32, 111, 117, 116, 32, 111, 102, 32, 114, 97, 110, 103, 101]))), z_ (.panic (.t 21))]) (.skip)))))) (.ops [g_ 22 .add 11 1, m_ 11 22]))))
def jg : C := .loop [0, 3, 9, 10, 11] ji
def jh : C := (k_ [e_ 28 .lss 27 26] (.seq (.cond (.t 28) (.skip) (.exit 2)) (.seq (.block 3 [6, 25, 26, 27] (k_ [x_ 29 25 27 1, h_ 30 29, m_ 8 30] (.ops [v_ 31 6, m_ 32 8, o_ 33 (.appendR (s_ 8) 184 (.t 31) (.t 32)), v_ 6 33]))) (.ops [g_ 34 .add 27 1, m_ 27 34]))))
def jf : C := .loop [6, 25, 26, 27] jh
def jj : C := (k_ [z_ (.fz 6), m_ 35 6, m_ 2 35] (.ret))
def je : C := (k_ [v_ 23 3, o_ 24 (.call (.f 248) [(.c .nil), (.mv 23)]), v_ 6 24] (.seq (k_ [m_ 25 0, n_ 26 25, o_ 27 (.mov (i_ 0))] (.block 2 [6] (jf))) (jj)))
def kw : Fn := ⟨1, [.t 2], true, (k_ [o_ 2 (.mov (.c .nil))] (k_ [o_ 3 (.mov (i_ 0))] (.seq (k_ [m_ 9 0, n_ 10 9, o_ 11 (.mov (i_ 0))] (.block 0 [0, 3] (jg))) (je)))), none, none⟩
def qjh : Fn := ⟨2, [.t 4, (.t 5)], false, (k_ [o_ 2 (.box true (.t 0)), o_ 4 (.mov (i_ 0)), o_ 5 (.mov (.c (.b false)))] (k_ [m_ 8 1, o_ 9 (.mkMap), o_ 10 (.build [.nm, .nm] [(0, 1, (.t 8)), (1, 1, (.t 9))]), o_ 11 (.box false (.t 10)), m_ 6 11] (k_ [v_ 12 6, o_ 13 (.load false (some 2) (s_ 4) (.t 2)), c_ 14 249 [.mv 12, .t 13], v_ 7 14] (k_ [m_ 15 7, o_ 16 (.bi .max [.t 15, (i_ 0)]), m_ 17 7, g_ 18 .geq 17 0, m_ 4 16, m_ 5 18] (.ret))))), none, none⟩
def qhW : C := (k_ [e_ 16 .lss 15 14] (.seq (.cond (.t 16) (.skip) (.exit 0)) (.seq (.block 1 [1, 2, 3, 13, 14, 15] (k_ [x_ 17 13 15 10, o_ 18 (.load false none (s_ 10) (.t 17)), o_ 7 (.alloc true [(.s []), (.b false), (.i .i64 0), (.i .i64 0), (.i .i64 0), (.s []), .nil, (.i .i32 0), (.s []), .nil]), z_ (.store (some 7) (s_ 10) (.t 7) (.t 18))] (.ops [o_ 19 (.fieldAddr (.t 7) 2 (s_ 8)), o_ 20 (.load false (some 7) (s_ 8) (.t 19)), m_ 21 2, c_ 22 247 [.t 20, .t 21]]))) (.ops [g_ 23 .add 15 1, m_ 15 23]))))
def qiS : C := .loop [1, 2, 3, 13, 14, 15] qhW
def qhA : C := (k_ [e_ 40 .lss 39 38] (.seq (.cond (.t 40) (.skip) (.exit 4)) (.seq (.block 5 [1, 2, 3, 25, 26, 27, 37, 38, 39] (k_ [x_ 41 37 39 8, o_ 42 (.load false none (s_ 8) (.t 41)), o_ 11 (.alloc true [(.i .i64 0), (.i .i64 0), (.i .i64 0), (.s []), .nil, (.i .i32 0), (.s []), .nil]), z_ (.store (some 11) (s_ 8) (.t 11) (.t 42))] (.ops [o_ 43 (.load false (some 11) (s_ 8) (.t 11)), m_ 44 2, c_ 45 247 [.t 43, .t 44]]))) (.ops [g_ 46 .add 39 1, m_ 39 46]))))
def qhL : C := .loop [1, 2, 3, 25, 26, 27, 37, 38, 39] qhA
def qh4 : C := .ops [g_ 47 .add 27 1, m_ 27 47]
def qhZ : C := (k_ [e_ 28 .lss 27 26] (.seq (.cond (.t 28) (.skip) (.exit 2)) (.seq (.block 3 [1, 2, 3, 25, 26, 27] (k_ [x_ 29 25 27 10, o_ 30 (.load false none (s_ 10) (.t 29)), o_ 9 (.alloc true [(.s []), (.b false), .nil, (.i .i64 0), (.i .i64 0), (.s []), .nil, .nil, .nil, .nil]), z_ (.store (some 9) (s_ 10) (.t 9) (.t 30))] (k_ [a_ 31 9 8, d_ 32 9 31, m_ 33 1, m_ 34 2, c_ 35 195 [.t 32, .t 33, .t 34]] (k_ [a_ 36 9 9, d_ 37 9 36, n_ 38 37, o_ 39 (.mov (i_ 0))] (.block 4 [1, 2, 3, 25, 26, 27] (qhL)))))) (qh4))))
def qiq : C := .loop [1, 2, 3, 25, 26, 27] qhZ
def qhP : C := .ops [a_ 48 3 7, d_ 49 3 48, v_ 50 1, v_ 51 2, c_ 52 195 [.t 49, .mv 50, .mv 51]]
def qiE : C := (.seq (k_ [a_ 24 3 6, d_ 25 3 24, n_ 26 25, o_ 27 (.mov (i_ 0))] (.block 2 [1, 2, 3] (qiq))) (qhP))
def qeU : Fn := ⟨3, [], false, (k_ [o_ 3 (.box true (.t 0))] (.seq (k_ [a_ 12 3 2, d_ 13 3 12, n_ 14 13, o_ 15 (.mov (i_ 0))] (.block 0 [1, 2, 3] (qiS))) (qiE))), none, none⟩
def qh7 : Fn := ⟨2, [], false, (k_ [o_ 2 (.box true (.t 0))] (.ops [h_ 3 1, a_ 4 2 3, d_ 5 2 4, n_ 6 5, o_ 7 (.bin .add .num (i_ 1) (.t 6)), e_ 8 .add 3 7, z_ (.store none l_ (.t 1) (.t 8))])), none, none⟩
def qip : Fn := ⟨2, [], false, (k_ [o_ 2 (.box true (.t 0))] (.ops [h_ 3 1, a_ 4 2 6, d_ 5 2 4, o_ 6 (.bi .lenS [.t 5]), o_ 7 (.bin .add .num (i_ 1) (.t 6)), e_ 8 .add 3 7, z_ (.store none l_ (.t 1) (.t 8))])), none, none⟩
def jx : C := (.seq (k_ [m_ 7 3, g_ 8 .geq 7 0] (.cond (.t 8) (.skip) (.exit 0))) (.seq (.block 1 [0, 1, 3] (k_ [m_ 11 0, m_ 12 3, h_ 13 1, m_ 14 3, x_ 15 13 14 4, o_ 16 (.load false none (s_ 4) (.t 15)), o_ 17 (.call (.t 11) [.t 12, (.t 16)]), u_ 18 17] (.cond (.t 18) (.ret) (.skip)))) (.ops [m_ 9 3, g_ 10 .sub 9 1, m_ 3 10])))
def jB : C := .loop [0, 1, 3] jx
def kO : Fn := ⟨2, [], false, (k_ [h_ 4 1, n_ 5 4, g_ 6 .sub 5 1, m_ 3 6] (.block 0 [] (jB))), none, none⟩
def qf2 : Fn := ⟨2, [], false, (k_ [o_ 3 (.box true (.t 1))] (k_ [a_ 6 3 0, d_ 7 3 6] (.block 0 [] (k_ [g_ 12 .eql 7 0, m_ 11 12] (.cond (.t 11) (.seq (.opsD [(v_ 13 0, false, []), (a_ 14 3 1, false, []), (d_ 15 3 14, false, []), (o_ 16 (.indexAddr (.t 15) (i_ 0) 8 none), false, []), (o_ 17 (.load false none (s_ 8) (.t 16)), false, []), (a_ 18 3 1, false, []), (d_ 19 3 18, false, []), (o_ 20 (.indexAddr (.t 19) (i_ 1) 8 none), false, []), (o_ 21 (.load false none (s_ 8) (.t 20)), false, [])]) (.ops [c_ 22 250 [.mv 13, .t 17, .t 21]])) (k_ [g_ 24 .eql 7 1, m_ 23 24] (.cond (.t 23) (.ops [v_ 25 0, a_ 26 3 1, d_ 27 3 26, o_ 28 (.indexAddr (.t 27) (i_ 0) 8 none), o_ 29 (.load false none (s_ 8) (.t 28)), c_ 30 215 [.mv 25, .t 29]]) (k_ [g_ 32 .eql 7 2, m_ 31 32] (.cond (.t 31) (.seq (.opsD [(m_ 33 0, false, []), (o_ 34 (.load false (some 3) (s_ 4) (.t 3)), false, []), (m_ 35 0, false, []), (c_ 36 97 [.mv 35], true, [])]) (.ops [c_ 37 251 [.t 33, .t 34, .t 36]])) (k_ [g_ 39 .eql 7 3, m_ 38 39] (.cond (.t 38) (k_ [m_ 40 0, c_ 41 209 [.t 40], v_ 4 41] (.ops [v_ 42 0, o_ 43 (.load false (some 3) (s_ 4) (.t 3)), v_ 44 4, c_ 45 251 [.mv 42, .t 43, .mv 44]])) (k_ [g_ 47 .eql 7 4, m_ 46 47] (.cond (.t 46) (k_ [m_ 48 0, c_ 49 209 [.t 48], v_ 5 49] (k_ [m_ 50 0, a_ 51 3 2, d_ 52 3 51, o_ 53 (.indexAddr (.t 52) (i_ 0) 1 none), h_ 54 53, c_ 55 143 [.t 50, .t 54]] (k_ [m_ 56 0, a_ 57 3 1, d_ 58 3 57, o_ 59 (.indexAddr (.t 58) (i_ 0) 8 none), o_ 60 (.load false none (s_ 8) (.t 59)), c_ 61 157 [.t 56, .t 60]] (.ops [v_ 62 0, v_ 63 5, c_ 64 208 [.mv 62, (i_ 26), .mv 63]])))) (k_ [g_ 66 .eql 7 5, m_ 65 66] (.cond (.t 65) (.ops [v_ 67 0, o_ 68 (.load false (some 3) (s_ 4) (.t 3)), c_ 69 252 [.mv 67, .t 68]]) (k_ [g_ 71 .eql 7 6, m_ 70 71] (.cond (.t 70) (.ops [v_ 72 0, o_ 73 (.load false (some 3) (s_ 4) (.t 3)), c_ 74 253 [.mv 72, .t 73]]) (.seq (k_ [g_ 76 .eql 7 7, m_ 75 76] (.cond (.t 75) (.skip) (k_ [g_ 77 .eql 7 8, m_ 75 77] (.cond (.t 75) (.skip) (k_ [g_ 78 .eql 7 9, m_ 75 78] (.cond (.t 75) (.skip) (.ops [g_ 79 .eql 7 10, m_ 75 79]))))))) (.cond (.t 75) (.ops [v_ 80 0, o_ 81 (.load false (some 3) (s_ 4) (.t 3)), c_ 82 254 [.mv 80, .t 81]]) (.ops [v_ 8 0, o_ 9 (.load false (some 3) (s_ 4) (.t 3)), c_ 10 255 [.mv 8, .t 9]])))))))))))))))))))), none, none⟩
def qhY : C := (k_ [e_ 18 .lss 17 16] (.seq (.cond (.t 18) (.skip) (.exit 0)) (.seq (.block 1 [0, 16, 17] (k_ [m_ 19 17, m_ 8 19] (.ops [m_ 20 0, v_ 21 8, c_ 22 156 [.t 20, .mv 21]]))) (.ops [g_ 23 .add 17 1, m_ 17 23]))))
def qhz : C := .loop [0, 16, 17] qhY
def qeB : Fn := ⟨4, [], false, (k_ [m_ 9 0, v_ 10 1, c_ 11 145 [.t 9, .mv 10]] (k_ [m_ 12 0, m_ 13 2, o_ 14 (.conv .i32 (.t 13)), c_ 15 146 [.t 12, (i_ 28), .t 14]] (k_ [m_ 16 3, o_ 17 (.mov (i_ 0))] (.block 0 [] (qhz))))), none, none⟩
def qfJ : Fn := ⟨2, [], false, (k_ [m_ 4 0, m_ 5 1, o_ 6 (.conv .i32 (.t 5)), c_ 7 146 [.t 4, (i_ 5), .t 6]] (.ops [v_ 8 0, o_ 9 (.buildSlice (.i .i64 0) 1 [(0, (i_ 6))]), c_ 10 140 [.mv 8, .t 9]])), none, none⟩
def qe8 : Fn := ⟨1, [], false, .ops [v_ 2 0, o_ 3 (.buildSlice (.i .i64 0) 1 [(0, (i_ 29))]), c_ 4 140 [.mv 2, .t 3]], none, none⟩
def qfL : Fn := ⟨3, [], false, (.seq (.opsD [(m_ 6 0, false, []), (m_ 7 0, false, []), (o_ 8 (.nilCheck (.t 7)), false, []), (a_ 9 8 2, false, []), (h_ 10 9, false, []), (m_ 11 0, false, []), (o_ 12 (.nilCheck (.t 11)), false, []), (a_ 13 12 0, false, []), (h_ 14 13, false, []), (n_ 15 14, false, []), (o_ 16 (.buildSlice (.i .i64 0) 1 [(0, (.t 15))]), false, []), (o_ 17 (.appendR l_ 8 (.t 10) (.t 16)), true, []), (o_ 18 (.nilCheck (.t 6)), true, []), (a_ 19 18 2, true, []), (z_ (.store none l_ (.t 19) (.mv 17)), true, [])]) (.ops [v_ 20 0, v_ 21 1, m_ 22 2, o_ 23 (.conv .i32 (.t 22)), c_ 24 146 [.mv 20, .mv 21, .t 23]])), none, none⟩
def qfs : Fn := ⟨1, [.t 2], true, (k_ [o_ 2 (.mov (i_ 0))] (k_ [m_ 4 0, c_ 5 97 [.t 4], v_ 3 5] (k_ [v_ 6 0, m_ 7 3, c_ 8 145 [.mv 6, .t 7]] (k_ [m_ 9 3, m_ 2 9] (.ret))))), none, none⟩
def qgQ : Fn := ⟨2, [], false, (k_ [m_ 4 1, g_ 5 .neq 4 0] (.cond (.t 5) (k_ [m_ 6 0, m_ 7 1, o_ 8 (.conv .i32 (.t 7)), c_ 9 139 [.t 6, .t 8]] (.ops [v_ 10 0, o_ 11 (.buildSlice (.i .i64 0) 1 [(0, (i_ 9))]), c_ 12 140 [.mv 10, .t 11]])) (.skip))), none, none⟩
def qeT : Fn := ⟨1, [], false, (k_ [m_ 2 0, o_ 3 (.call (.f 139) [.t 2, (.c (.i .i32 (-32)))])] (k_ [m_ 4 0, o_ 5 (.buildSlice (.i .i64 0) 1 [(0, (i_ 15))]), c_ 6 140 [.t 4, .t 5]] (k_ [m_ 7 0, o_ 8 (.call (.f 139) [.t 7, (.c (.i .i32 0))])] (.ops [v_ 9 0, o_ 10 (.buildSlice (.i .i64 0) 1 [(0, (i_ 22))]), c_ 11 140 [.mv 9, .t 10]])))), none, none⟩
def qiO : C := (k_ [e_ 8 .lss 7 6] (.seq (.cond (.t 8) (.skip) (.exit 0)) (.seq (.block 1 [0, 5, 6, 7] (k_ [x_ 9 5 7 1, h_ 10 9, m_ 3 10] (k_ [m_ 11 0, m_ 12 3, o_ 13 (.conv .i32 (.t 12)), c_ 14 139 [.t 11, .t 13]] (.ops [m_ 15 0, o_ 16 (.buildSlice (.i .i64 0) 1 [(0, (i_ 33))]), c_ 17 140 [.t 15, .t 16]])))) (.ops [g_ 18 .add 7 1, m_ 7 18]))))
def qis : C := .loop [0, 5, 6, 7] qiO
def qhI : C := .ops [v_ 19 0, c_ 20 207 [.mv 19]]
def qeQ : Fn := ⟨1, [], false, (.seq (k_ [o_ 4 (.buildR l_ (.i .u8 0) 10 [(0, (.c (.i .u8 50))), (1, (.c (.i .u8 49))), (2, (.c (.i .u8 52))), (3, (.c (.i .u8 55))), (4, (.c (.i .u8 52))), (5, (.c (.i .u8 56))), (6, (.c (.i .u8 51))), (7, (.c (.i .u8 54))), (8, (.c (.i .u8 52))), (9, (.c (.i .u8 56)))]), o_ 5 (.cvtR (.t 4)), n_ 6 5, o_ 7 (.mov (i_ 0))] (.block 0 [0] (qis))) (qhI)), none, none⟩
def qfA : Fn := ⟨3, [], false, (k_ [m_ 6 0, m_ 7 1, c_ 8 206 [.t 6, .t 7]] (k_ [m_ 9 0, v_ 10 2, c_ 11 210 [.t 9, .mv 10]] (.ops [v_ 12 0, v_ 13 1, c_ 14 156 [.mv 12, .mv 13]]))), none, none⟩
def qeC : Fn := ⟨2, [], false, (k_ [o_ 3 (.box true (.t 1))] (k_ [a_ 4 3 0, d_ 5 3 4] (.block 0 [] (k_ [g_ 7 .eql 5 1, m_ 6 7] (.cond (.t 6) (.ops [v_ 8 0, a_ 9 3 6, d_ 10 3 9, c_ 11 256 [.mv 8, .t 10]]) (k_ [g_ 13 .eql 5 2, m_ 12 13] (.cond (.t 12) (.ops [v_ 14 0, o_ 15 (.load false (some 3) (s_ 8) (.t 3)), c_ 16 257 [.mv 14, .t 15]]) (k_ [g_ 18 .eql 5 3, m_ 17 18] (.cond (.t 17) (k_ [m_ 19 0, a_ 20 3 7, d_ 21 3 20, o_ 22 (.indexAddr (.t 21) (i_ 0) 8 none), o_ 23 (.load false none (s_ 8) (.t 22)), c_ 24 214 [.t 19, .t 23]] (.seq (.opsD [(m_ 25 0, false, []), (m_ 26 0, false, []), (a_ 27 3 7, false, []), (d_ 28 3 27, false, []), (o_ 29 (.indexAddr (.t 28) (i_ 0) 8 none), false, []), (o_ 30 (.fieldAddr (.t 29) 1 (s_ 4)), false, []), (a_ 31 30 2, false, []), (h_ 32 31, false, []), (a_ 33 3 6, false, []), (d_ 34 3 33, false, []), (c_ 35 258 [.mv 26, .t 32, .t 34], true, [])]) (.ops [c_ 36 210 [.t 25, .t 35]]))) (k_ [g_ 38 .eql 5 4, m_ 37 38] (.cond (.t 37) (k_ [m_ 39 0, a_ 40 3 7, d_ 41 3 40, o_ 42 (.indexAddr (.t 41) (i_ 0) 8 none), o_ 43 (.load false none (s_ 8) (.t 42)), c_ 44 157 [.t 39, .t 43]] (k_ [m_ 45 0, o_ 46 (.buildSlice (.i .i64 0) 1 [(0, (i_ 2))]), c_ 47 140 [.t 45, .t 46]] (k_ [m_ 48 0, c_ 49 154 [.t 48, (i_ 3)]] (.ops [v_ 50 0, c_ 51 210 [.mv 50, (i_ 1)]])))) (.skip)))))))))))), none, none⟩
def qei : Fn := ⟨3, [], false, (k_ [o_ 4 (.box true (.t 1))] (.seq (k_ [o_ 8 (.load false (some 4) (s_ 8) (.t 4)), c_ 9 259 [.t 8], u_ 10 9] (.cond (.t 10) (k_ [m_ 11 2, o_ 12 (.load false (some 4) (s_ 8) (.t 4)), o_ 13 (.call (.t 11) [.t 12])] (.ret)) (.skip))) (k_ [m_ 14 0, o_ 15 (.nilCheck (.t 14)), a_ 16 15 26, h_ 17 16, m_ 6 17] (k_ [m_ 18 0, c_ 19 260 [.t 18], v_ 7 19] (k_ [m_ 20 0, m_ 21 7, c_ 22 156 [.t 20, .t 21]] (k_ [m_ 23 2, o_ 24 (.load false (some 4) (s_ 8) (.t 4)), o_ 25 (.call (.t 23) [.t 24])] (k_ [m_ 26 0, v_ 27 7, c_ 28 206 [.t 26, .mv 27]] (k_ [m_ 29 0, o_ 30 (.buildSlice (.i .i64 0) 1 [(0, (i_ 4))]), c_ 31 140 [.t 29, .t 30]] (.ops [m_ 32 0, m_ 33 6, o_ 34 (.nilCheck (.t 32)), a_ 35 34 26, z_ (.store none l_ (.t 35) (.t 33))]))))))))), none, none⟩
def qgN : Fn := ⟨2, [], false, (k_ [o_ 3 (.box true (.t 1))] (.seq (k_ [o_ 4 (.fieldAddr (.t 3) 1 (s_ 4)), a_ 5 4 0, d_ 6 3 5, g_ 7 .eql 6 4] (.cond (.t 7) (k_ [v_ 8 0, a_ 9 3 0, d_ 10 3 9, c_ 11 262 [.mv 8, .t 10]] (.ret)) (.skip))) (k_ [a_ 12 3 0, d_ 13 3 12] (.block 0 [] (k_ [g_ 19 .eql 13 9, m_ 18 19] (.cond (.t 18) (.ops [v_ 20 0, o_ 21 (.buildSlice (.i .i64 0) 1 [(0, (i_ 9))]), c_ 22 140 [.mv 20, .t 21]]) (k_ [g_ 24 .eql 13 10, m_ 23 24] (.cond (.t 23) (.ops [v_ 25 0, o_ 26 (.buildSlice (.i .i64 0) 1 [(0, (i_ 10))]), c_ 27 140 [.mv 25, .t 26]]) (k_ [g_ 29 .eql 13 11, m_ 28 29] (.cond (.t 28) (.ops [v_ 30 0, o_ 31 (.buildSlice (.i .i64 0) 1 [(0, (i_ 11))]), c_ 32 140 [.mv 30, .t 31]]) (.seq (k_ [g_ 34 .eql 13 12, m_ 33 34] (.cond (.t 33) (.skip) (.ops [g_ 35 .eql 13 13, m_ 33 35]))) (.cond (.t 33) (k_ [m_ 36 0, o_ 37 (.buildSlice (.i .i64 0) 1 [(0, (i_ 2))]), c_ 38 140 [.t 36, .t 37]] (k_ [m_ 39 0, o_ 40 (.call (.f 139) [.t 39, (.c (.i .i32 0))])] (k_ [m_ 41 0, o_ 42 (.buildSlice (.i .i64 0) 2 [(0, (i_ 4)), (1, (i_ 23))]), c_ 43 140 [.t 41, .t 42]] (k_ [m_ 44 0, c_ 45 154 [.t 44, (i_ 4)]] (k_ [a_ 46 3 0, d_ 47 3 46, g_ 48 .eql 47 12] (.cond (.t 48) (.ops [v_ 49 0, o_ 50 (.buildSlice (.i .i64 0) 1 [(0, (i_ 12))]), c_ 51 140 [.mv 49, .t 50]]) (.ops [v_ 52 0, o_ 53 (.buildSlice (.i .i64 0) 1 [(0, (i_ 13))]), c_ 54 140 [.mv 52, .t 53]]))))))) (k_ [g_ 56 .eql 13 22, m_ 55 56] (.cond (.t 55) (.ops [m_ 57 0, m_ 58 0, o_ 59 (.nilCheck (.t 58)), o_ 60 (.fieldAddr (.t 59) 18 (s_ 7)), a_ 61 60 3, h_ 62 61, c_ 63 208 [.t 57, (i_ 27), .t 62]]) (k_ [g_ 65 .eql 13 29, m_ 64 65] (.cond (.t 64) (.ops [v_ 66 0, o_ 67 (.buildSlice (.i .i64 0) 1 [(0, (i_ 19))]), c_ 68 140 [.mv 66, .t 67]]) (k_ [g_ 70 .eql 13 30, m_ 69 70] (.cond (.t 69) (.ops [v_ 71 0, o_ 72 (.buildSlice (.i .i64 0) 1 [(0, (i_ 20))]), c_ 73 140 [.mv 71, .t 72]]) (k_ [g_ 75 .eql 13 31, m_ 74 75] (.cond (.t 74) (.ops [v_ 76 0, o_ 77 (.buildSlice (.i .i64 0) 1 [(0, (i_ 21))]), c_ 78 140 [.mv 76, .t 77]]) (.ops [v_ 14 0, a_ 15 3 0, d_ 16 3 15, c_ 17 263 [.mv 14, .t 16]]))))))))))))))))))))), none, none⟩
def qm5 : Fn := ⟨1, [.t 2], true, (k_ [o_ 2 (.mov (.c (.b false)))] (.seq (k_ [m_ 3 0] (.block 0 [] (.seq (k_ [g_ 5 .eql 3 1, m_ 4 5] (.cond (.t 4) (.skip) (k_ [g_ 6 .eql 3 5, m_ 4 6] (.cond (.t 4) (.skip) (k_ [g_ 7 .eql 3 8, m_ 4 7] (.cond (.t 4) (.skip) (k_ [g_ 8 .eql 3 25, m_ 4 8] (.cond (.t 4) (.skip) (k_ [g_ 9 .eql 3 26, m_ 4 9] (.cond (.t 4) (.skip) (k_ [g_ 10 .eql 3 27, m_ 4 10] (.cond (.t 4) (.skip) (k_ [g_ 11 .eql 3 28, m_ 4 11] (.cond (.t 4) (.skip) (.ops [g_ 12 .eql 3 30, m_ 4 12]))))))))))))))) (.cond (.t 4) (k_ [o_ 2 (.mov (.c (.b true)))] (.ret)) (.skip))))) (k_ [o_ 2 (.mov (.c (.b false)))] (.ret)))), none, none⟩
def qbF : Fn := ⟨1, [.t 2], true, (k_ [o_ 2 (.mov (.c (.i .i32 0)))] (k_ [m_ 4 0, o_ 5 (.nilCheck (.t 4)), a_ 6 5 3, h_ 7 6, n_ 8 7, g_ 9 .gtr 8 0, c_ 10 159 [.t 9]] (.seq (.opsD [(m_ 11 0, false, []), (o_ 12 (.nilCheck (.t 11)), false, []), (a_ 13 12 3, false, []), (h_ 14 13, false, []), (m_ 15 0, false, []), (o_ 16 (.nilCheck (.t 15)), false, []), (a_ 17 16 3, false, []), (h_ 18 17, false, []), (n_ 19 18, false, []), (g_ 20 .sub 19 1, false, []), (x_ 21 14 20 1, true, []), (h_ 22 21, true, []), (m_ 3 22, true, [])]) (.seq (.opsD [(m_ 23 0, false, []), (m_ 24 0, false, []), (o_ 25 (.nilCheck (.t 24)), false, []), (a_ 26 25 3, false, []), (h_ 27 26, false, []), (m_ 28 0, false, []), (o_ 29 (.nilCheck (.t 28)), false, []), (a_ 30 29 3, false, []), (h_ 31 30, false, []), (n_ 32 31, false, []), (g_ 33 .sub 32 1, false, []), (o_ 34 (.truncR (.t 27) (.t 33)), true, []), (o_ 35 (.nilCheck (.t 23)), true, []), (a_ 36 35 3, true, []), (z_ (.store none l_ (.t 36) (.t 34)), true, [])]) (k_ [m_ 37 3, m_ 2 37] (.ret)))))), none, none⟩
def qa7 : Fn := ⟨2, [], false, (k_ [m_ 4 0, o_ 5 (.nilCheck (.t 4)), a_ 6 5 3, h_ 7 6, n_ 8 7, g_ 9 .lss 8 1000, c_ 10 159 [.t 9]] (.ops [m_ 11 0, m_ 12 0, o_ 13 (.nilCheck (.t 12)), a_ 14 13 3, h_ 15 14, m_ 16 1, o_ 17 (.buildSlice (.i .i32 0) 1 [(0, (.t 16))]), o_ 18 (.appendR l_ 4 (.t 15) (.t 17)), o_ 19 (.nilCheck (.t 11)), a_ 20 19 3, z_ (.store none l_ (.t 20) (.mv 18))])), none, none⟩
def qaz : Fn := ⟨2, [], false, (k_ [m_ 4 1] (.cond (.t 4) (.ops [v_ 5 0, o_ 6 (.call (.f 223) [.mv 5, (.c (.i .i32 1))])]) (.ops [v_ 7 0, o_ 8 (.call (.f 223) [.mv 7, (.c (.i .i32 0))])]))), none, none⟩
def qjp : Fn := ⟨3, [.t 6, (.t 7)], false, (k_ [o_ 6 (.mov (.c (.i .i32 0))), o_ 7 (.mov (.c (.b false)))] (.seq (k_ [m_ 8 0] (.block 0 [1, 2] (k_ [g_ 10 .eql 8 9, m_ 9 10] (.cond (.t 9) (k_ [v_ 11 1, v_ 12 2, c_ 13 265 [.mv 11, .mv 12], v_ 6 13, o_ 7 (.mov (.c (.b true)))] (.ret)) (k_ [g_ 15 .eql 8 10, m_ 14 15] (.cond (.t 14) (k_ [v_ 16 1, v_ 17 2, c_ 18 224 [.mv 16, .mv 17], v_ 6 18, o_ 7 (.mov (.c (.b true)))] (.ret)) (k_ [g_ 20 .eql 8 11, m_ 19 20] (.cond (.t 19) (k_ [v_ 21 1, v_ 22 2, c_ 23 266 [.mv 21, .mv 22], v_ 6 23, o_ 7 (.mov (.c (.b true)))] (.ret)) (k_ [g_ 25 .eql 8 12, m_ 24 25] (.cond (.t 24) (k_ [v_ 26 1, v_ 27 2, c_ 28 267 [.mv 26, .mv 27], r_ 29 28 0, r_ 30 28 1, m_ 6 29, m_ 7 30] (.ret)) (k_ [g_ 32 .eql 8 13, m_ 31 32] (.cond (.t 31) (k_ [v_ 33 1, v_ 34 2, c_ 35 268 [.mv 33, .mv 34], r_ 36 35 0, r_ 37 35 1, m_ 6 36, m_ 7 37] (.ret)) (k_ [g_ 39 .eql 8 15, m_ 38 39] (.cond (.t 38) (k_ [m_ 40 1, m_ 41 2, e_ 42 .and 40 41, m_ 6 42, o_ 7 (.mov (.c (.b true)))] (.ret)) (k_ [g_ 44 .eql 8 16, m_ 43 44] (.cond (.t 43) (k_ [m_ 45 1, m_ 46 2, e_ 47 .or 45 46, m_ 6 47, o_ 7 (.mov (.c (.b true)))] (.ret)) (k_ [g_ 49 .eql 8 17, m_ 48 49] (.cond (.t 48) (k_ [m_ 50 1, m_ 51 2, e_ 52 .xor 50 51, m_ 6 52, o_ 7 (.mov (.c (.b true)))] (.ret)) (k_ [g_ 54 .eql 8 19, m_ 53 54] (.cond (.t 53) (k_ [v_ 55 1, v_ 56 2, c_ 57 269 [.mv 55, .mv 56], v_ 6 57, o_ 7 (.mov (.c (.b true)))] (.ret)) (k_ [g_ 59 .eql 8 20, m_ 58 59] (.cond (.t 58) (k_ [v_ 60 1, v_ 61 2, c_ 62 270 [.mv 60, .mv 61], v_ 6 62, o_ 7 (.mov (.c (.b true)))] (.ret)) (.skip))))))))))))))))))))))) (k_ [v_ 63 1, v_ 64 2, c_ 65 271 [.mv 63, .mv 64], v_ 6 65, o_ 7 (.mov (.c (.b true)))] (.ret)))), none, none⟩
def qaw : Fn := ⟨3, [.t 6], true, (k_ [o_ 6 (.mov (i_ 0))] (k_ [m_ 7 1, o_ 8 (.bin .geq .num (.t 7) (.c (.i .i32 0))), m_ 9 8, q_ 10 9 true (.mov (.t 2)), q_ 11 9 true (.bin .geq .num (.t 10) (i_ 0)), o_ 12 (.pick (.t 9) (.t 11) (.c (.b false))), m_ 13 12, q_ 14 13 true (.mov (.t 2)), q_ 15 13 true (.mov (.t 0)), q_ 16 13 true (.nilCheck (.t 15)), q_ 17 13 true (.fieldAddr (.t 16) 1 l_), q_ 18 13 true (.load false none l_ (.t 17)), q_ 19 13 true (.bi .lenL [.t 18]), q_ 20 13 true (.mov (.t 1)), q_ 21 13 true (.conv .i64 (.t 20)), q_ 22 13 true (.bin .sub .num (.t 19) (.t 21)), q_ 23 13 true (.bin .leq .num (.t 14) (.t 22)), o_ 24 (.pick (.t 13) (.t 23) (.c (.b false))), c_ 25 159 [.t 24]] (k_ [m_ 26 1, o_ 27 (.conv .i64 (.t 26)), v_ 6 27] (.ret)))), none, none⟩
def j9 : Fn := ⟨1, [(.cell 2 (s_ 8))], true, (k_ [o_ 2 (.alloc true [(.i .i64 0), (.i .i64 0), (.i .i64 0), (.s []), .nil, (.i .i32 0), (.s []), .nil])] (k_ [m_ 6 0, c_ 7 43 [.t 6], o_ 3 (.alloc true [(.i .i64 0), (.i .i64 0), (.i .i64 0), (.s []), (.i .i32 0)]), z_ (.store (some 3) (s_ 5) (.t 3) (.mv 7))] (.seq (.block 0 [0, 2] (k_ [a_ 9 3 0, d_ 10 3 9, g_ 11 .eql 10 2, m_ 8 11] (.cond (.t 8) (k_ [v_ 12 0, c_ 13 66 [.mv 12]] (k_ [a_ 14 3 4, d_ 15 3 14, c_ 16 121 [(i_ 1), .t 15], z_ (.store (some 2) (s_ 8) (.t 2) (.mv 16))] (.ret))) (k_ [a_ 18 3 0, d_ 19 3 18, g_ 20 .eql 19 3, m_ 17 20] (.cond (.t 17) (k_ [v_ 21 0, c_ 22 66 [.mv 21]] (k_ [a_ 23 3 4, d_ 24 3 23, c_ 25 121 [(i_ 2), .t 24], z_ (.store (some 2) (s_ 8) (.t 2) (.mv 25))] (.ret))) (k_ [a_ 27 3 0, d_ 28 3 27, g_ 29 .eql 28 4, m_ 26 29] (.cond (.t 26) (k_ [v_ 30 0, c_ 31 66 [.mv 30]] (.seq (.opsD [(c_ 32 114 [(i_ 6)], true, []), (a_ 33 3 3, false, []), (d_ 34 3 33, false, []), (o_ 35 (.build [(.i .i64 0), (.i .i64 0), (.i .i64 0), (.s []), .nil, (.i .i32 0), (.s []), .nil] [(1, 4, (.t 32)), (6, 1, (.t 34))]), true, []), (z_ (.store (some 2) (s_ 8) (.t 2) (.t 35)), true, [])]) (.ret))) (k_ [m_ 37 0, o_ 38 (.call (.f 29) [.t 37, (.c (.s [78, 73, 76]))]), v_ 36 38] (.cond (.t 36) (k_ [c_ 39 114 [(i_ 5)], o_ 40 (.build [(.i .i64 0), (.i .i64 0), (.i .i64 0), (.s []), .nil, (.i .i32 0), (.s []), .nil] [(1, 4, (.t 39))]), z_ (.store (some 2) (s_ 8) (.t 2) (.t 40))] (.ret)) (k_ [m_ 42 0, o_ 43 (.call (.f 29) [.t 42, (.c (.s [84, 82, 85, 69]))]), v_ 41 43] (.cond (.t 41) (k_ [o_ 44 (.call (.f 121) [(i_ 3), (.c (.i .i32 1))]), z_ (.store (some 2) (s_ 8) (.t 2) (.mv 44))] (.ret)) (k_ [m_ 46 0, o_ 47 (.call (.f 29) [.t 46, (.c (.s [70, 65, 76, 83, 69]))]), v_ 45 47] (.cond (.t 45) (k_ [o_ 48 (.call (.f 121) [(i_ 3), (.c (.i .i32 0))]), z_ (.store (some 2) (s_ 8) (.t 2) (.mv 48))] (.ret)) (k_ [m_ 50 0, o_ 51 (.call (.f 35) [.t 50, (.c (.s [126]))]), v_ 49 51] (.cond (.t 49) (k_ [m_ 52 0, c_ 53 228 [.t 52], o_ 4 (.alloc true [(.i .i64 0), (.i .i64 0), (.i .i64 0), (.s []), .nil, (.i .i32 0), (.s []), .nil]), z_ (.store (some 4) (s_ 8) (.t 4) (.mv 53))] (k_ [m_ 54 0, o_ 55 (.fieldAddr (.t 4) 1 (s_ 4)), a_ 56 55 0, d_ 57 4 56, g_ 58 .eql 57 3, c_ 59 72 [.t 54, .t 58]] (.seq (.opsD [(v_ 60 0, false, []), (c_ 61 114 [(i_ 3)], true, []), (o_ 62 (.load false (some 4) (s_ 8) (.t 4)), false, []), (o_ 63 (.buildSlice (.agg [(.i .i64 0), (.i .i64 0), (.i .i64 0), (.s []), .nil, (.i .i32 0), (.s []), .nil]) 1 [(0, (.t 62))]), false, []), (o_ 64 (.build [(.i .i64 0), (.i .i64 0), (.i .i64 0), (.s []), .nil, (.i .i32 0), (.s []), .nil] [(0, 1, (i_ 8)), (1, 4, (.t 61)), (7, 1, (.t 63))]), false, []), (c_ 65 113 [.mv 60, .t 64], true, []), (z_ (.store (some 2) (s_ 8) (.t 2) (.mv 65)), true, [])]) (.ret)))) (k_ [m_ 67 0, o_ 68 (.call (.f 35) [.t 67, (.c (.s [40]))]), v_ 66 68] (.cond (.t 66) (k_ [m_ 69 0, o_ 70 (.nilCheck (.t 69)), a_ 71 70 17, h_ 72 71, g_ 73 .add 72 1, o_ 74 (.nilCheck (.t 69)), a_ 75 74 17, z_ (.store none l_ (.t 75) (.t 73))] (.seq (k_ [m_ 76 0, o_ 77 (.nilCheck (.t 76)), a_ 78 77 17, h_ 79 78, g_ 80 .gtr 79 64] (.cond (.t 80) (.ops [m_ 81 0, c_ 82 34 [.t 81, (i_ 34)]]) (.skip))) (k_ [m_ 83 0, c_ 84 71 [.t 83], o_ 5 (.alloc true [(.i .i64 0), (.i .i64 0), (.i .i64 0), (.s []), .nil, (.i .i32 0), (.s []), .nil]), z_ (.store (some 5) (s_ 8) (.t 5) (.mv 84))] (k_ [m_ 85 0, o_ 86 (.nilCheck (.t 85)), a_ 87 86 17, h_ 88 87, g_ 89 .sub 88 1, o_ 90 (.nilCheck (.t 85)), a_ 91 90 17, z_ (.store none l_ (.t 91) (.t 89))] (k_ [m_ 92 0, v_ 93 0, o_ 94 (.call (.f 35) [.mv 93, (.c (.s [41]))]), c_ 95 28 [.t 92, .t 94]] (k_ [o_ 96 (.load false (some 5) (s_ 8) (.t 5)), z_ (.store (some 2) (s_ 8) (.t 2) (.t 96))] (.ret))))))) (k_ [m_ 98 0, o_ 99 (.call (.f 35) [.t 98, (.c (.s [123]))]), v_ 97 99] (.cond (.t 97) (k_ [v_ 100 0, c_ 101 272 [.mv 100], z_ (.store (some 2) (s_ 8) (.t 2) (.mv 101))] (.ret)) (k_ [a_ 103 3 0, d_ 104 3 103, g_ 105 .eql 104 1, m_ 102 105] (.cond (.t 102) (k_ [v_ 106 0, c_ 107 273 [.mv 106], z_ (.store (some 2) (s_ 8) (.t 2) (.mv 107))] (.ret)) (.skip)))))))))))))))))))))) (k_ [v_ 108 0, c_ 109 34 [.mv 108, (i_ 31)]] (k_ [o_ 110 (.build [(.i .i64 0), (.i .i64 0), (.i .i64 0), (.s []), .nil, (.i .i32 0), (.s []), .nil] []), z_ (.store (some 2) (s_ 8) (.t 2) (.t 110))] (.ret)))))), none, none⟩
def qfk : C := (.seq (k_ [m_ 24 3, a_ 25 1 7, d_ 26 1 25, n_ 27 26, e_ 28 .lss 24 27] (.cond (.t 28) (.skip) (.exit 0))) (.seq (.block 1 [1, 3] (k_ [a_ 31 1 7, d_ 32 1 31, m_ 33 3, x_ 34 32 33 8, o_ 35 (.load false none (s_ 8) (.t 34)), o_ 4 (.alloc true [(.i .i64 0), (.i .i64 0), (.i .i64 0), (.s []), .nil, (.i .i32 0), (.s []), .nil]), z_ (.store (some 4) (s_ 8) (.t 4) (.t 35))] (.seq (.opsD [(a_ 36 4 0, true, []), (d_ 37 4 36, true, []), (g_ 38 .neq 37 25, true, []), (m_ 39 38, true, []), (q_ 40 39 true (.fieldAddr (.t 4) 0 l_), true, []), (q_ 41 39 true (.load false (some 4) l_ (.t 40)), true, []), (q_ 42 39 true (.bin .neq .num (.t 41) (i_ 26)), true, []), (o_ 43 (.pick (.t 39) (.t 42) (.c (.b false))), true, []), (m_ 44 43, true, []), (q_ 45 44 false (.fieldAddr (.t 4) 7 l_), false, []), (q_ 46 44 false (.load false (some 4) l_ (.t 45)), false, []), (q_ 47 44 false (.fieldAddr (.t 4) 0 l_), false, []), (q_ 48 44 false (.load false (some 4) l_ (.t 47)), false, []), (q_ 49 44 false (.call (.f 275) [.t 48]), true, []), (q_ 50 44 false (.call (.f 274) [.t 46, (.t 49)]), true, []), (q_ 51 44 false (.un .not (.t 50)), true, []), (o_ 52 (.pick (.t 44) (.c (.b true)) (.t 51)), true, [])]) (.cond (.t 52) (k_ [o_ 2 (.mov (.c (.b false)))] (.ret)) (.skip))))) (.ops [m_ 29 3, g_ 30 .add 29 1, m_ 3 30])))
def qfb : C := .loop [1, 3] qfk
def qfi : C := (k_ [o_ 2 (.mov (.c (.b true)))] (.ret))
def qbI : Fn := ⟨1, [.t 2], true, (k_ [o_ 1 (.box true (.t 0)), o_ 2 (.mov (.c (.b false)))] (.seq (k_ [a_ 5 1 0, d_ 6 1 5, g_ 7 .neq 6 24] (.cond (.t 7) (.seq (.opsD [(a_ 8 1 0, true, []), (d_ 9 1 8, true, []), (g_ 10 .neq 9 25, true, []), (m_ 11 10, true, []), (q_ 12 11 true (.fieldAddr (.t 1) 0 l_), true, []), (q_ 13 11 true (.load false (some 1) l_ (.t 12)), true, []), (q_ 14 11 true (.bin .neq .num (.t 13) (i_ 26)), true, []), (o_ 15 (.pick (.t 11) (.t 14) (.c (.b false))), true, []), (m_ 16 15, true, []), (q_ 17 16 true (.fieldAddr (.t 1) 7 l_), false, []), (q_ 18 16 true (.load false (some 1) l_ (.t 17)), false, []), (q_ 19 16 true (.fieldAddr (.t 1) 0 l_), false, []), (q_ 20 16 true (.load false (some 1) l_ (.t 19)), false, []), (q_ 21 16 true (.call (.f 275) [.t 20]), true, []), (q_ 22 16 true (.call (.f 274) [.t 18, (.t 21)]), true, []), (o_ 23 (.pick (.t 16) (.t 22) (.c (.b false))), true, []), (m_ 2 23, true, [])]) (.ret)) (.skip))) (.seq (k_ [o_ 3 (.mov (i_ 0))] (.block 0 [] (qfb))) (qfi)))), none, none⟩
def y3 : Fn := ⟨1, [], false, .ops [m_ 2 0, v_ 3 0, o_ 4 (.call (.f 35) [.mv 3, (.c (.s [40]))]), c_ 5 28 [.t 2, .t 4]], none, none⟩
def yX : Fn := ⟨1, [], false, .ops [m_ 2 0, v_ 3 0, o_ 4 (.call (.f 35) [.mv 3, (.c (.s [41]))]), c_ 5 28 [.t 2, .t 4]], none, none⟩
def qjB : C := (k_ [e_ 13 .lss 12 11] (.seq (.cond (.t 13) (.skip) (.exit 0)) (.seq (.block 1 [1, 10, 11, 12] (k_ [x_ 14 10 12 8, o_ 15 (.load false none (s_ 8) (.t 14)), o_ 5 (.alloc true [(.i .i64 0), (.i .i64 0), (.i .i64 0), (.s []), .nil, (.i .i32 0), (.s []), .nil]), z_ (.store (some 5) (s_ 8) (.t 5) (.t 15))] (.ops [o_ 16 (.load false (some 5) (s_ 8) (.t 5)), m_ 17 1, c_ 18 247 [.t 16, .t 17]]))) (.ops [g_ 19 .add 12 1, m_ 12 19]))))
def qjN : C := .loop [1, 10, 11, 12] qjB
def qgR : Fn := ⟨2, [], false, (k_ [o_ 2 (.box true (.t 0))] (k_ [m_ 6 1, o_ 7 (.load false (some 2) (s_ 8) (.t 2)), o_ 8 (.call (.t 6) [.t 7])] (k_ [a_ 9 2 7, d_ 10 2 9, n_ 11 10, o_ 12 (.mov (i_ 0))] (.block 0 [] (qjN))))), none, none⟩
def kN : Fn := ⟨2, [.t 4], true, (k_ [o_ 4 (.mov (.c .nil))] (.seq (k_ [m_ 5 1, g_ 6 .lss 5 0] (.cond (.t 6) (.ops [o_ 7 (.mkIfc 9 (.c (.s [99, 97, 110, 110, 111, 116, 32, 98, 101, 32, 110, 101, 103, 97, 116, 105, 118, 101]))), z_ (.panic (.t 7))]) (.skip))) (.seq (k_ [m_ 8 1, m_ 9 0, o_ 10 (.capN (.t 9)), m_ 11 0, n_ 12 11, e_ 13 .sub 10 12, e_ 14 .sub 8 13, m_ 1 14] (k_ [m_ 15 1, g_ 16 .gtr 15 0] (.cond (.t 16) (.ops [m_ 17 0, m_ 18 0, o_ 19 (.capN (.t 18)), o_ 20 (.sliceL 8 (.t 17) none (some (.t 19))), m_ 21 1, o_ 22 (.zerosR (s_ 8) 184 (.agg [(.s []), .nil, .nil, .nil, .nil, .nil, .nil, .nil]) (.t 20) (.t 21)), m_ 23 0, n_ 24 23, o_ 25 (.truncR (.t 22) (.t 24)), m_ 0 25]) (.skip)))) (k_ [m_ 26 0, m_ 4 26] (.ret))))), none, none⟩
def qcI : Fn := ⟨2, [.t 4], true, (k_ [o_ 3 (.box true (.t 1)), o_ 4 (.mov (i_ 0))] (.seq (.block 0 [] (k_ [o_ 7 (.load false (some 3) (s_ 4) (.t 3)), c_ 8 279 [.t 7], u_ 9 8, m_ 6 9] (.cond (.t 6) (k_ [o_ 4 (.mov (i_ (-1)))] (.ret)) (k_ [a_ 11 3 0, d_ 12 3 11, g_ 13 .eql 12 7, m_ 10 13] (.cond (.t 10) (k_ [v_ 14 0, a_ 15 3 3, d_ 16 3 15, o_ 17 (.indexAddr (.t 16) (i_ 0) 4 none), o_ 18 (.load false none (s_ 4) (.t 17)), c_ 19 249 [.mv 14, .t 18], v_ 5 19] (.seq (k_ [m_ 20 5, g_ 21 .lss 20 0, m_ 22 21, q_ 23 22 false (.mov (.t 5)), q_ 24 22 false (.fieldAddr (.t 3) 1 l_), q_ 25 22 false (.load false (some 3) l_ (.t 24)), q_ 26 22 false (.bin .quo .num (i_ 16384) (.t 25)), q_ 27 22 false (.bin .gtr .num (.t 23) (.t 26)), o_ 28 (.pick (.t 22) (.c (.b true)) (.t 27))] (.cond (.t 28) (k_ [o_ 4 (.mov (i_ (-1)))] (.ret)) (.skip))) (k_ [m_ 29 5, a_ 30 3 1, d_ 31 3 30, e_ 32 .mul 29 31, m_ 4 32] (.ret)))) (k_ [a_ 34 3 0, d_ 35 3 34, g_ 36 .eql 35 8, m_ 33 36] (.cond (.t 33) (k_ [v_ 37 0, a_ 38 3 2, d_ 39 3 38, c_ 40 280 [.mv 37, .t 39], v_ 4 40] (.ret)) (.skip)))))))) (k_ [o_ 4 (.mov (i_ 1))] (.ret)))), none, none⟩
def qg8 : C := (k_ [e_ 39 .lss 38 37] (.seq (.cond (.t 39) (.skip) (.exit 1)) (.seq (.block 2 [0, 5, 37, 38] (k_ [m_ 40 38, m_ 7 40] (k_ [m_ 41 0, o_ 42 (.buildSlice (.i .i64 0) 1 [(0, (i_ 2))]), c_ 43 140 [.t 41, .t 42]] (k_ [m_ 44 0, m_ 45 7, c_ 46 210 [.t 44, .t 45]] (k_ [m_ 47 0, a_ 48 5 6, d_ 49 5 48, v_ 50 7, c_ 51 281 [.t 49, .mv 50], c_ 52 139 [.t 47, .t 51]] (.ops [m_ 53 0, o_ 54 (.buildSlice (.i .i64 0) 1 [(0, (i_ 7))]), c_ 55 140 [.t 53, .t 54]])))))) (.ops [g_ 56 .add 38 1, m_ 38 56]))))
def qhb : C := .loop [0, 5, 37, 38] qg8
def qgS : C := .ops [v_ 57 0, o_ 58 (.buildSlice (.i .i64 0) 1 [(0, (i_ 3))]), c_ 59 140 [.mv 57, .t 58]]
def qed : Fn := ⟨3, [], false, (k_ [o_ 4 (.box true (.t 1)), o_ 5 (.box true (.t 2))] (k_ [m_ 8 0, o_ 9 (.load false (some 4) (s_ 8) (.t 4)), c_ 10 214 [.t 8, .t 9]] (k_ [m_ 11 0, o_ 12 (.fieldAddr (.t 4) 1 (s_ 4)), o_ 13 (.load false (some 4) (s_ 4) (.t 12)), c_ 14 138 [.t 11, .t 13], o_ 15 (.conv .i32 (.t 14)), v_ 6 15] (.block 0 [] (k_ [a_ 25 5 0, d_ 26 5 25, g_ 27 .eql 26 0, m_ 28 27, q_ 29 28 true (.fieldAddr (.t 5) 1 (s_ 4)), q_ 30 28 true (.fieldAddr (.t 29) 0 l_), q_ 31 28 true (.load false (some 5) l_ (.t 30)), q_ 32 28 true (.bin .eql .num (.t 31) (i_ 6)), o_ 33 (.pick (.t 28) (.t 32) (.c (.b false))), m_ 24 33] (.cond (.t 24) (.seq (k_ [a_ 34 5 6, d_ 35 5 34, o_ 36 (.bi .lenS [.t 35]), g_ 37 .add 36 1, o_ 38 (.mov (i_ 0))] (.block 1 [0] (qhb))) (qgS)) (k_ [o_ 61 (.fieldAddr (.t 4) 1 (s_ 4)), a_ 62 61 0, d_ 63 4 62, g_ 64 .eql 63 7, m_ 65 64, q_ 66 65 false (.fieldAddr (.t 4) 1 (s_ 4)), q_ 67 65 false (.fieldAddr (.t 66) 0 l_), q_ 68 65 false (.load false (some 4) l_ (.t 67)), q_ 69 65 false (.bin .eql .num (.t 68) (i_ 8)), o_ 70 (.pick (.t 65) (.c (.b true)) (.t 69)), m_ 60 70] (.cond (.t 60) (k_ [m_ 71 0, o_ 72 (.load false (some 5) (s_ 8) (.t 5)), m_ 73 0, o_ 74 (.mkFn 214 [.t 73] []), c_ 75 218 [.t 71, .t 72, .t 74]] (k_ [m_ 76 6, o_ 77 (.bin .gtr .num (.t 76) (.c (.i .i32 0)))] (.cond (.t 77) (.ops [v_ 78 0, v_ 79 6, c_ 80 146 [.mv 78, (i_ 8), .mv 79]]) (.ops [v_ 81 0, o_ 82 (.buildSlice (.i .i64 0) 2 [(0, (i_ 3)), (1, (i_ 3))]), c_ 83 140 [.mv 81, .t 82]])))) (k_ [m_ 16 0, o_ 17 (.load false (some 5) (s_ 8) (.t 5)), m_ 18 0, o_ 19 (.mkFn 157 [.t 18] []), c_ 20 218 [.t 16, .t 17, .t 19]] (.ops [v_ 21 0, o_ 22 (.buildSlice (.i .i64 0) 1 [(0, (i_ 7))]), c_ 23 140 [.mv 21, .t 22]])))))))))), none, none⟩
def qdu : Fn := ⟨2, [], false, (k_ [o_ 3 (.box true (.t 1))] (k_ [a_ 5 3 0, d_ 6 3 5] (.block 0 [] (k_ [g_ 8 .eql 6 11, m_ 7 8] (.cond (.t 7) (k_ [a_ 9 3 1, d_ 10 3 9, o_ 11 (.indexAddr (.t 10) (i_ 0) 8 none), o_ 12 (.fieldAddr (.t 11) 1 (s_ 4)), a_ 13 12 2, h_ 14 13, o_ 15 (.build [(.i .i64 0), (.i .i64 0), (.s []), .nil] [(0, 1, (i_ 8)), (2, 1, (.t 14))]), o_ 4 (.alloc true [(.i .i64 0), (.i .i64 0), (.s []), .nil]), z_ (.store (some 4) (s_ 4) (.t 4) (.t 15))] (k_ [m_ 16 0, a_ 17 3 1, d_ 18 3 17, o_ 19 (.indexAddr (.t 18) (i_ 0) 8 none), o_ 20 (.load false none (s_ 8) (.t 19)), c_ 21 214 [.t 16, .t 20]] (k_ [m_ 22 0, m_ 23 0, o_ 24 (.load false (some 4) (s_ 4) (.t 4)), c_ 25 138 [.t 23, .t 24], o_ 26 (.conv .i32 (.t 25)), c_ 27 139 [.t 22, .t 26]] (.seq (.seq (.opsD [(m_ 28 0, false, []), (m_ 29 0, false, []), (o_ 30 (.nilCheck (.t 29)), false, []), (a_ 31 30 4, false, []), (h_ 32 31, false, []), (a_ 33 4 2, false, []), (d_ 34 4 33, false, []), (o_ 35 (.lookup 2 (.i .i32 0) (.t 32) (.t 34) false), false, [])]) (.ops [c_ 36 139 [.t 28, .t 35]])) (k_ [m_ 37 0, m_ 38 0, o_ 39 (.nilCheck (.t 38)), o_ 40 (.fieldAddr (.t 39) 18 (s_ 7)), a_ 41 40 2, h_ 42 41, c_ 43 208 [.t 37, (i_ 27), .t 42]] (.ops [v_ 44 0, o_ 45 (.buildSlice (.i .i64 0) 1 [(0, (i_ 7))]), c_ 46 140 [.mv 44, .t 45]])))))) (k_ [g_ 48 .eql 6 12, m_ 47 48] (.cond (.t 47) (k_ [m_ 49 0, a_ 50 3 1, d_ 51 3 50, o_ 52 (.indexAddr (.t 51) (i_ 0) 8 none), o_ 53 (.load false none (s_ 8) (.t 52)), c_ 54 157 [.t 49, .t 53]] (.ops [v_ 55 0, c_ 56 154 [.mv 55, (i_ 5)]])) (k_ [g_ 58 .eql 6 13, m_ 57 58] (.cond (.t 57) (k_ [m_ 59 0, a_ 60 3 1, d_ 61 3 60, o_ 62 (.indexAddr (.t 61) (i_ 0) 8 none), o_ 63 (.load false none (s_ 8) (.t 62)), c_ 64 214 [.t 59, .t 63]] (.ops [v_ 65 0, o_ 66 (.buildSlice (.i .i64 0) 2 [(0, (i_ 31)), (1, (i_ 7))]), c_ 67 140 [.mv 65, .t 66]])) (k_ [g_ 69 .eql 6 14, m_ 68 69] (.cond (.t 68) (k_ [m_ 70 0, a_ 71 3 1, d_ 72 3 71, o_ 73 (.indexAddr (.t 72) (i_ 0) 8 none), o_ 74 (.load false none (s_ 8) (.t 73)), c_ 75 157 [.t 70, .t 74]] (.ops [m_ 76 0, m_ 77 0, o_ 78 (.nilCheck (.t 77)), o_ 79 (.fieldAddr (.t 78) 18 (s_ 7)), a_ 80 79 5, h_ 81 80, c_ 82 208 [.t 76, (i_ 27), .t 81]])) (k_ [g_ 84 .eql 6 15, m_ 83 84] (.cond (.t 83) (k_ [m_ 85 0, a_ 86 3 1, d_ 87 3 86, o_ 88 (.indexAddr (.t 87) (i_ 0) 8 none), o_ 89 (.load false none (s_ 8) (.t 88)), c_ 90 157 [.t 85, .t 89]] (.ops [v_ 91 0, o_ 92 (.buildSlice (.i .i64 0) 1 [(0, (i_ 33))]), c_ 93 140 [.mv 91, .t 92]])) (k_ [g_ 95 .eql 6 17, m_ 94 95] (.cond (.t 94) (k_ [m_ 96 0, o_ 97 (.call (.f 139) [.t 96, (.c (.i .i32 10))])] (.ops [v_ 98 0, o_ 99 (.buildSlice (.i .i64 0) 1 [(0, (i_ 33))]), c_ 100 140 [.mv 98, .t 99]])) (k_ [g_ 102 .eql 6 16, m_ 101 102] (.cond (.t 101) (.ops [v_ 103 0, a_ 104 3 1, d_ 105 3 104, o_ 106 (.indexAddr (.t 105) (i_ 0) 8 none), o_ 107 (.load false none (s_ 8) (.t 106)), c_ 108 283 [.mv 103, .t 107]]) (.skip)))))))))))))))))), none, none⟩
def qb9 : Fn := ⟨2, [], false, (.seq (k_ [m_ 5 1, o_ 6 (.call (.f 284) [.t 5, (.c (.s [46]))])] (.cond (.t 6) (k_ [m_ 7 0, m_ 8 0, o_ 9 (.nilCheck (.t 8)), a_ 10 9 5, h_ 11 10, m_ 12 1, o_ 13 (.lookup 2 (.i .i32 0) (.t 11) (.t 12) false), c_ 14 139 [.t 7, .t 13]] (.ret)) (.skip))) (k_ [m_ 15 0, o_ 16 (.nilCheck (.t 15)), a_ 17 16 25, h_ 18 17, m_ 19 1, o_ 20 (.lookup 2 (.agg [(.i .i64 0), (.b false)]) (.t 18) (.t 19) false), o_ 4 (.alloc true [(.i .i64 0), (.b false)]), z_ (.store (some 4) (s_ 2) (.t 4) (.t 20))] (k_ [m_ 21 0, a_ 22 4 0, d_ 23 4 22, o_ 24 (.conv .i32 (.t 23)), c_ 25 146 [.t 21, (i_ 5), .t 24]] (k_ [a_ 26 4 1, d_ 27 4 26] (.cond (.t 27) (.ops [v_ 28 0, o_ 29 (.buildSlice (.i .i64 0) 1 [(0, (i_ 6))]), c_ 30 140 [.mv 28, .t 29]]) (.skip)))))), none, none⟩
def qjw : Fn := ⟨1, [.t 2], true, (k_ [o_ 1 (.box true (.t 0)), o_ 2 (.mov (.c (.b false)))] (k_ [o_ 3 (.alloc false [(.b false)]), z_ (.store none l_ (.t 3) (.c (.b false)))] (k_ [o_ 4 (.load false (some 1) (s_ 8) (.t 1)), o_ 5 (.mkFn 286 [] [.t 3]), c_ 6 247 [.t 4, .t 5]] (k_ [h_ 7 3, m_ 2 7] (.ret))))), none, none⟩
def qch : Fn := ⟨2, [], false, (k_ [m_ 4 1] (.block 0 [] (k_ [g_ 6 .eql 4 16, m_ 5 6] (.cond (.t 5) (.ops [v_ 7 0, o_ 8 (.buildSlice (.i .i64 0) 1 [(0, (i_ 22))]), c_ 9 140 [.mv 7, .t 8]]) (k_ [g_ 11 .eql 4 17, m_ 10 11] (.cond (.t 10) (k_ [m_ 12 0, o_ 13 (.buildSlice (.i .i64 0) 1 [(0, (i_ 22))]), c_ 14 140 [.t 12, .t 13]] (.ops [v_ 15 0, c_ 16 264 [.mv 15]])) (k_ [g_ 18 .eql 4 18, m_ 17 18] (.cond (.t 17) (.ops [v_ 19 0, o_ 20 (.buildSlice (.i .i64 0) 1 [(0, (i_ 23))]), c_ 21 140 [.mv 19, .t 20]]) (k_ [g_ 23 .eql 4 19, m_ 22 23] (.cond (.t 22) (.ops [v_ 24 0, o_ 25 (.buildSlice (.i .i64 0) 1 [(0, (i_ 24))]), c_ 26 140 [.mv 24, .t 25]]) (k_ [g_ 28 .eql 4 20, m_ 27 28] (.cond (.t 27) (.ops [v_ 29 0, o_ 30 (.buildSlice (.i .i64 0) 2 [(0, (i_ 4)), (1, (i_ 23))]), c_ 31 140 [.mv 29, .t 30]]) (k_ [g_ 33 .eql 4 21, m_ 32 33] (.cond (.t 32) (.ops [v_ 34 0, o_ 35 (.buildSlice (.i .i64 0) 2 [(0, (i_ 4)), (1, (i_ 24))]), c_ 36 140 [.mv 34, .t 35]]) (.skip))))))))))))))), none, none⟩
def qlc : Fn := ⟨2, [.t 4], true, (k_ [o_ 4 (.mov (.c (.i .i32 0)))] (k_ [m_ 5 0, m_ 6 1, e_ 7 .add 5 6, m_ 4 7] (.ret))), none, none⟩
def qle : Fn := ⟨2, [.t 4, (.t 5)], false, (k_ [o_ 4 (.mov (.c (.i .i32 0))), o_ 5 (.mov (.c (.b false)))] (.seq (k_ [m_ 7 1, o_ 8 (.bin .lss .num (.t 7) (.c (.i .i32 1)))] (.cond (.t 8) (k_ [o_ 4 (.mov (.c (.i .i32 0))), o_ 5 (.mov (.c (.b false)))] (.ret)) (.skip))) (k_ [m_ 9 0, m_ 10 1, e_ 11 .quo 9 10, m_ 6 11] (.seq (k_ [m_ 12 0, m_ 13 1, e_ 14 .rem 12 13, o_ 15 (.bin .lss .num (.t 14) (.c (.i .i32 0)))] (.cond (.t 15) (.ops [m_ 16 6, o_ 17 (.bin .sub .num (.t 16) (.c (.i .i32 1))), m_ 6 17]) (.skip))) (k_ [m_ 18 6, m_ 4 18, o_ 5 (.mov (.c (.b true)))] (.ret)))))), none, none⟩
def qll : Fn := ⟨2, [.t 4, (.t 5)], false, (k_ [o_ 4 (.mov (.c (.i .i32 0))), o_ 5 (.mov (.c (.b false)))] (.seq (k_ [m_ 7 1, o_ 8 (.bin .lss .num (.t 7) (.c (.i .i32 1)))] (.cond (.t 8) (k_ [o_ 4 (.mov (.c (.i .i32 0))), o_ 5 (.mov (.c (.b false)))] (.ret)) (.skip))) (k_ [m_ 9 0, m_ 10 1, e_ 11 .rem 9 10, m_ 6 11] (.seq (k_ [m_ 12 6, o_ 13 (.bin .lss .num (.t 12) (.c (.i .i32 0)))] (.cond (.t 13) (.ops [m_ 14 6, m_ 15 1, e_ 16 .add 14 15, m_ 6 16]) (.skip))) (k_ [m_ 17 6, m_ 4 17, o_ 5 (.mov (.c (.b true)))] (.ret)))))), none, none⟩
def jI : Fn := ⟨1, [(.cell 2 (s_ 8))], true, (k_ [o_ 2 (.alloc true [(.i .i64 0), (.i .i64 0), (.i .i64 0), (.s []), .nil, (.i .i32 0), (.s []), .nil])] (k_ [m_ 6 0, c_ 7 43 [.t 6], o_ 8 (.field (.t 7) 3 l_), m_ 3 8] (.seq (k_ [m_ 9 3, c_ 10 33 [.t 9]] (.cond (.t 10) (k_ [m_ 11 0, c_ 12 66 [.t 11]] (k_ [v_ 13 0, v_ 14 3, c_ 15 289 [.mv 13, .mv 14], z_ (.store (some 2) (s_ 8) (.t 2) (.mv 15))] (.ret))) (.skip))) (k_ [m_ 17 0, c_ 18 172 [.t 17], m_ 16 18, r_ 19 16 0, r_ 20 16 1, o_ 4 (.alloc true [(.i .i64 0), (.i .i64 0), (.i .i64 0), (.s []), .nil, (.i .i64 0), (.i .i64 0), (.i .i64 0), (.s []), .nil, (.i .i32 0), (.s []), .nil, (.s []), (.b false), .nil, (.i .i64 0), (.i .i64 0), (.s []), .nil, .nil, .nil, .nil, (.b false)]), z_ (.store (some 4) (s_ 24) (.t 4) (.t 19)), m_ 5 20] (.seq (k_ [a_ 21 4 0, d_ 22 4 21] (.block 0 [0, 2, 5] (k_ [g_ 24 .eql 22 2, m_ 23 24] (.cond (.t 23) (k_ [o_ 25 (.fieldAddr (.t 4) 5 (s_ 8)), o_ 26 (.load false (some 4) (s_ 8) (.t 25)), z_ (.store (some 2) (s_ 8) (.t 2) (.t 26))] (.ret)) (.seq (k_ [g_ 28 .eql 22 4, m_ 27 28] (.cond (.t 27) (.skip) (.ops [g_ 29 .eql 22 6, m_ 27 29]))) (.cond (.t 27) (k_ [v_ 30 0, o_ 31 (.fieldAddr (.t 4) 1 (s_ 4)), o_ 32 (.load false (some 4) (s_ 4) (.t 31)), m_ 33 5, o_ 34 (.build [(.i .i64 0), (.i .i64 0), (.i .i64 0), (.s []), .nil, (.i .i32 0), (.s []), .nil] [(0, 1, (i_ 1)), (1, 4, (.t 32)), (6, 1, (.t 33))]), c_ 35 177 [.mv 30, .t 34], z_ (.store (some 2) (s_ 8) (.t 2) (.mv 35))] (.ret)) (k_ [g_ 37 .eql 22 5, m_ 36 37] (.cond (.t 36) (k_ [m_ 38 0, o_ 39 (.fieldAddr (.t 4) 13 (s_ 10)), o_ 40 (.fieldAddr (.t 39) 3 (s_ 4)), a_ 41 40 0, d_ 42 4 41, g_ 43 .neq 42 0, c_ 44 72 [.t 38, .t 43]] (k_ [m_ 45 0, m_ 46 0, o_ 47 (.call (.f 40) [.t 46, (i_ 5), (.c (.s [40]))]), c_ 48 28 [.t 45, .t 47]] (k_ [v_ 49 0, o_ 50 (.fieldAddr (.t 4) 13 (s_ 10)), o_ 51 (.load false (some 4) (s_ 10) (.t 50)), v_ 52 5, c_ 53 178 [.mv 49, .t 51, .mv 52], z_ (.store (some 2) (s_ 8) (.t 2) (.mv 53))] (.ret)))) (.skip))))))))) (.seq (k_ [m_ 54 5, o_ 55 (.bin .eql .num (.t 54) (.c (.s [73, 110, 46, 69, 111, 102])))] (.cond (.t 55) (k_ [m_ 56 0, m_ 57 0, o_ 58 (.call (.f 35) [.t 57, (.c (.s [40]))]), c_ 59 28 [.t 56, .t 58]] (k_ [m_ 60 0, v_ 61 0, o_ 62 (.call (.f 35) [.mv 61, (.c (.s [41]))]), c_ 63 28 [.t 60, .t 62]] (k_ [c_ 64 114 [(i_ 3)], o_ 65 (.build [(.i .i64 0), (.i .i64 0), (.i .i64 0), (.s []), .nil, (.i .i32 0), (.s []), .nil] [(0, 1, (i_ 34)), (1, 4, (.t 64))]), z_ (.store (some 2) (s_ 8) (.t 2) (.t 65))] (.ret)))) (.skip))) (k_ [v_ 66 0, c_ 67 34 [.mv 66, (i_ 32)]] (k_ [o_ 68 (.build [(.i .i64 0), (.i .i64 0), (.i .i64 0), (.s []), .nil, (.i .i32 0), (.s []), .nil] []), z_ (.store (some 2) (s_ 8) (.t 2) (.t 68))] (.ret))))))))), none, none⟩
def qht : C := (.seq (k_ [m_ 6 5, m_ 7 0, n_ 8 7, e_ 9 .lss 6 8] (.cond (.t 9) (.skip) (.exit 0))) (.seq (.block 1 [0, 1, 5] (k_ [m_ 12 0, m_ 13 5, x_ 14 12 13 8, o_ 15 (.load false none (s_ 8) (.t 14)), c_ 16 73 [.t 15], u_ 17 16] (.cond (.t 17) (k_ [o_ 4 (.mov (.c (.b false)))] (.ret)) (.skip)))) (.ops [m_ 10 5, g_ 11 .add 10 1, m_ 5 11])))
def qhr : C := .loop [0, 1, 5] qht
def qhl : C := (k_ [m_ 18 0, n_ 19 18, m_ 20 1, e_ 21 .eql 19 20, m_ 22 21, q_ 23 22 true (.mov (.t 1)), q_ 24 22 true (.bin .gtr .num (.t 23) (i_ 0)), o_ 25 (.pick (.t 22) (.t 24) (.c (.b false))), m_ 4 25] (.ret))
def qdy : Fn := ⟨2, [.t 4], true, (k_ [o_ 4 (.mov (.c (.b false)))] (.seq (k_ [o_ 5 (.mov (i_ 0))] (.block 0 [0, 1] (qhr))) (qhl))), none, none⟩
def qdH : Fn := ⟨1, [.t 2], true, (k_ [o_ 2 (.mov (i_ 0))] (.seq (k_ [m_ 3 0] (.block 0 [0] (.seq (k_ [g_ 5 .eql 3 7, m_ 4 5] (.cond (.t 4) (.skip) (k_ [g_ 6 .eql 3 8, m_ 4 6] (.cond (.t 4) (.skip) (k_ [g_ 7 .eql 3 27, m_ 4 7] (.cond (.t 4) (.skip) (k_ [g_ 8 .eql 3 28, m_ 4 8] (.cond (.t 4) (.skip) (k_ [g_ 9 .eql 3 32, m_ 4 9] (.cond (.t 4) (.skip) (k_ [g_ 10 .eql 3 33, m_ 4 10] (.cond (.t 4) (.skip) (.ops [g_ 11 .eql 3 25, m_ 4 11]))))))))))))) (.cond (.t 4) (k_ [o_ 2 (.mov (i_ 1))] (.ret)) (.seq (k_ [g_ 13 .eql 3 29, m_ 12 13] (.cond (.t 12) (.skip) (k_ [g_ 14 .eql 3 30, m_ 12 14] (.cond (.t 12) (.skip) (k_ [g_ 15 .eql 3 31, m_ 12 15] (.cond (.t 12) (.skip) (.ops [g_ 16 .eql 3 26, m_ 12 16]))))))) (.cond (.t 12) (k_ [o_ 2 (.mov (i_ 2))] (.ret)) (.skip))))))) (.seq (k_ [m_ 17 0, g_ 18 .geq 17 9, m_ 19 18, q_ 20 19 true (.mov (.t 0)), q_ 21 19 true (.bin .leq .num (.t 20) (i_ 22)), o_ 22 (.pick (.t 19) (.t 21) (.c (.b false)))] (.cond (.t 22) (k_ [o_ 2 (.mov (i_ 2))] (.ret)) (.skip))) (k_ [o_ 2 (.mov (i_ 0))] (.ret))))), none, none⟩
def qjr : Fn := ⟨1, [.t 2], true, (k_ [o_ 1 (.box true (.t 0)), o_ 2 (.mov (.c (.b false)))] (.seq (.block 0 [] (k_ [a_ 4 1 0, d_ 5 1 4, c_ 6 297 [.t 5], v_ 3 6] (.cond (.t 3) (k_ [a_ 7 1 1, d_ 8 1 7, g_ 9 .eql 8 0, m_ 10 9, q_ 11 10 true (.fieldAddr (.t 1) 2 l_), q_ 12 10 true (.load false (some 1) l_ (.t 11)), q_ 13 10 true (.bin .eql .num (.t 12) (.c (.s []))), o_ 14 (.pick (.t 10) (.t 13) (.c (.b false))), m_ 15 14, q_ 16 15 true (.fieldAddr (.t 1) 3 l_), q_ 17 15 true (.load false (some 1) l_ (.t 16)), q_ 18 15 true (.bi .lenL [.t 17]), q_ 19 15 true (.bin .eql .num (.t 18) (i_ 0)), o_ 20 (.pick (.t 15) (.t 19) (.c (.b false))), m_ 2 20] (.ret)) (k_ [a_ 22 1 0, d_ 23 1 22, g_ 24 .eql 23 7, m_ 21 24] (.cond (.t 21) (k_ [a_ 25 1 1, d_ 26 1 25, g_ 27 .geq 26 1, m_ 28 27, q_ 29 28 true (.fieldAddr (.t 1) 1 l_), q_ 30 28 true (.load false (some 1) l_ (.t 29)), q_ 31 28 true (.bin .leq .num (.t 30) (i_ 1024)), o_ 32 (.pick (.t 28) (.t 31) (.c (.b false))), m_ 33 32, q_ 34 33 true (.fieldAddr (.t 1) 2 l_), q_ 35 33 true (.load false (some 1) l_ (.t 34)), q_ 36 33 true (.bin .eql .num (.t 35) (.c (.s []))), o_ 37 (.pick (.t 33) (.t 36) (.c (.b false))), m_ 38 37, q_ 39 38 true (.fieldAddr (.t 1) 3 l_), q_ 40 38 true (.load false (some 1) l_ (.t 39)), q_ 41 38 true (.bi .lenL [.t 40]), q_ 42 38 true (.bin .eql .num (.t 41) (i_ 1)), o_ 43 (.pick (.t 38) (.t 42) (.c (.b false))), m_ 44 43, q_ 45 44 true (.fieldAddr (.t 1) 3 l_), q_ 46 44 true (.load false (some 1) l_ (.t 45)), q_ 47 44 true (.indexAddr (.t 46) (i_ 0) 4 none), q_ 48 44 true (.load false none (s_ 4) (.t 47)), q_ 49 44 true (.call (.f 279) [.t 48]), o_ 50 (.pick (.t 44) (.t 49) (.c (.b false))), m_ 2 50] (.ret)) (k_ [a_ 52 1 0, d_ 53 1 52, g_ 54 .eql 53 8, m_ 55 54, q_ 56 55 false (.fieldAddr (.t 1) 0 l_), q_ 57 55 false (.load false (some 1) l_ (.t 56)), q_ 58 55 false (.bin .eql .num (.t 57) (i_ 9)), o_ 59 (.pick (.t 55) (.c (.b true)) (.t 58)), m_ 51 59] (.cond (.t 51) (k_ [a_ 60 1 1, d_ 61 1 60, g_ 62 .eql 61 0, m_ 63 62, q_ 64 63 true (.fieldAddr (.t 1) 2 l_), q_ 65 63 true (.load false (some 1) l_ (.t 64)), q_ 66 63 true (.bin .neq .num (.t 65) (.c (.s []))), o_ 67 (.pick (.t 63) (.t 66) (.c (.b false))), m_ 68 67, q_ 69 68 true (.fieldAddr (.t 1) 3 l_), q_ 70 68 true (.load false (some 1) l_ (.t 69)), q_ 71 68 true (.bi .lenL [.t 70]), q_ 72 68 true (.bin .eql .num (.t 71) (i_ 0)), o_ 73 (.pick (.t 68) (.t 72) (.c (.b false))), m_ 2 73] (.ret)) (.skip)))))))) (k_ [o_ 2 (.mov (.c (.b false)))] (.ret)))), none, none⟩
def qdE : Fn := ⟨2, [.t 4], true, (k_ [o_ 4 (.mov (.c (.b false)))] (k_ [v_ 5 0, v_ 6 1, c_ 7 299 [.mv 5, .mv 6], g_ 8 .geq 7 0, m_ 4 8] (.ret))), none, none⟩
def qgG : Fn := ⟨2, [], false, (k_ [o_ 2 (.box true (.t 0))] (.ops [h_ 3 1, m_ 4 3, q_ 5 4 false (.fieldAddr (.t 2) 0 l_), q_ 6 4 false (.load false (some 2) l_ (.t 5)), q_ 7 4 false (.bin .eql .num (.t 6) (i_ 6)), o_ 8 (.pick (.t 4) (.c (.b true)) (.t 7)), z_ (.store none l_ (.t 1) (.t 8))])), none, none⟩
def qjn : Fn := ⟨1, [.t 2], true, (k_ [o_ 2 (.mov (.c (.b false)))] (k_ [m_ 3 0, g_ 4 .geq 3 1, m_ 5 4, q_ 6 5 true (.mov (.t 0)), q_ 7 5 true (.bin .leq .num (.t 6) (i_ 4)), o_ 8 (.pick (.t 5) (.t 7) (.c (.b false))), m_ 2 8] (.ret))), none, none⟩
def qgO : Fn := ⟨2, [.t 4], true, (k_ [o_ 4 (.mov (i_ 0))] (k_ [v_ 5 0, v_ 6 1, c_ 7 301 [.mv 5, .mv 6], v_ 4 7] (.ret))), none, none⟩
def qbD : C := (.seq (k_ [m_ 57 8, m_ 58 9, e_ 59 .lss 57 58] (.cond (.t 59) (.skip) (.exit 1))) (.block 2 [0, 1, 5, 6, 7, 8, 9, 10] (.seq (k_ [m_ 60 0, m_ 61 8, o_ 62 (.index (.t 60) (.t 61)), m_ 63 6, e_ 64 .neq 62 63] (.cond (.t 64) (k_ [m_ 65 0, m_ 66 8, g_ 67 .add 66 1, m_ 68 9, o_ 69 (.sliceS (.t 65) (some (.t 67)) (some (.t 68))), m_ 70 6, c_ 71 302 [.t 69, .t 70], v_ 11 71] (.seq (k_ [m_ 72 11, g_ 73 .lss 72 0] (.cond (.t 73) (k_ [o_ 4 (.mov (i_ (-1)))] (.ret)) (.skip))) (.ops [m_ 74 8, m_ 75 11, g_ 76 .add 75 1, e_ 77 .add 74 76, m_ 8 77]))) (.skip))) (.seq (k_ [m_ 78 0, m_ 79 8, g_ 80 .add 79 1, o_ 81 (.index (.t 78) (.t 80)), m_ 82 7, e_ 83 .eql 81 82, m_ 84 83, q_ 85 84 true (.mov (.t 0)), q_ 86 84 true (.mov (.t 8)), q_ 87 84 true (.mov (.t 8)), q_ 88 84 true (.mov (.t 5)), q_ 89 84 true (.bin .add .num (.t 87) (.t 88)), q_ 90 84 true (.sliceS (.t 85) (some (.t 86)) (some (.t 89))), q_ 91 84 true (.mov (.t 1)), q_ 92 84 true (.bin .eql .num (.t 90) (.t 91)), o_ 93 (.pick (.t 84) (.t 92) (.c (.b false)))] (.cond (.t 93) (k_ [m_ 94 8, m_ 4 94] (.ret)) (.skip))) (k_ [m_ 95 8, g_ 96 .add 95 1, m_ 8 96] (k_ [m_ 97 10, g_ 98 .add 97 1, m_ 10 98] (k_ [m_ 99 5, o_ 100 (.stuck), e_ 101 .leq 99 100, m_ 102 101, q_ 103 102 true (.mov (.t 10)), q_ 104 102 true (.mov (.t 8)), q_ 105 102 true (.call (.f 304) [.t 104]), q_ 106 102 true (.bin .gtr .num (.t 103) (.t 105)), o_ 107 (.pick (.t 102) (.t 106) (.c (.b false)))] (.cond (.t 107) (k_ [m_ 108 0, m_ 109 8, o_ 110 (.sliceS (.t 108) (some (.t 109)) none), v_ 111 1, c_ 112 303 [.t 110, .mv 111], m_ 12 112] (.seq (k_ [m_ 113 12, g_ 114 .geq 113 0] (.cond (.t 114) (k_ [m_ 115 12, m_ 116 8, e_ 117 .add 115 116, m_ 4 117] (.ret)) (.skip))) (k_ [o_ 4 (.mov (i_ (-1)))] (.ret)))) (k_ [m_ 118 5, o_ 119 (.stuck), e_ 120 .gtr 118 119, m_ 121 120, q_ 122 121 true (.mov (.t 10)), q_ 123 121 true (.mov (.t 8)), q_ 124 121 true (.bin .shr .num (.t 123) (.c (.i .u64 4))), q_ 125 121 true (.bin .add .num (i_ 4) (.t 124)), q_ 126 121 true (.bin .geq .num (.t 122) (.t 125)), o_ 127 (.pick (.t 121) (.t 126) (.c (.b false))), m_ 128 127, q_ 129 128 true (.mov (.t 8)), q_ 130 128 true (.mov (.t 9)), q_ 131 128 true (.bin .lss .num (.t 129) (.t 130)), o_ 132 (.pick (.t 128) (.t 131) (.c (.b false)))] (.cond (.t 132) (k_ [m_ 133 0, m_ 134 8, o_ 135 (.sliceS (.t 133) (some (.t 134)) none), v_ 136 1, c_ 137 305 [.t 135, .mv 136], v_ 13 137] (.seq (k_ [m_ 138 13, g_ 139 .lss 138 0] (.cond (.t 139) (k_ [o_ 4 (.mov (i_ (-1)))] (.ret)) (.skip))) (k_ [m_ 140 8, m_ 141 13, e_ 142 .add 140 141, m_ 4 142] (.ret)))) (.skip)))))))))))
def qbE : C := .loop [0, 1, 5, 6, 7, 8, 9, 10] qbD
def qbC : C := (k_ [o_ 4 (.mov (i_ (-1)))] (.ret))
def jv : Fn := ⟨2, [.t 4], true, (k_ [o_ 4 (.mov (i_ 0))] (k_ [m_ 14 1, o_ 15 (.bi .lenS [.t 14]), m_ 5 15] (.seq (.block 0 [0, 1, 5] (k_ [m_ 17 5, g_ 18 .eql 17 0, m_ 19 18, q_ 20 19 false (.mov (.t 1)), q_ 21 19 false (.mov (.t 0)), q_ 22 19 false (.bin .eql .num (.t 20) (.t 21)), o_ 23 (.pick (.t 19) (.c (.b true)) (.t 22)), m_ 16 23] (.cond (.t 16) (k_ [o_ 4 (.mov (i_ 0))] (.ret)) (k_ [m_ 25 5, g_ 26 .eql 25 1, m_ 24 26] (.cond (.t 24) (k_ [v_ 27 0, m_ 28 1, o_ 29 (.index (.t 28) (i_ 0)), c_ 30 302 [.mv 27, .t 29], v_ 4 30] (.ret)) (k_ [m_ 32 5, m_ 33 0, o_ 34 (.bi .lenS [.t 33]), e_ 35 .geq 32 34, m_ 31 35] (.cond (.t 31) (k_ [o_ 4 (.mov (i_ (-1)))] (.ret)) (k_ [m_ 37 5, o_ 38 (.stuck), e_ 39 .leq 37 38, m_ 40 39, q_ 41 40 true (.mov (.t 0)), q_ 42 40 true (.bi .lenS [.t 41]), q_ 43 40 true (.bin .leq .num (.t 42) (i_ 64)), o_ 44 (.pick (.t 40) (.t 43) (.c (.b false))), m_ 36 44] (.cond (.t 36) (k_ [v_ 45 0, v_ 46 1, c_ 47 303 [.mv 45, .mv 46], m_ 4 47] (.ret)) (.skip)))))))))) (k_ [m_ 48 1, o_ 49 (.index (.t 48) (i_ 0)), m_ 6 49] (k_ [m_ 50 1, o_ 51 (.index (.t 50) (i_ 1)), m_ 7 51] (k_ [o_ 8 (.mov (i_ 0))] (k_ [m_ 52 0, o_ 53 (.bi .lenS [.t 52]), m_ 54 5, e_ 55 .sub 53 54, g_ 56 .add 55 1, m_ 9 56] (k_ [o_ 10 (.mov (i_ 0))] (.seq (.block 1 [] (qbE)) (qbC)))))))))), none, none⟩
def zH : Fn := ⟨2, [.t 4], true, (k_ [o_ 4 (.mov (i_ 0))] (k_ [v_ 5 0, v_ 6 1, c_ 7 306 [.mv 5, .mv 6], m_ 4 7] (.ret))), none, none⟩
def prog (n : Nat) : Option Fn :=
  bif qCy n 4 then some qa else
  bif qCy n 7 then some qeh else
  bif qCy n 8 then some qb6 else
  bif qCy n 11 then some qeN else
  bif qCy n 12 then some qfU else
  bif qCy n 13 then some qfM else
  bif qCy n 15 then some qe0 else
  bif qCy n 16 then some jP else
  bif qCy n 17 then some qea else
  bif qCy n 23 then some qhB else
  bif qCy n 24 then some qjk else
  bif qCy n 25 then some qbH else
  bif qCy n 26 then some qeH else
  bif qCy n 27 then some qcL else
  bif qCy n 28 then some y9 else
  bif qCy n 29 then some qao else
  bif qCy n 30 then some yJ else
  bif qCy n 31 then some qcF else
  bif qCy n 32 then some qe7 else
  bif qCy n 33 then some qdM else
  bif qCy n 35 then some yM else
  bif qCy n 36 then some jL else
  bif qCy n 39 then some yW else
  bif qCy n 40 then some yV else
  bif qCy n 42 then some yO else
  bif qCy n 43 then some qau else
  bif qCy n 44 then some qfG else
  bif qCy n 45 then some qbj else
  bif qCy n 46 then some qeF else
  bif qCy n 47 then some qba else
  bif qCy n 48 then some qal else
  bif qCy n 54 then some qlh else
  bif qCy n 55 then some kY else
  bif qCy n 56 then some jJ else
  bif qCy n 57 then some qaL else
  bif qCy n 58 then some qaa else
  bif qCy n 59 then some qee else
  bif qCy n 60 then some qcJ else
  bif qCy n 61 then some qdF else
  bif qCy n 62 then some qb3 else
  bif qCy n 63 then some qcK else
  bif qCy n 65 then some qfq else
  bif qCy n 66 then some yQ else
  bif qCy n 67 then some jH else
  bif qCy n 68 then some yU else
  bif qCy n 69 then some jN else
  bif qCy n 70 then some yR else
  bif qCy n 71 then some yN else
  bif qCy n 72 then some qbv else
  bif qCy n 73 then some qgI else
  bif qCy n 75 then some qaj else
  bif qCy n 76 then some y8 else
  bif qCy n 77 then some yI else
  bif qCy n 81 then some jQ else
  bif qCy n 82 then some qe5 else
  bif qCy n 83 then some yY else
  bif qCy n 84 then some qaT else
  bif qCy n 85 then some qek else
  bif qCy n 86 then some qbz else
  bif qCy n 89 then some qdA else
  bif qCy n 95 then some qkp else
  bif qCy n 96 then some qk9 else
  bif qCy n 97 then some qe6 else
  bif qCy n 98 then some qeK else
  bif qCy n 99 then some qd5 else
  bif qCy n 100 then some qeW else
  bif qCy n 101 then some qd0 else
  bif qCy n 102 then some qfX else
  bif qCy n 103 then some qe4 else
  bif qCy n 104 then some qcH else
  bif qCy n 106 then some qgL else
  bif qCy n 107 then some jm else
  bif qCy n 108 then some qbJ else
  bif qCy n 109 then some qbG else
  bif qCy n 110 then some qf0 else
  bif qCy n 111 then some jR else
  bif qCy n 112 then some yG else
  bif qCy n 113 then some yZ else
  bif qCy n 114 then some qd8 else
  bif qCy n 115 then some yL else
  bif qCy n 121 then some qfK else
  bif qCy n 122 then some qeS else
  bif qCy n 125 then some y6 else
  bif qCy n 128 then some jb else
  bif qCy n 129 then some qdt else
  bif qCy n 134 then some qlk else
  bif qCy n 135 then some qlf else
  bif qCy n 136 then some qkn else
  bif qCy n 137 then some kU else
  bif qCy n 138 then some qeY else
  bif qCy n 139 then some qft else
  bif qCy n 140 then some qgE else
  bif qCy n 141 then some qca else
  bif qCy n 142 then some qeM else
  bif qCy n 143 then some qfw else
  bif qCy n 144 then some qdY else
  bif qCy n 145 then some qfH else
  bif qCy n 146 then some qf1 else
  bif qCy n 147 then some qb1 else
  bif qCy n 148 then some qcE else
  bif qCy n 149 then some qdG else
  bif qCy n 150 then some qdw else
  bif qCy n 151 then some qb2 else
  bif qCy n 152 then some qcb else
  bif qCy n 153 then some qcN else
  bif qCy n 154 then some qeJ else
  bif qCy n 156 then some qfz else
  bif qCy n 157 then some qe2 else
  bif qCy n 158 then some qaq else
  bif qCy n 159 then some qiy else
  bif qCy n 160 then some qkf else
  bif qCy n 161 then some y4 else
  bif qCy n 162 then some qa2 else
  bif qCy n 163 then some qak else
  bif qCy n 164 then some yP else
  bif qCy n 165 then some qcG else
  bif qCy n 166 then some qeG else
  bif qCy n 167 then some qdN else
  bif qCy n 168 then some j6 else
  bif qCy n 169 then some yH else
  bif qCy n 171 then some qaU else
  bif qCy n 172 then some yS else
  bif qCy n 173 then some ja else
  bif qCy n 174 then some jO else
  bif qCy n 176 then some jz else
  bif qCy n 177 then some jl else
  bif qCy n 179 then some jM else
  bif qCy n 180 then some qdx else
  bif qCy n 192 then some qjx else
  bif qCy n 193 then some qlq else
  bif qCy n 194 then some qjz else
  bif qCy n 195 then some qla else
  bif qCy n 197 then some qjs else
  bif qCy n 198 then some kw else
  bif qCy n 199 then some qjh else
  bif qCy n 200 then some qeU else
  bif qCy n 201 then some qh7 else
  bif qCy n 202 then some qip else
  bif qCy n 203 then some kO else
  bif qCy n 204 then some qf2 else
  bif qCy n 205 then some qeB else
  bif qCy n 206 then some qfJ else
  bif qCy n 207 then some qe8 else
  bif qCy n 208 then some qfL else
  bif qCy n 209 then some qfs else
  bif qCy n 210 then some qgQ else
  bif qCy n 211 then some qeT else
  bif qCy n 212 then some qeQ else
  bif qCy n 213 then some qfA else
  bif qCy n 214 then some qeC else
  bif qCy n 218 then some qei else
  bif qCy n 219 then some qgN else
  bif qCy n 221 then some qm5 else
  bif qCy n 222 then some qbF else
  bif qCy n 223 then some qa7 else
  bif qCy n 225 then some qaz else
  bif qCy n 226 then some qjp else
  bif qCy n 227 then some qaw else
  bif qCy n 228 then some j9 else
  bif qCy n 229 then some qbI else
  bif qCy n 231 then some y3 else
  bif qCy n 233 then some yX else
  bif qCy n 247 then some qgR else
  bif qCy n 248 then some kN else
  bif qCy n 249 then some qcI else
  bif qCy n 250 then some qed else
  bif qCy n 255 then some qdu else
  bif qCy n 256 then some qb9 else
  bif qCy n 259 then some qjw else
  bif qCy n 263 then some qch else
  bif qCy n 265 then some qlc else
  bif qCy n 267 then some qle else
  bif qCy n 268 then some qll else
  bif qCy n 273 then some jI else
  bif qCy n 274 then some qdy else
  bif qCy n 275 then some qdH else
  bif qCy n 279 then some qjr else
  bif qCy n 284 then some qdE else
  bif qCy n 286 then some qgG else
  bif qCy n 297 then some qjn else
  bif qCy n 299 then some qgO else
  bif qCy n 301 then some jv else
  bif qCy n 302 then some zH else
  none
end W

/- The program is what the small semantics runs: the seat's table. -/
set_option linter.unusedVariables false
set_option linter.unusedSimpArgs false
namespace Go.Proofs.YtmaninacgfbecaaGreat
open Go.ChangeShapes Go.WideShapes Go.ChangeAt Go.RowKit W
set_option maxRecDepth 100000
theorem own : ownKnob Tryz.prog.godebug = none := by kernel_rfl
theorem qwy {H : Type} : Bulk (Rows.uptoBulk (H := H)) Rows.uptoBulkAll :=
  ⟨fun _ => rfl, fun l => by cases l <;> simp [Rows.uptoBulk], rfl, fun _ _ => rfl, fun _ => rfl, rfl, fun _ _ => rfl⟩
def pg0 : W.Pg := ⟨W.prog, fun _ _ _ => none⟩
def maps : Maps := { fm := (List.range 326).map fun i => (i, i), tm := (List.range 302).map fun i => (i, i), gl := [], bk := [(203, ⟨4, true⟩)] }
theorem qCp : qe maps Tryz.prog { loc := [8, 12], org := [(8, 8), (12, 12), (81, 12), (86, 12)], mv := [(15, 8, 0), (12, 3, 0)], bl := [(1, [1, 5, 6, 7]), (0, [1, 5, 6])], ll := [(0, [1, 5, 6, 7])] } true Tryz.f4 = some qa := by kernel_rfl
theorem qCe : qe maps Tryz.prog { loc := [1, 3], org := [(1, 1), (3, 3), (21, 3), (27, 3), (32, 3)], mv := [], bl := [], ll := [] } true Tryz.f7 = some qeh := by kernel_rfl
theorem qCj : qe maps Tryz.prog { loc := [4], org := [(4, 4)], mv := [(1, 0, 0), (1, 1, 0)], bl := [], ll := [], fz := [(6, 0, 9)] } false Tryz.f8 = some qb6 := by kernel_rfl
theorem qBN : qe maps Tryz.prog { loc := [], org := [], mv := [(1, 1, 0), (1, 2, 1), (1, 0, 0), (1, 2, 0)], bl := [], ll := [] } true Tryz.f11 = some qeN := by kernel_rfl
theorem qAX : qe maps Tryz.prog { loc := [10, 17], org := [(10, 10), (17, 17), (61, 17)], mv := [(9, 4, 1), (9, 1, 0), (9, 2, 1), (9, 0, 0), (9, 2, 0), (4, 5, 0), (4, 3, 0), (4, 4, 3), (4, 2, 0), (4, 4, 2), (1, 1, 0), (1, 2, 1), (1, 0, 0), (1, 2, 0)], bl := [], ll := [] } false Tryz.f12 = some qfU := by kernel_rfl
theorem qAS : qe maps Tryz.prog { loc := [], org := [], mv := [], bl := [], ll := [] } true Tryz.f13 = some qfM := by kernel_rfl
theorem qBA : qe maps Tryz.prog { loc := [9], org := [(9, 9), (49, 9)], mv := [(13, 4, 0), (13, 0, 0), (13, 3, 0), (9, 8, 0), (9, 0, 0), (9, 7, 0), (5, 1, 0), (5, 2, 1)], bl := [(1, [0, 5, 6]), (0, [2, 3, 4])], ll := [(0, [0, 5, 6])] } false Tryz.f15 = some qe0 := by kernel_rfl
theorem qBl : qe maps Tryz.prog { loc := [], org := [], mv := [(25, 1, 0), (25, 2, 0), (21, 2, 0), (19, 6, 1), (5, 8, 0), (3, 8, 1), (2, 13, 1), (1, 6, 1)], bl := [(1, [0]), (0, [0])], ll := [(0, [0])] } false Tryz.f16 = some jP := by kernel_rfl
theorem qA1 : qe maps Tryz.prog { loc := [1], org := [(1, 1), (7, 1), (12, 1), (19, 1), (26, 1), (32, 1), (39, 1), (45, 1), (52, 1), (58, 1), (64, 1), (70, 1), (78, 1), (84, 1), (93, 1), (104, 1), (110, 1), (119, 1), (129, 1), (139, 1), (145, 1)], mv := [], bl := [(1, [1, 3]), (0, [1]), (3, [1, 4]), (2, [1]), (5, [1, 5]), (4, [1]), (7, [1, 6]), (6, [])], ll := [(0, [1, 3]), (2, [1, 4]), (4, [1, 5]), (6, [1, 6])] } true Tryz.f17 = some qea := by kernel_rfl
theorem qBK : qe maps Tryz.prog { loc := [], org := [], mv := [(1, 1, 0), (1, 2, 1), (1, 0, 0), (1, 2, 0)], bl := [], ll := [] } false Tryz.f23 = some qhB := by kernel_rfl
theorem qBI : qe maps Tryz.prog { loc := [], org := [], mv := [(3, 4, 0), (3, 5, 0), (3, 0, 0), (3, 1, 0), (3, 1, 63), (3, 5, 63)], bl := [], ll := [] } true Tryz.f24 = some qjk := by kernel_rfl
theorem qB3 : qe maps Tryz.prog { loc := [4], org := [(4, 4)], mv := [(3, 2, 1), (3, 0, 0), (3, 1, 0)], bl := [(1, [0, 1, 4]), (0, [0, 4])], ll := [(0, [0, 1, 4])] } true Tryz.f25 = some qbH := by kernel_rfl
theorem qBf : qe maps Tryz.prog { loc := [], org := [], mv := [], bl := [(3, [0, 1]), (2, [0, 1]), (6, [0, 1, 6, 7]), (5, [0, 1, 6, 7]), (4, [0, 1]), (1, [0, 1]), (0, [4, 5])], ll := [(0, [0, 1]), (2, [0, 1]), (4, [0, 1, 6, 7])] } false Tryz.f26 = some qeH := by kernel_rfl
theorem qBR : qe maps Tryz.prog { loc := [4, 8], org := [(4, 4), (8, 8), (47, 8), (50, 8)], mv := [(24, 0, 0), (24, 1, 1), (15, 1, 0), (15, 2, 1), (15, 0, 0), (15, 2, 0), (13, 1, 0), (13, 2, 1), (13, 0, 0), (13, 2, 0), (12, 2, 0), (4, 9, 0), (2, 2, 0)], bl := [(2, [0, 1, 4, 7]), (1, [0, 1, 4, 7]), (0, [0, 1, 4, 6]), (3, [0, 1, 4, 6])], ll := [(1, [0, 1, 4, 7])] } false Tryz.f27 = some qcL := by kernel_rfl
theorem qBg : qe maps Tryz.prog { loc := [], org := [], mv := [(1, 0, 0), (1, 1, 0)], bl := [], ll := [] } false Tryz.f28 = some y9 := by kernel_rfl
theorem qBO : qe maps Tryz.prog { loc := [], org := [], mv := [(2, 0, 0), (2, 1, 0), (1, 1, 0), (1, 2, 2)], bl := [], ll := [] } true Tryz.f29 = some qao := by kernel_rfl
theorem qAZ : qe maps Tryz.prog { loc := [], org := [], mv := [(5, 0, 0), (5, 1, 0), (3, 0, 0), (3, 1, 0)], bl := [], ll := [] } true Tryz.f30 = some yJ := by kernel_rfl
theorem qBv : qe maps Tryz.prog { loc := [], org := [], mv := [(6, 7, 0), (6, 0, 0), (6, 6, 0)], bl := [(1, [0, 1, 5, 6]), (0, [5])], ll := [(0, [0, 1, 5, 6])] } true Tryz.f31 = some qcF := by kernel_rfl
theorem qBT : qe maps Tryz.prog { loc := [8], org := [(8, 8)], mv := [], bl := [(3, [0, 3, 4, 5, 6]), (2, [0, 3, 4, 5]), (1, [0, 3, 4, 5]), (0, [3])], ll := [(0, [0, 3, 4, 5]), (2, [0, 3, 4, 5, 6])] } true Tryz.f32 = some qe7 := by kernel_rfl
theorem qA8 : qe maps Tryz.prog { loc := [], org := [], mv := [], bl := [(0, [])], ll := [] } true Tryz.f33 = some qdM := by kernel_rfl
theorem qBt : qe maps Tryz.prog { loc := [], org := [], mv := [(2, 0, 0), (2, 1, 0), (1, 1, 0), (1, 2, 2)], bl := [], ll := [] } true Tryz.f35 = some yM := by kernel_rfl
theorem qAM : qe maps Tryz.prog { loc := [3], org := [(3, 3)], mv := [(7, 1, 0), (7, 2, 0), (5, 12, 1), (5, 5, 9), (5, 8, 0), (0, 2, 0)], bl := [(1, [0]), (0, [0])], ll := [(0, [0])] } false Tryz.f36 = some jL := by kernel_rfl
theorem qBG : qe maps Tryz.prog { loc := [6], org := [(6, 6)], mv := [(16, 15, 1), (7, 3, 1), (4, 6, 0), (4, 0, 0), (4, 5, 7), (16, 11, 7)], bl := [(3, [0, 2, 3]), (2, [0, 2, 3]), (5, [0, 2, 3, 6, 7]), (4, [0, 2]), (1, [0, 2]), (0, [])], ll := [(0, [0, 2]), (2, [0, 2, 3]), (4, [0, 2, 3, 6, 7])] } false Tryz.f39 = some yW := by kernel_rfl
theorem qBe : qe maps Tryz.prog { loc := [7], org := [(7, 7), (10, 7), (15, 7)], mv := [(1, 3, 1), (1, 0, 0), (1, 1, 0)], bl := [], ll := [] } true Tryz.f40 = some yV := by kernel_rfl
theorem qBJ : qe maps Tryz.prog { loc := [4], org := [(4, 4)], mv := [(4, 4, 0), (4, 0, 0), (4, 3, 0)], bl := [(1, [0, 3]), (0, [2])], ll := [(0, [0, 3])] } true Tryz.f42 = some yO := by kernel_rfl
theorem qBF : qe maps Tryz.prog { loc := [2], org := [(2, 2)], mv := [], bl := [], ll := [] } true Tryz.f43 = some qau := by kernel_rfl
theorem qBr : qe maps Tryz.prog { loc := [], org := [], mv := [], bl := [], ll := [] } true Tryz.f44 = some qfG := by kernel_rfl
theorem qAW : qe maps Tryz.prog { loc := [], org := [], mv := [], bl := [(1, [0, 3]), (0, [])], ll := [(0, [0, 3])] } true Tryz.f45 = some qbj := by kernel_rfl
theorem qA4 : qe maps Tryz.prog { loc := [], org := [], mv := [], bl := [(3, [0, 3, 4, 5]), (2, [0, 3, 4]), (1, [0, 3, 4]), (0, [3])], ll := [(0, [0, 3, 4]), (2, [0, 3, 4, 5])] } true Tryz.f46 = some qeF := by kernel_rfl
theorem qBU : qe maps Tryz.prog { loc := [], org := [], mv := [], bl := [(3, [0, 3, 4]), (2, [0, 3]), (1, [0, 3]), (0, [])], ll := [(0, [0, 3]), (2, [0, 3, 4])] } true Tryz.f47 = some qba := by kernel_rfl
theorem qB7 : qe maps Tryz.prog { loc := [], org := [], mv := [], bl := [(1, [0, 3]), (0, [])], ll := [(0, [0, 3])] } true Tryz.f48 = some qal := by kernel_rfl
theorem qAJ : qe maps Tryz.prog { loc := [9, 17, 19], org := [(9, 9), (17, 17), (106, 17), (114, 17), (19, 19), (117, 19)], mv := [(14, 1, 0), (14, 3, 1), (13, 5, 1), (11, 7, 1), (1, 2, 0)], bl := [(1, [0, 1, 4, 5, 6, 7, 9, 39]), (0, [0, 1, 4, 5, 6, 7, 9]), (3, [1, 9, 12]), (2, [1, 9, 12]), (7, [9, 12, 17, 100, 101, 102, 107, 108, 109]), (6, [9, 12, 100, 101, 102]), (5, [9, 12, 100, 101, 102]), (4, [9, 12])], ll := [(0, [0, 1, 4, 5, 6, 7, 9, 39]), (4, [9, 12, 100, 101, 102]), (6, [9, 12, 17, 100, 101, 102, 107, 108, 109])], rl := [(2, [1, 4, 5, 6, 7, 9, 12])], rz := [(2, 141)], fz := [(39, 6, 139)] } false Tryz.f54 = some qlh := by kernel_rfl
theorem qBP : qe maps Tryz.prog { loc := [], org := [], mv := [(3, 3, 0), (3, 2, 0), (3, 2, 6)], bl := [], ll := [] } true Tryz.f55 = some kY := by kernel_rfl
theorem qA3 : qe maps Tryz.prog { loc := [], org := [], mv := [(3, 3, 0), (3, 2, 0), (3, 2, 6)], bl := [], ll := [] } true Tryz.f56 = some jJ := by kernel_rfl
theorem qA7 : qe maps Tryz.prog { loc := [3], org := [(3, 3), (17, 3)], mv := [(4, 6, 1)], bl := [], ll := [] } true Tryz.f57 = some qaL := by kernel_rfl
theorem qBs : qe maps Tryz.prog { loc := [2], org := [(2, 2)], mv := [], bl := [], ll := [] } true Tryz.f58 = some qaa := by kernel_rfl
theorem qAY : qe maps Tryz.prog { loc := [], org := [], mv := [], bl := [], ll := [] } true Tryz.f59 = some qee := by kernel_rfl
theorem qB9 : qe maps Tryz.prog { loc := [], org := [], mv := [], bl := [], ll := [] } true Tryz.f60 = some qcJ := by kernel_rfl
theorem qBu : qe maps Tryz.prog { loc := [], org := [], mv := [], bl := [], ll := [] } true Tryz.f61 = some qdF := by kernel_rfl
theorem qBL : qe maps Tryz.prog { loc := [], org := [], mv := [(1, 1, 0)], bl := [(1, [0, 3, 4]), (0, [])], ll := [(0, [0, 3, 4])] } true Tryz.f62 = some qb3 := by kernel_rfl
theorem qBw : qe maps Tryz.prog { loc := [4, 11], org := [(4, 4), (11, 11), (67, 11), (71, 11), (76, 11), (93, 11)], mv := [(23, 3, 1), (13, 4, 1), (5, 5, 0)], bl := [(1, [0, 1, 4, 6, 7, 8, 9]), (0, [0, 1, 4, 6, 7, 8, 9])], ll := [(0, [0, 1, 4, 6, 7, 8, 9])] } false Tryz.f63 = some qcK := by kernel_rfl
theorem qA2 : qe maps Tryz.prog { loc := [], org := [], mv := [], bl := [(1, [0, 1, 5]), (0, [])], ll := [(0, [0, 1, 5])] } true Tryz.f65 = some qfq := by kernel_rfl
theorem qBZ : qe maps Tryz.prog { loc := [], org := [], mv := [], bl := [], ll := [] } false Tryz.f66 = some yQ := by kernel_rfl
theorem qB1 : qe maps Tryz.prog { loc := [], org := [], mv := [(1, 0, 0), (1, 1, 0)], bl := [], ll := [] } true Tryz.f67 = some jH := by kernel_rfl
theorem qBa : qe maps Tryz.prog { loc := [4], org := [(4, 4)], mv := [], bl := [(1, [0, 1, 4, 6]), (0, [4])], ll := [(0, [0, 1, 4, 6])] } false Tryz.f68 = some yU := by kernel_rfl
theorem qA5 : qe maps Tryz.prog { loc := [5, 6], org := [(5, 5), (6, 6)], mv := [(3, 0, 0), (3, 1, 0)], bl := [], ll := [] } false Tryz.f69 = some jN := by kernel_rfl
theorem qB2 : qe maps Tryz.prog { loc := [], org := [], mv := [(2, 4, 0), (2, 1, 0), (2, 2, 0), (1, 2, 0)], bl := [], ll := [] } false Tryz.f70 = some yR := by kernel_rfl
theorem qBo : qe maps Tryz.prog { loc := [2, 3, 4, 6, 8, 9], org := [(2, 2), (3, 3), (45, 3), (48, 3), (49, 3), (59, 3), (94, 3), (95, 3), (121, 3), (122, 3), (133, 3), (134, 3), (4, 4), (14, 4), (17, 4), (6, 6), (40, 6), (61, 6), (67, 6), (68, 6), (8, 8), (99, 8), (100, 8), (9, 9), (126, 9), (131, 9), (144, 9)], mv := [(32, 3, 1), (31, 2, 0), (30, 7, 1), (30, 0, 0), (30, 6, 0), (28, 3, 1), (27, 2, 0), (26, 8, 1), (26, 0, 0), (26, 7, 0), (21, 11, 1), (21, 10, 1), (20, 3, 1), (2, 3, 1), (1, 3, 1)], bl := [(0, [0, 2, 3, 5]), (1, [2, 3])], ll := [] } true Tryz.f71 = some yN := by kernel_rfl
theorem qA9 : qe maps Tryz.prog { loc := [], org := [], mv := [(1, 0, 0), (1, 1, 0)], bl := [], ll := [] } false Tryz.f72 = some qbv := by kernel_rfl
theorem qBj : qe maps Tryz.prog { loc := [1], org := [(1, 1), (3, 1), (7, 1), (8, 1), (13, 1), (14, 1)], mv := [], bl := [], ll := [] } true Tryz.f73 = some qgI := by kernel_rfl
theorem qAK : qe maps Tryz.prog { loc := [2, 3], org := [(2, 2), (3, 3), (10, 3), (14, 3), (15, 3), (20, 3), (25, 3), (34, 3)], mv := [(9, 2, 1), (9, 0, 0), (9, 1, 0), (8, 0, 0), (8, 1, 0), (6, 2, 0), (5, 6, 1), (5, 3, 0), (5, 4, 0), (2, 3, 1), (1, 2, 0)], bl := [(0, [0, 2])], ll := [] } true Tryz.f75 = some qaj := by kernel_rfl
theorem qAL : qe maps Tryz.prog { loc := [3], org := [(3, 3), (4, 3), (7, 3), (11, 3), (15, 3), (21, 3)], mv := [(4, 0, 0), (4, 1, 0)], bl := [(1, [0, 3]), (0, [0, 3])], ll := [(0, [0, 3])] } false Tryz.f76 = some y8 := by kernel_rfl
theorem qBQ : qe maps Tryz.prog { loc := [3], org := [(3, 3)], mv := [(3, 0, 0), (3, 1, 0)], bl := [], ll := [] } true Tryz.f77 = some yI := by kernel_rfl
theorem qBS : qe maps Tryz.prog { loc := [4, 5, 6], org := [(4, 4), (11, 4), (16, 4), (17, 4), (22, 4), (27, 4), (5, 5), (7, 5), (6, 6)], mv := [(2, 5, 1)], bl := [], ll := [] } true Tryz.f81 = some jQ := by kernel_rfl
theorem qBE : qe maps Tryz.prog { loc := [3, 4], org := [(3, 3), (7, 3), (31, 3), (4, 4), (21, 4), (25, 4), (29, 4)], mv := [(8, 3, 0)], bl := [(0, [])], ll := [] } true Tryz.f82 = some qe5 := by kernel_rfl
theorem qAN : qe maps Tryz.prog { loc := [2], org := [(2, 2)], mv := [(14, 2, 1), (14, 0, 0), (14, 1, 0), (13, 2, 0), (12, 2, 1), (12, 0, 0), (12, 1, 0), (11, 2, 0), (10, 2, 1), (10, 0, 0), (10, 1, 0), (9, 2, 0), (8, 0, 0), (8, 1, 0), (6, 2, 0), (5, 2, 0), (4, 2, 1), (4, 0, 0), (4, 1, 0), (3, 2, 0), (2, 2, 1), (2, 0, 0), (2, 1, 0), (1, 2, 0)], bl := [(0, [2])], ll := [] } false Tryz.f83 = some yY := by kernel_rfl
theorem qBn : qe maps Tryz.prog { loc := [2], org := [(2, 2), (9, 2), (15, 2), (22, 2), (28, 2)], mv := [], bl := [(1, [1, 2, 5]), (0, [])], ll := [(0, [1, 2, 5])] } true Tryz.f84 = some qaT := by kernel_rfl
theorem qBm : qe maps Tryz.prog { loc := [1], org := [(1, 1), (6, 1), (13, 1)], mv := [], bl := [(1, [1, 3, 4]), (0, [3])], ll := [(0, [1, 3, 4])] } true Tryz.f85 = some qek := by kernel_rfl
theorem qBd : qe maps Tryz.prog { loc := [1], org := [(1, 1), (4, 1), (9, 1), (16, 1), (22, 1), (28, 1)], mv := [], bl := [(1, [1, 3]), (0, [])], ll := [(0, [1, 3])] } true Tryz.f86 = some qbz := by kernel_rfl
theorem qAO : qe maps Tryz.prog { loc := [2], org := [(2, 2)], mv := [(1, 1, 0), (1, 3, 1)], bl := [], ll := [] } false Tryz.f89 = some qdA := by kernel_rfl
theorem qAU : qe maps Tryz.prog { loc := [6, 8], org := [(6, 6), (8, 8)], mv := [], bl := [(1, [0, 3, 4, 11, 12, 13]), (0, [0, 3, 4]), (3, [0, 3, 4, 21, 22, 23]), (2, [])], ll := [(0, [0, 3, 4, 11, 12, 13]), (2, [0, 3, 4, 21, 22, 23])] } true Tryz.f95 = some qkp := by kernel_rfl
theorem qBq : qe maps Tryz.prog { loc := [8], org := [(8, 8), (33, 8)], mv := [], bl := [(3, [2, 3, 4, 11, 12, 13]), (2, [2, 3, 4, 11, 12, 13]), (1, [2, 3, 4, 11, 12, 13]), (0, [3])], ll := [(0, [2, 3, 4, 11, 12, 13])], rl := [(2, [2, 3, 4, 6, 11, 12, 13])], rk := [(2, 203)] } true Tryz.f96 = some qk9 := by kernel_rfl
theorem qBX : qe maps Tryz.prog { loc := [], org := [], mv := [(1, 9, 1), (1, 6, 7)], bl := [], ll := [] } true Tryz.f97 = some qe6 := by kernel_rfl
theorem qB4 : qe maps Tryz.prog { loc := [2], org := [(2, 2)], mv := [(1, 12, 0), (1, 13, 0)], bl := [], ll := [] } true Tryz.f98 = some qeK := by kernel_rfl
theorem qBh : qe maps Tryz.prog { loc := [10, 12, 14, 16, 18], org := [(10, 10), (25, 10), (36, 10), (12, 12), (39, 12), (14, 14), (55, 14), (66, 14), (81, 14), (92, 14), (103, 14), (16, 16), (69, 16), (76, 16), (18, 18), (95, 18), (106, 18)], mv := [], bl := [(3, [0, 1, 2, 8, 10, 19, 20, 21, 26, 27, 28]), (2, [0, 1, 2, 8, 19, 20, 21]), (1, [0, 1, 2, 8, 19, 20, 21]), (0, [0, 1, 2, 8]), (7, [0, 1, 8, 14, 49, 50, 51, 56, 57, 58]), (6, [0, 1, 8, 14, 49, 50, 51]), (9, [0, 1, 8, 14, 49, 50, 51, 82, 83, 84]), (8, [0, 1, 8, 49, 50, 51]), (5, [0, 1, 8, 49, 50, 51]), (4, [1, 8])], ll := [(0, [0, 1, 2, 8, 19, 20, 21]), (2, [0, 1, 2, 8, 10, 19, 20, 21, 26, 27, 28]), (4, [0, 1, 8, 49, 50, 51]), (6, [0, 1, 8, 14, 49, 50, 51, 56, 57, 58]), (8, [0, 1, 8, 14, 49, 50, 51, 82, 83, 84])] } false Tryz.f99 = some qd5 := by kernel_rfl
theorem qxz : qe maps Tryz.prog { loc := [], org := [], mv := [(2, 0, 0), (2, 2, 0), (1, 1, 0), (1, 2, 1), (0, 1, 0), (0, 2, 1)], bl := [], ll := [] } false Tryz.f100 = some qeW := by kernel_rfl
theorem qyK : qe maps Tryz.prog { loc := [], org := [], mv := [(1, 8, 1)], bl := [(1, [3, 17]), (0, [3])], ll := [(0, [3, 17])] } true Tryz.f101 = some qd0 := by kernel_rfl
theorem qyV : qe maps Tryz.prog { loc := [6], org := [(6, 6), (20, 6)], mv := [(8, 0, 0), (8, 2, 0), (7, 1, 0), (7, 2, 1), (0, 2, 0)], bl := [(1, [0, 4, 13, 14, 15]), (0, [0, 4])], ll := [(0, [0, 4, 13, 14, 15])] } false Tryz.f102 = some qfX := by kernel_rfl
theorem qx5 : qe maps Tryz.prog { loc := [], org := [], mv := [], bl := [(1, [0, 3]), (0, [])], ll := [(0, [0, 3])] } false Tryz.f103 = some qe4 := by kernel_rfl
theorem qx4 : qe maps Tryz.prog { loc := [], org := [], mv := [(6, 0, 0), (6, 1, 0)], bl := [], ll := [] } false Tryz.f104 = some qcH := by kernel_rfl
theorem qxH : qe maps Tryz.prog { loc := [], org := [], mv := [(3, 22, 1)], bl := [(1, [0, 7, 8, 9]), (0, [])], ll := [(0, [0, 7, 8, 9])] } false Tryz.f106 = some qgL := by kernel_rfl
theorem qyc : qe maps Tryz.prog { loc := [], org := [], mv := [(3, 3, 0), (3, 2, 0), (3, 2, 6)], bl := [], ll := [] } true Tryz.f107 = some jm := by kernel_rfl
theorem qxv : qe maps Tryz.prog { loc := [3], org := [(3, 3), (47, 3), (51, 3), (56, 3), (60, 3), (64, 3), (69, 3)], mv := [(6, 0, 0), (6, 2, 0), (10, 0, 0), (10, 2, 0), (8, 0, 0), (8, 3, 0)], bl := [(0, [2])], ll := [] } true Tryz.f108 = some qbJ := by kernel_rfl
theorem qyy : qe maps Tryz.prog { loc := [], org := [], mv := [(1, 1, 0)], bl := [], ll := [] } true Tryz.f109 = some qbG := by kernel_rfl
theorem qx6 : qe maps Tryz.prog { loc := [], org := [], mv := [(2, 3, 0), (1, 2, 0)], bl := [(0, [])], ll := [] } true Tryz.f110 = some qf0 := by kernel_rfl
theorem qxM : qe maps Tryz.prog { loc := [2, 5, 7], org := [(2, 2), (5, 5), (18, 5), (19, 5), (25, 5), (26, 5), (31, 5), (52, 5), (53, 5), (63, 5), (64, 5), (72, 5), (73, 5), (82, 5), (7, 7), (55, 7), (56, 7)], mv := [(21, 9, 1), (19, 3, 1), (15, 2, 0), (13, 2, 0), (11, 2, 0), (9, 7, 1), (4, 3, 1), (3, 2, 0), (1, 2, 0)], bl := [(2, [0, 2, 5, 6]), (1, [0, 2, 5]), (0, [2])], ll := [(0, [0, 2, 5])] } true Tryz.f111 = some jR := by kernel_rfl
theorem qyW : qe maps Tryz.prog { loc := [4, 5], org := [(4, 4), (7, 4), (14, 4), (5, 5), (16, 5), (21, 5), (25, 5), (31, 5), (35, 5)], mv := [(10, 15, 0)], bl := [(0, [])], ll := [] } true Tryz.f112 = some yG := by kernel_rfl
theorem qxQ : qe maps Tryz.prog { loc := [3, 4, 5], org := [(3, 3), (4, 4), (5, 5)], mv := [(5, 1, 0), (5, 2, 1), (5, 0, 0), (5, 2, 0)], bl := [], ll := [] } true Tryz.f113 = some yZ := by kernel_rfl
theorem qzH : qe maps Tryz.prog { loc := [2], org := [(2, 2)], mv := [(1, 2, 1), (1, 0, 0), (1, 1, 0)], bl := [], ll := [] } true Tryz.f114 = some qd8 := by kernel_rfl
theorem qyg : qe maps Tryz.prog { loc := [2, 4], org := [(2, 2), (4, 4), (23, 4), (35, 4), (40, 4)], mv := [(16, 0, 0), (16, 1, 0), (14, 5, 1), (14, 1, 0), (14, 4, 1), (11, 4, 1), (10, 1, 1), (8, 1, 1), (6, 1, 1), (4, 1, 1), (1, 2, 0)], bl := [(0, [0, 2, 3])], ll := [] } true Tryz.f115 = some yL := by kernel_rfl
theorem qxD : qe maps Tryz.prog { loc := [4], org := [(4, 4)], mv := [(1, 0, 0), (1, 1, 0)], bl := [], ll := [] } true Tryz.f121 = some qfK := by kernel_rfl
theorem qyz : qe maps Tryz.prog { loc := [2, 3], org := [(2, 2), (6, 2), (11, 2), (15, 2), (21, 2), (30, 2), (36, 2), (51, 2), (3, 3), (8, 3), (17, 3), (24, 3), (41, 3), (53, 3)], mv := [], bl := [(2, [2, 3, 5]), (1, []), (0, [])], ll := [(1, [2, 3, 5])] } true Tryz.f122 = some qeS := by kernel_rfl
theorem qxA : qe maps Tryz.prog { loc := [2], org := [(2, 2)], mv := [(1, 2, 1), (1, 0, 0), (1, 1, 0)], bl := [], ll := [] } true Tryz.f125 = some y6 := by kernel_rfl
theorem qzx : qe maps Tryz.prog { loc := [2, 4, 6, 7], org := [(2, 2), (4, 4), (23, 4), (29, 4), (101, 4), (102, 4), (103, 4), (108, 4), (6, 6), (55, 6), (56, 6), (61, 6), (62, 6), (72, 6), (73, 6), (80, 6), (84, 6), (7, 7), (45, 7), (49, 7), (50, 7), (69, 7), (86, 7)], mv := [(21, 3, 1), (21, 1, 0), (21, 2, 1), (21, 0, 0), (21, 2, 0), (20, 3, 0), (20, 4, 2), (20, 0, 0), (20, 4, 0), (15, 5, 1), (14, 0, 0), (14, 17, 0), (12, 3, 1), (9, 7, 1), (4, 3, 1), (4, 1, 0), (4, 2, 1), (4, 0, 0), (4, 2, 0)], bl := [(0, [0, 2, 5])], ll := [] } true Tryz.f128 = some jb := by kernel_rfl
theorem qyl : qe maps Tryz.prog { loc := [3], org := [(3, 3), (21, 3), (26, 3), (39, 3), (45, 3), (52, 3), (63, 3), (66, 3), (99, 3)], mv := [(5, 5, 0), (5, 6, 2), (5, 4, 0), (5, 6, 1)], bl := [(2, [1, 2, 3, 12, 14, 15]), (1, [2, 3, 14]), (0, [])], ll := [(1, [1, 2, 3, 12, 14, 15])] } false Tryz.f129 = some qdt := by kernel_rfl
theorem qz4 : qe maps Tryz.prog { loc := [1, 7], org := [(1, 1), (10, 1), (26, 1), (7, 7), (17, 7), (22, 7)], mv := [(10, 2, 0), (10, 3, 1)], bl := [(1, [1, 3, 4, 5, 11, 12, 13]), (0, [1, 3, 5])], ll := [(0, [1, 3, 4, 5, 11, 12, 13])] } true Tryz.f134 = some qlk := by kernel_rfl
theorem qzy : qe maps Tryz.prog { loc := [2, 9], org := [(2, 2), (18, 2), (9, 9), (26, 9)], mv := [(1, 6, 0)], bl := [(1, [6, 7, 19, 20, 21]), (0, [7])], ll := [(0, [6, 7, 19, 20, 21])] } false Tryz.f135 = some qlf := by kernel_rfl
theorem qzX : qe maps Tryz.prog { loc := [1, 5], org := [(1, 1), (6, 1), (9, 1), (13, 1), (5, 5), (21, 5)], mv := [], bl := [(1, [1, 3, 14, 15, 16]), (0, [1, 3])], ll := [(0, [1, 3, 14, 15, 16])] } true Tryz.f136 = some qkn := by kernel_rfl
theorem qzL : qe maps Tryz.prog { loc := [], org := [], mv := [], bl := [], ll := [] } true Tryz.f137 = some kU := by kernel_rfl
theorem qzG : qe maps Tryz.prog { loc := [3], org := [(3, 3), (7, 3), (11, 3), (14, 3), (27, 3), (47, 3)], mv := [(3, 2, 0), (3, 7, 0)], bl := [(0, [])], ll := [] } true Tryz.f138 = some qeY := by kernel_rfl
theorem qyB : qe maps Tryz.prog { loc := [], org := [], mv := [(0, 1, 0), (0, 2, 2), (0, 0, 0), (0, 2, 0)], bl := [], ll := [] } false Tryz.f139 = some qft := by kernel_rfl
theorem qzP : qe maps Tryz.prog { loc := [], org := [], mv := [(3, 1, 0), (3, 2, 1)], bl := [(1, [0, 6, 7, 8]), (0, [])], ll := [(0, [0, 6, 7, 8])] } false Tryz.f140 = some qgE := by kernel_rfl
theorem qzu : qe maps Tryz.prog { loc := [], org := [], mv := [], bl := [(1, [0, 5, 6, 7]), (0, [])], ll := [(0, [0, 5, 6, 7])] } false Tryz.f141 = some qca := by kernel_rfl
theorem qye : qe maps Tryz.prog { loc := [], org := [], mv := [], bl := [], ll := [] } true Tryz.f142 = some qeM := by kernel_rfl
theorem qyv : qe maps Tryz.prog { loc := [5], org := [(5, 5)], mv := [], bl := [(1, [0, 7, 8, 9]), (0, [])], ll := [(0, [0, 7, 8, 9])] } false Tryz.f143 = some qfw := by kernel_rfl
theorem qyY : qe maps Tryz.prog { loc := [], org := [], mv := [(0, 12, 1)], bl := [], ll := [] } false Tryz.f144 = some qdY := by kernel_rfl
theorem qzD : qe maps Tryz.prog { loc := [], org := [], mv := [], bl := [], ll := [] } false Tryz.f145 = some qfH := by kernel_rfl
theorem qzd : qe maps Tryz.prog { loc := [], org := [], mv := [(0, 12, 1), (0, 9, 7)], bl := [], ll := [] } false Tryz.f146 = some qf1 := by kernel_rfl
theorem qyw : qe maps Tryz.prog { loc := [], org := [], mv := [(10, 0, 0), (10, 1, 0)], bl := [], ll := [] } false Tryz.f147 = some qb1 := by kernel_rfl
theorem qx3 : qe maps Tryz.prog { loc := [], org := [], mv := [(24, 0, 0), (24, 1, 0), (22, 1, 0), (22, 2, 1), (21, 1, 0), (21, 2, 2), (16, 1, 0), (16, 2, 1), (7, 2, 0), (1, 5, 0), (1, 4, 0)], bl := [], ll := [] } false Tryz.f148 = some qcE := by kernel_rfl
theorem qxY : qe maps Tryz.prog { loc := [], org := [], mv := [(20, 0, 0), (20, 1, 0)], bl := [], ll := [] } false Tryz.f149 = some qdG := by kernel_rfl
theorem qxW : qe maps Tryz.prog { loc := [], org := [], mv := [(13, 0, 0), (13, 1, 0), (11, 1, 0), (11, 2, 1), (1, 2, 0)], bl := [], ll := [] } false Tryz.f150 = some qdw := by kernel_rfl
theorem qyH : qe maps Tryz.prog { loc := [], org := [], mv := [(22, 0, 0), (22, 1, 0), (20, 1, 0), (20, 2, 1), (5, 1, 0), (5, 2, 1), (1, 2, 0)], bl := [(1, [0, 2, 13]), (0, [0, 2])], ll := [(0, [0, 2, 13])] } false Tryz.f151 = some qb2 := by kernel_rfl
theorem qAG : qe maps Tryz.prog { loc := [], org := [], mv := [(42, 0, 0), (42, 1, 0), (41, 1, 0), (41, 2, 1), (40, 1, 0), (40, 2, 2), (32, 1, 0), (32, 2, 2), (1, 8, 0), (1, 7, 0), (1, 6, 0)], bl := [], ll := [] } false Tryz.f152 = some qcb := by kernel_rfl
theorem qxN : qe maps Tryz.prog { loc := [], org := [], mv := [(15, 0, 0), (15, 1, 0), (14, 1, 0), (14, 2, 1), (12, 1, 0), (12, 2, 1), (11, 1, 0), (11, 2, 2), (2, 2, 0), (1, 5, 0), (1, 4, 0)], bl := [], ll := [] } false Tryz.f153 = some qcN := by kernel_rfl
theorem qy3 : qe maps Tryz.prog { loc := [], org := [], mv := [], bl := [], ll := [] } false Tryz.f154 = some qeJ := by kernel_rfl
theorem qAx : qe maps Tryz.prog { loc := [], org := [], mv := [(1, 0, 0), (1, 2, 0)], bl := [], ll := [] } false Tryz.f156 = some qfz := by kernel_rfl
theorem qzM : qe maps Tryz.prog { loc := [3], org := [(3, 3), (4, 3), (33, 3), (50, 3), (68, 3), (84, 3), (94, 3), (7, 3), (12, 3), (17, 3)], mv := [(6, 0, 0), (6, 2, 0), (5, 0, 0), (5, 2, 0), (35, 0, 0), (35, 2, 0), (33, 0, 0), (33, 2, 0), (31, 0, 0), (31, 2, 0), (28, 0, 0), (28, 2, 0), (22, 0, 0), (22, 1, 0), (14, 0, 0), (14, 2, 0), (8, 0, 0), (8, 3, 0)], bl := [(0, [])], ll := [] } false Tryz.f157 = some qe2 := by kernel_rfl
theorem qz8 : qe maps Tryz.prog { loc := [2], org := [(2, 2)], mv := [], bl := [], ll := [] } false Tryz.f158 = some qaq := by kernel_rfl
theorem qyF : qe maps Tryz.prog { loc := [], org := [], mv := [], bl := [], ll := [] } false Tryz.f159 = some qiy := by kernel_rfl
theorem qAp : qe maps Tryz.prog { loc := [1], org := [(1, 1), (3, 1), (7, 1), (12, 1), (16, 1)], mv := [(1, 12, 0)], bl := [], ll := [] } true Tryz.f160 = some qkf := by kernel_rfl
theorem qya : qe maps Tryz.prog { loc := [], org := [], mv := [(10, 1, 0), (10, 2, 1), (10, 0, 0), (10, 2, 0), (9, 0, 0), (9, 1, 0), (8, 2, 0), (8, 3, 2), (8, 1, 0), (8, 3, 1), (8, 0, 0), (8, 3, 0), (16, 0, 0), (16, 4, 0), (14, 0, 0), (14, 4, 0), (12, 0, 0), (12, 4, 0), (6, 2, 0), (5, 0, 0), (5, 3, 0), (3, 0, 0), (3, 3, 0), (3, 1, 0), (3, 2, 1), (0, 2, 0)], bl := [(0, [0, 1, 4]), (1, [])], ll := [] } false Tryz.f161 = some y4 := by kernel_rfl
theorem qzU : qe maps Tryz.prog { loc := [3, 5], org := [(3, 3), (6, 3), (9, 3), (5, 5), (184, 5), (186, 5)], mv := [(17, 18, 1), (1, 3, 0), (17, 15, 7), (26, 11, 7)], bl := [(0, [])], ll := [] } false Tryz.f162 = some qa2 := by kernel_rfl
theorem qyG : qe maps Tryz.prog { loc := [3], org := [(3, 3), (12, 3), (17, 3), (54, 3), (88, 3)], mv := [(36, 12, 1), (36, 6, 0), (32, 1, 0), (32, 2, 1), (32, 0, 0), (32, 2, 0), (30, 7, 0), (25, 5, 0), (24, 5, 0), (23, 3, 0), (21, 6, 0), (20, 2, 0), (18, 7, 0), (14, 1, 0), (14, 2, 1), (14, 0, 0), (14, 2, 0), (13, 1, 0), (13, 2, 1), (12, 2, 0), (11, 2, 0), (9, 0, 0), (9, 1, 0), (7, 1, 0), (7, 2, 1), (7, 0, 0), (7, 2, 0), (5, 2, 0), (3, 0, 0), (3, 3, 0), (36, 9, 7)], bl := [(0, [])], ll := [], ck := [(18, 7, 4), (18, 8, 4), (21, 6, 3), (21, 7, 3), (36, 6, 4)] } false Tryz.f163 = some qak := by kernel_rfl
theorem qzg : qe maps Tryz.prog { loc := [2, 3, 7], org := [(2, 2), (3, 3), (10, 3), (11, 3), (55, 3), (7, 7), (46, 7), (47, 7)], mv := [(18, 9, 1), (16, 3, 1), (12, 2, 0), (10, 2, 0), (8, 2, 0), (6, 2, 0), (5, 3, 0), (4, 2, 0), (1, 3, 1)], bl := [(2, [0, 2, 3, 4, 5, 6]), (1, [0, 2, 3]), (0, [2])], ll := [(0, [0, 2, 3])] } true Tryz.f164 = some yP := by kernel_rfl
theorem qyR : qe maps Tryz.prog { loc := [], org := [], mv := [], bl := [], ll := [] } true Tryz.f165 = some qcG := by kernel_rfl
theorem qyA : qe maps Tryz.prog { loc := [1, 2], org := [(1, 1), (18, 1), (19, 1), (2, 2)], mv := [(6, 5, 1), (6, 3, 0), (6, 4, 1)], bl := [], ll := [] } false Tryz.f166 = some qeG := by kernel_rfl
theorem qxU : qe maps Tryz.prog { loc := [2], org := [(2, 2)], mv := [], bl := [], ll := [] } true Tryz.f167 = some qdN := by kernel_rfl
theorem qAw : qe maps Tryz.prog { loc := [4, 5], org := [(4, 4), (5, 5)], mv := [], bl := [], ll := [] } true Tryz.f168 = some j6 := by kernel_rfl
theorem qxy : qe maps Tryz.prog { loc := [6, 7], org := [(6, 6), (7, 7), (21, 7), (27, 7), (36, 7), (43, 7), (51, 7), (57, 7), (66, 7), (73, 7), (81, 7), (87, 7), (96, 7), (110, 7), (116, 7), (125, 7), (132, 7), (140, 7), (146, 7), (155, 7), (162, 7)], mv := [(1, 0, 0), (1, 2, 0)], bl := [(1, [1, 2, 6, 7, 9]), (0, [1, 2, 6, 7]), (3, [1, 2, 6, 7, 10]), (2, [1, 2, 6, 7]), (5, [1, 2, 6, 7, 11]), (4, [2, 6, 7]), (7, [2, 6, 7, 12]), (6, [2, 6, 7]), (9, [2, 6, 7, 13]), (8, [6])], ll := [(0, [1, 2, 6, 7, 9]), (2, [1, 2, 6, 7, 10]), (4, [1, 2, 6, 7, 11]), (6, [2, 6, 7, 12]), (8, [2, 6, 7, 13])] } true Tryz.f169 = some yH := by kernel_rfl
theorem qyS : qe maps Tryz.prog { loc := [4, 5], org := [(4, 4), (5, 5), (13, 5), (14, 5)], mv := [(2, 0, 0), (2, 6, 0), (1, 7, 1)], bl := [], ll := [] } true Tryz.f171 = some qaU := by kernel_rfl
theorem qyt : qe maps Tryz.prog { loc := [2, 5], org := [(2, 2), (5, 5), (12, 5), (29, 5), (33, 5)], mv := [(6, 8, 1), (6, 0, 0), (6, 3, 0), (5, 2, 0), (2, 4, 1), (1, 2, 0)], bl := [], ll := [] } false Tryz.f172 = some yS := by kernel_rfl
theorem qxP : qe maps Tryz.prog { loc := [3], org := [(3, 3), (6, 3), (11, 3), (17, 3), (22, 3), (36, 3), (41, 3)], mv := [(11, 6, 0), (11, 0, 0), (11, 5, 0)], bl := [(2, [0, 3, 5]), (1, []), (0, [3])], ll := [(1, [0, 3, 5])] } true Tryz.f173 = some ja := by kernel_rfl
theorem qzi : qe maps Tryz.prog { loc := [2, 3], org := [(2, 2), (3, 3), (7, 3), (8, 3)], mv := [(2, 0, 0), (2, 5, 0), (1, 3, 1)], bl := [], ll := [] } true Tryz.f174 = some jO := by kernel_rfl
theorem qyo : qe maps Tryz.prog { loc := [4, 5, 6], org := [(4, 4), (5, 5), (16, 5), (19, 5), (24, 5), (27, 5), (35, 5), (38, 5), (49, 5), (55, 5), (56, 5), (62, 5), (63, 5), (6, 6)], mv := [(25, 0, 0), (25, 1, 0), (24, 6, 1), (22, 6, 1), (20, 5, 1), (18, 3, 1), (12, 5, 1), (10, 5, 1), (10, 3, 7)], bl := [(0, [0, 4, 5])], ll := [], fz := [(26, 0, 5)] } true Tryz.f176 = some jz := by kernel_rfl
theorem qxG : qe maps Tryz.prog { loc := [3, 4, 5], org := [(3, 3), (15, 3), (16, 3), (22, 3), (23, 3), (51, 3), (52, 3), (59, 3), (60, 3), (79, 3), (80, 3), (4, 4), (5, 5), (73, 5), (77, 5), (93, 5), (96, 5)], mv := [(17, 3, 1), (15, 2, 1), (13, 2, 0), (11, 3, 1), (9, 3, 1), (8, 2, 0), (7, 5, 1), (5, 2, 1), (3, 2, 0)], bl := [(4, [0, 3, 4]), (3, [0, 3, 4]), (2, [0, 3, 4]), (1, [0, 3, 4]), (0, [3, 4])], ll := [(0, [0, 3, 4]), (3, [0, 3, 4])] } true Tryz.f177 = some jl := by kernel_rfl
theorem qzn : qe maps Tryz.prog { loc := [4, 5, 7], org := [(4, 4), (5, 5), (15, 5), (79, 5), (80, 5), (86, 5), (87, 5), (93, 5), (94, 5), (72, 5), (73, 5), (7, 7), (41, 7), (45, 7), (46, 7), (54, 7), (55, 7), (60, 7), (61, 7)], mv := [(21, 0, 0), (21, 1, 0), (14, 5, 1), (13, 13, 0), (12, 3, 1), (20, 6, 1), (18, 6, 1), (16, 6, 1), (4, 0, 0), (4, 1, 0)], bl := [(0, [0, 4, 5])], ll := [] } true Tryz.f179 = some jM := by kernel_rfl
theorem qzS : qe maps Tryz.prog { loc := [1], org := [(1, 1), (3, 1), (10, 1), (14, 1), (19, 1), (26, 1), (30, 1), (35, 1), (40, 1), (46, 1), (55, 1), (59, 1), (64, 1)], mv := [], bl := [(0, [])], ll := [] } true Tryz.f180 = some qdx := by kernel_rfl
theorem qyT : qe maps Tryz.prog { loc := [4], org := [(4, 4)], mv := [], bl := [(1, [1, 5, 6, 7]), (0, [])], ll := [(0, [1, 5, 6, 7])] } false Tryz.f192 = some qjx := by kernel_rfl
theorem qzt : qe maps Tryz.prog { loc := [1, 5], org := [(1, 1), (6, 1), (5, 5)], mv := [], bl := [(1, [3, 7, 8, 9]), (0, [3])], ll := [(0, [3, 7, 8, 9])] } true Tryz.f193 = some qlq := by kernel_rfl
theorem qzZ : qe maps Tryz.prog { loc := [2], org := [(2, 2), (4, 2)], mv := [], bl := [], ll := [] } false Tryz.f194 = some qjz := by kernel_rfl
theorem qAt : qe maps Tryz.prog { loc := [7, 9], org := [(7, 7), (21, 7), (32, 7), (9, 9)], mv := [(12, 0, 0), (12, 3, 0)], bl := [(3, [1, 2, 7, 12, 13, 14, 22, 23, 24]), (2, [1, 2, 7, 12, 13, 14]), (5, [1, 2, 12, 13, 14, 33, 34, 35]), (4, [1, 2, 12, 13, 14]), (1, [1, 2, 12, 13, 14]), (0, [])], ll := [(0, [1, 2, 12, 13, 14]), (2, [1, 2, 7, 12, 13, 14, 22, 23, 24]), (4, [1, 2, 12, 13, 14, 33, 34, 35])] } false Tryz.f195 = some qla := by kernel_rfl
theorem qz0 : qe maps Tryz.prog { loc := [1], org := [(1, 1)], mv := [], bl := [], ll := [] } false Tryz.f197 = some qjs := by kernel_rfl
theorem qzj : qe maps Tryz.prog { loc := [], org := [], mv := [(13, 3, 0), (13, 0, 0), (9, 2, 0), (9, 0, 0), (9, 1, 1), (13, 2, 7)], bl := [(1, [0, 3, 9, 10, 11]), (0, [0, 3]), (3, [6, 25, 26, 27]), (2, [6])], ll := [(0, [0, 3, 9, 10, 11]), (2, [6, 25, 26, 27])], fz := [(15, 0, 6)] } true Tryz.f198 = some kw := by kernel_rfl
theorem qy7 : qe maps Tryz.prog { loc := [2], org := [(2, 2)], mv := [(2, 3, 0), (2, 0, 0), (2, 2, 0)], bl := [], ll := [] } false Tryz.f199 = some qjh := by kernel_rfl
theorem qzw : qe maps Tryz.prog { loc := [3, 7, 9, 11], org := [(3, 3), (12, 3), (24, 3), (48, 3), (7, 7), (19, 7), (9, 9), (31, 9), (36, 9), (11, 11)], mv := [(16, 3, 0), (16, 4, 2), (16, 2, 0), (16, 4, 1)], bl := [(1, [1, 2, 3, 13, 14, 15]), (0, [1, 2, 3]), (5, [1, 2, 3, 25, 26, 27, 37, 38, 39]), (4, [1, 2, 3, 25, 26, 27]), (3, [1, 2, 3, 25, 26, 27]), (2, [1, 2, 3])], ll := [(0, [1, 2, 3, 13, 14, 15]), (2, [1, 2, 3, 25, 26, 27]), (4, [1, 2, 3, 25, 26, 27, 37, 38, 39])] } false Tryz.f200 = some qeU := by kernel_rfl
theorem qzk : qe maps Tryz.prog { loc := [2], org := [(2, 2), (4, 2)], mv := [], bl := [], ll := [] } false Tryz.f201 = some qh7 := by kernel_rfl
theorem qzW : qe maps Tryz.prog { loc := [2], org := [(2, 2), (4, 2)], mv := [], bl := [], ll := [] } false Tryz.f202 = some qip := by kernel_rfl
theorem qyj : qe maps Tryz.prog { loc := [], org := [], mv := [], bl := [(1, [0, 1, 3]), (0, [])], ll := [(0, [0, 1, 3])] } false Tryz.f203 = some kO := by kernel_rfl
theorem qxO : qe maps Tryz.prog { loc := [3], org := [(3, 3), (6, 3), (14, 3), (18, 3), (26, 3), (51, 3), (57, 3)], mv := [(2, 0, 0), (2, 2, 0), (25, 0, 0), (25, 2, 0), (20, 0, 0), (20, 2, 0), (18, 0, 0), (18, 2, 0), (16, 1, 0), (16, 2, 2), (16, 0, 0), (16, 2, 0), (13, 2, 0), (11, 2, 0), (11, 3, 2), (11, 0, 0), (11, 3, 0), (10, 2, 0), (8, 3, 0), (6, 0, 0), (6, 5, 0), (4, 0, 0), (4, 9, 0)], bl := [(0, [])], ll := [] } false Tryz.f204 = some qf2 := by kernel_rfl
theorem qyb : qe maps Tryz.prog { loc := [], org := [], mv := [(5, 1, 0), (5, 2, 1), (0, 1, 0), (0, 2, 1)], bl := [(1, [0, 16, 17]), (0, [])], ll := [(0, [0, 16, 17])] } false Tryz.f205 = some qeB := by kernel_rfl
theorem qzV : qe maps Tryz.prog { loc := [], org := [], mv := [(1, 0, 0), (1, 2, 0)], bl := [], ll := [] } false Tryz.f206 = some qfJ := by kernel_rfl
theorem qzY : qe maps Tryz.prog { loc := [], org := [], mv := [(0, 0, 0), (0, 2, 0)], bl := [], ll := [] } false Tryz.f207 = some qe8 := by kernel_rfl
theorem qxx : qe maps Tryz.prog { loc := [], org := [], mv := [(1, 1, 0), (1, 4, 1), (1, 0, 0), (1, 4, 0), (0, 14, 1), (0, 11, 7)], bl := [], ll := [] } false Tryz.f208 = some qfL := by kernel_rfl
theorem qze : qe maps Tryz.prog { loc := [], org := [], mv := [(2, 0, 0), (2, 2, 0), (1, 2, 0)], bl := [], ll := [] } true Tryz.f209 = some qfs := by kernel_rfl
theorem qzI : qe maps Tryz.prog { loc := [], org := [], mv := [(2, 0, 0), (2, 2, 0)], bl := [], ll := [] } false Tryz.f210 = some qgQ := by kernel_rfl
theorem qyp : qe maps Tryz.prog { loc := [], org := [], mv := [(3, 0, 0), (3, 2, 0)], bl := [], ll := [] } false Tryz.f211 = some qeT := by kernel_rfl
theorem qy0 : qe maps Tryz.prog { loc := [], org := [], mv := [(6, 0, 0), (6, 1, 0), (0, 0, 7)], bl := [(1, [0, 5, 6, 7]), (0, [0])], ll := [(0, [0, 5, 6, 7])] } false Tryz.f212 = some qeQ := by kernel_rfl
theorem qzp : qe maps Tryz.prog { loc := [], org := [], mv := [(2, 1, 0), (2, 2, 1), (2, 0, 0), (2, 2, 0), (1, 1, 0), (1, 2, 1)], bl := [], ll := [] } false Tryz.f213 = some qfA := by kernel_rfl
theorem qxZ : qe maps Tryz.prog { loc := [3], org := [(3, 3), (4, 3), (9, 3), (20, 3), (27, 3), (33, 3), (40, 3)], mv := [(13, 0, 0), (13, 1, 0), (8, 10, 0), (5, 0, 0), (5, 2, 0), (3, 0, 0), (3, 3, 0)], bl := [(0, [])], ll := [] } false Tryz.f214 = some qeC := by kernel_rfl
theorem qAD : qe maps Tryz.prog { loc := [4], org := [(4, 4)], mv := [(7, 1, 0), (7, 2, 1), (4, 2, 0)], bl := [], ll := [] } false Tryz.f218 = some qei := by kernel_rfl
theorem qxL : qe maps Tryz.prog { loc := [3], org := [(3, 3), (4, 3), (5, 3), (9, 3), (12, 3), (46, 3), (15, 3)], mv := [(4, 0, 0), (4, 3, 0), (27, 0, 0), (27, 2, 0), (25, 0, 0), (25, 2, 0), (23, 0, 0), (23, 2, 0), (19, 0, 0), (19, 2, 0), (18, 0, 0), (18, 2, 0), (10, 0, 0), (10, 2, 0), (8, 0, 0), (8, 2, 0), (6, 0, 0), (6, 2, 0), (2, 0, 0), (2, 3, 0)], bl := [(0, [])], ll := [] } false Tryz.f219 = some qgN := by kernel_rfl
theorem qzf : qe maps Tryz.prog { loc := [], org := [], mv := [], bl := [(0, [])], ll := [] } true Tryz.f221 = some qm5 := by kernel_rfl
theorem qy4 : qe maps Tryz.prog { loc := [], org := [], mv := [(3, 11, 7)], bl := [], ll := [] } true Tryz.f222 = some qbF := by kernel_rfl
theorem qAf : qe maps Tryz.prog { loc := [], org := [], mv := [(1, 10, 1), (1, 7, 7)], bl := [], ll := [] } false Tryz.f223 = some qa7 := by kernel_rfl
theorem qyP : qe maps Tryz.prog { loc := [], org := [], mv := [(2, 0, 0), (2, 1, 0), (1, 0, 0), (1, 1, 0)], bl := [], ll := [] } false Tryz.f225 = some qaz := by kernel_rfl
theorem qzT : qe maps Tryz.prog { loc := [], org := [], mv := [(22, 3, 0), (22, 1, 0), (22, 2, 1), (22, 0, 0), (22, 2, 0), (21, 3, 0), (21, 1, 0), (21, 2, 1), (21, 0, 0), (21, 2, 0), (19, 3, 0), (19, 1, 0), (19, 2, 1), (19, 0, 0), (19, 2, 0), (11, 1, 0), (11, 2, 1), (11, 0, 0), (11, 2, 0), (9, 1, 0), (9, 2, 1), (9, 0, 0), (9, 2, 0), (7, 3, 0), (7, 1, 0), (7, 2, 1), (7, 0, 0), (7, 2, 0), (5, 3, 0), (5, 1, 0), (5, 2, 1), (5, 0, 0), (5, 2, 0), (3, 3, 0), (3, 1, 0), (3, 2, 1), (3, 0, 0), (3, 2, 0)], bl := [(0, [1, 2])], ll := [] } false Tryz.f226 = some qjp := by kernel_rfl
theorem qAB : qe maps Tryz.prog { loc := [], org := [], mv := [(2, 2, 0)], bl := [], ll := [] } true Tryz.f227 = some qaw := by kernel_rfl
theorem qyL : qe maps Tryz.prog { loc := [2, 3, 4, 5], org := [(2, 2), (3, 3), (9, 3), (14, 3), (18, 3), (23, 3), (27, 3), (33, 3), (103, 3), (4, 4), (55, 4), (56, 4), (5, 5)], mv := [(33, 0, 0), (33, 1, 0), (32, 2, 1), (32, 0, 0), (32, 1, 0), (30, 2, 1), (30, 0, 0), (30, 1, 0), (29, 2, 0), (27, 1, 0), (27, 2, 0), (25, 3, 1), (21, 2, 0), (20, 6, 1), (20, 0, 0), (20, 5, 0), (18, 3, 1), (17, 2, 0), (16, 1, 1), (15, 2, 0), (14, 1, 1), (13, 2, 0), (11, 2, 0), (9, 0, 0), (9, 1, 0), (7, 3, 1), (6, 0, 0), (6, 1, 0), (4, 3, 1), (3, 0, 0), (3, 1, 0), (1, 3, 1)], bl := [(0, [0, 2])], ll := [] } true Tryz.f228 = some j9 := by kernel_rfl
theorem qAd : qe maps Tryz.prog { loc := [1, 4], org := [(1, 1), (5, 1), (8, 1), (12, 1), (17, 1), (19, 1), (25, 1), (31, 1), (4, 4), (36, 4), (40, 4), (45, 4), (47, 4)], mv := [], bl := [(1, [1, 3]), (0, [])], ll := [(0, [1, 3])] } true Tryz.f229 = some qbI := by kernel_rfl
theorem qAq : qe maps Tryz.prog { loc := [], org := [], mv := [(0, 1, 0), (0, 2, 0)], bl := [], ll := [] } false Tryz.f231 = some y3 := by kernel_rfl
theorem qx1 : qe maps Tryz.prog { loc := [], org := [], mv := [(0, 1, 0), (0, 2, 0)], bl := [], ll := [] } false Tryz.f233 = some yX := by kernel_rfl
theorem qAu : qe maps Tryz.prog { loc := [2, 5], org := [(2, 2), (9, 2), (5, 5)], mv := [], bl := [(1, [1, 10, 11, 12]), (0, [])], ll := [(0, [1, 10, 11, 12])] } false Tryz.f247 = some qgR := by kernel_rfl
theorem qAC : qe maps Tryz.prog { loc := [], org := [], mv := [(5, 5, 7), (5, 8, 7)], bl := [], ll := [] } true Tryz.f248 = some kN := by kernel_rfl
theorem qzQ : qe maps Tryz.prog { loc := [3], org := [(3, 3), (11, 3), (15, 3), (24, 3), (30, 3), (34, 3), (38, 3)], mv := [(9, 4, 0), (9, 0, 0), (9, 3, 0), (4, 6, 0), (4, 0, 0), (4, 5, 0)], bl := [(0, [])], ll := [] } true Tryz.f249 = some qcI := by kernel_rfl
theorem qxV : qe maps Tryz.prog { loc := [4, 5], org := [(4, 4), (12, 4), (61, 4), (62, 4), (66, 4), (67, 4), (5, 5), (25, 5), (29, 5), (30, 5), (34, 5), (48, 5)], mv := [(4, 0, 0), (4, 2, 0), (19, 0, 0), (19, 2, 0), (18, 1, 0), (18, 2, 2), (18, 0, 0), (18, 2, 0), (14, 0, 0), (14, 2, 0), (11, 3, 0), (11, 4, 1), (2, 5, 0)], bl := [(2, [0, 5, 37, 38]), (1, [0]), (0, [])], ll := [(1, [0, 5, 37, 38])] } false Tryz.f250 = some qed := by kernel_rfl
theorem qyi : qe maps Tryz.prog { loc := [3, 4], org := [(3, 3), (5, 3), (9, 3), (17, 3), (50, 3), (60, 3), (71, 3), (86, 3), (104, 3), (4, 4), (33, 4)], mv := [(25, 0, 0), (25, 5, 0), (23, 0, 0), (23, 2, 0), (20, 0, 0), (20, 2, 0), (14, 0, 0), (14, 2, 0), (11, 0, 0), (11, 1, 0), (8, 0, 0), (8, 2, 0)], bl := [(0, [])], ll := [] } false Tryz.f255 = some qdu := by kernel_rfl
theorem qzF : qe maps Tryz.prog { loc := [4], org := [(4, 4), (22, 4), (26, 4)], mv := [(5, 0, 0), (5, 2, 0)], bl := [], ll := [] } false Tryz.f256 = some qb9 := by kernel_rfl
theorem qyf : qe maps Tryz.prog { loc := [1], org := [(1, 1)], mv := [], bl := [], ll := [] } true Tryz.f259 = some qjw := by kernel_rfl
theorem qyZ : qe maps Tryz.prog { loc := [], org := [], mv := [(13, 0, 0), (13, 2, 0), (11, 0, 0), (11, 2, 0), (9, 0, 0), (9, 2, 0), (7, 0, 0), (7, 2, 0), (5, 0, 0), (5, 1, 0), (2, 0, 0), (2, 2, 0)], bl := [(0, [])], ll := [] } false Tryz.f263 = some qch := by kernel_rfl
theorem qAg : qe maps Tryz.prog { loc := [], org := [], mv := [], bl := [], ll := [] } true Tryz.f265 = some qlc := by kernel_rfl
theorem qyQ : qe maps Tryz.prog { loc := [], org := [], mv := [], bl := [], ll := [] } false Tryz.f267 = some qle := by kernel_rfl
theorem qAh : qe maps Tryz.prog { loc := [], org := [], mv := [], bl := [], ll := [] } false Tryz.f268 = some qll := by kernel_rfl
theorem qzK : qe maps Tryz.prog { loc := [2, 4], org := [(2, 2), (4, 4), (21, 4), (25, 4), (31, 4), (39, 4), (40, 4), (41, 4), (50, 4)], mv := [(20, 0, 0), (20, 1, 0), (18, 1, 0), (18, 2, 0), (15, 5, 1), (15, 3, 0), (15, 4, 2), (15, 0, 0), (15, 4, 0), (11, 6, 1), (11, 0, 0), (11, 5, 0), (4, 3, 1), (4, 1, 0), (4, 2, 1), (4, 0, 0), (4, 2, 0)], bl := [(0, [0, 2, 5])], ll := [] } true Tryz.f273 = some jI := by kernel_rfl
theorem qyO : qe maps Tryz.prog { loc := [], org := [], mv := [], bl := [(1, [0, 1, 5]), (0, [0, 1])], ll := [(0, [0, 1, 5])] } true Tryz.f274 = some qdy := by kernel_rfl
theorem qxK : qe maps Tryz.prog { loc := [], org := [], mv := [], bl := [(0, [0])], ll := [] } true Tryz.f275 = some qdH := by kernel_rfl
theorem qzm : qe maps Tryz.prog { loc := [1], org := [(1, 1), (4, 1), (7, 1), (11, 1), (16, 1), (22, 1), (25, 1), (29, 1), (34, 1), (39, 1), (45, 1), (52, 1), (56, 1), (60, 1), (64, 1), (69, 1)], mv := [(1, 3, 0)], bl := [(0, [])], ll := [] } true Tryz.f279 = some qjr := by kernel_rfl
theorem qx0 : qe maps Tryz.prog { loc := [], org := [], mv := [(1, 1, 0), (1, 2, 1), (1, 0, 0), (1, 2, 0)], bl := [], ll := [] } true Tryz.f284 = some qdE := by kernel_rfl
theorem qAm : qe maps Tryz.prog { loc := [2], org := [(2, 2), (5, 2)], mv := [], bl := [], ll := [] } false Tryz.f286 = some qgG := by kernel_rfl
theorem qzv : qe maps Tryz.prog { loc := [], org := [], mv := [], bl := [], ll := [] } true Tryz.f297 = some qjn := by kernel_rfl
theorem qy9 : qe maps Tryz.prog { loc := [], org := [], mv := [(1, 3, 0), (1, 1, 0), (1, 2, 1), (1, 0, 0), (1, 2, 0)], bl := [], ll := [] } true Tryz.f299 = some qgO := by kernel_rfl
theorem qAr : qe maps Tryz.prog { loc := [], org := [], mv := [(31, 5, 0), (31, 3, 0), (31, 4, 1), (26, 3, 0), (26, 4, 1), (17, 7, 0), (9, 1, 0), (9, 2, 1), (9, 0, 0), (9, 2, 0), (5, 4, 0), (5, 0, 0), (5, 3, 0)], bl := [(0, [0, 1, 5]), (2, [0, 1, 5, 6, 7, 8, 9, 10]), (1, [])], ll := [(1, [0, 1, 5, 6, 7, 8, 9, 10])] } true Tryz.f301 = some jv := by kernel_rfl
theorem qxF : qe maps Tryz.prog { loc := [], org := [], mv := [(1, 1, 0), (1, 2, 1), (1, 0, 0), (1, 2, 0)], bl := [], ll := [] } true Tryz.f302 = some zH := by kernel_rfl
theorem qCo : qBp Tryz.prog maps pg0 := by
  intro f' i hl fn' hf
  have e : f' = i := qlL hl
  subst e
  show FOk Tryz.prog maps f' fn'
  revert hf
  unfold pg0 prog
  simp only []
  refine qb ⟨_, _, _, Tryz.func4, by decide +kernel, qCp⟩ ?_
  refine qb ⟨_, _, _, Tryz.func7, by decide +kernel, qCe⟩ ?_
  refine qb ⟨_, _, _, Tryz.func8, by decide +kernel, qCj⟩ ?_
  refine qb ⟨_, _, _, Tryz.func11, by decide +kernel, qBN⟩ ?_
  refine qb ⟨_, _, _, Tryz.func12, by decide +kernel, qAX⟩ ?_
  refine qb ⟨_, _, _, Tryz.func13, by decide +kernel, qAS⟩ ?_
  refine qb ⟨_, _, _, Tryz.func15, by decide +kernel, qBA⟩ ?_
  refine qb ⟨_, _, _, Tryz.func16, by decide +kernel, qBl⟩ ?_
  refine qb ⟨_, _, _, Tryz.func17, by decide +kernel, qA1⟩ ?_
  refine qb ⟨_, _, _, Tryz.func23, by decide +kernel, qBK⟩ ?_
  refine qb ⟨_, _, _, Tryz.func24, by decide +kernel, qBI⟩ ?_
  refine qb ⟨_, _, _, Tryz.func25, by decide +kernel, qB3⟩ ?_
  refine qb ⟨_, _, _, Tryz.func26, by decide +kernel, qBf⟩ ?_
  refine qb ⟨_, _, _, Tryz.func27, by decide +kernel, qBR⟩ ?_
  refine qb ⟨_, _, _, Tryz.func28, by decide +kernel, qBg⟩ ?_
  refine qb ⟨_, _, _, Tryz.func29, by decide +kernel, qBO⟩ ?_
  refine qb ⟨_, _, _, Tryz.func30, by decide +kernel, qAZ⟩ ?_
  refine qb ⟨_, _, _, Tryz.func31, by decide +kernel, qBv⟩ ?_
  refine qb ⟨_, _, _, Tryz.func32, by decide +kernel, qBT⟩ ?_
  refine qb ⟨_, _, _, Tryz.func33, by decide +kernel, qA8⟩ ?_
  refine qb ⟨_, _, _, Tryz.func35, by decide +kernel, qBt⟩ ?_
  refine qb ⟨_, _, _, Tryz.func36, by decide +kernel, qAM⟩ ?_
  refine qb ⟨_, _, _, Tryz.func39, by decide +kernel, qBG⟩ ?_
  refine qb ⟨_, _, _, Tryz.func40, by decide +kernel, qBe⟩ ?_
  refine qb ⟨_, _, _, Tryz.func42, by decide +kernel, qBJ⟩ ?_
  refine qb ⟨_, _, _, Tryz.func43, by decide +kernel, qBF⟩ ?_
  refine qb ⟨_, _, _, Tryz.func44, by decide +kernel, qBr⟩ ?_
  refine qb ⟨_, _, _, Tryz.func45, by decide +kernel, qAW⟩ ?_
  refine qb ⟨_, _, _, Tryz.func46, by decide +kernel, qA4⟩ ?_
  refine qb ⟨_, _, _, Tryz.func47, by decide +kernel, qBU⟩ ?_
  refine qb ⟨_, _, _, Tryz.func48, by decide +kernel, qB7⟩ ?_
  refine qb ⟨_, _, _, Tryz.func54, by decide +kernel, qAJ⟩ ?_
  refine qb ⟨_, _, _, Tryz.func55, by decide +kernel, qBP⟩ ?_
  refine qb ⟨_, _, _, Tryz.func56, by decide +kernel, qA3⟩ ?_
  refine qb ⟨_, _, _, Tryz.func57, by decide +kernel, qA7⟩ ?_
  refine qb ⟨_, _, _, Tryz.func58, by decide +kernel, qBs⟩ ?_
  refine qb ⟨_, _, _, Tryz.func59, by decide +kernel, qAY⟩ ?_
  refine qb ⟨_, _, _, Tryz.func60, by decide +kernel, qB9⟩ ?_
  refine qb ⟨_, _, _, Tryz.func61, by decide +kernel, qBu⟩ ?_
  refine qb ⟨_, _, _, Tryz.func62, by decide +kernel, qBL⟩ ?_
  refine qb ⟨_, _, _, Tryz.func63, by decide +kernel, qBw⟩ ?_
  refine qb ⟨_, _, _, Tryz.func65, by decide +kernel, qA2⟩ ?_
  refine qb ⟨_, _, _, Tryz.func66, by decide +kernel, qBZ⟩ ?_
  refine qb ⟨_, _, _, Tryz.func67, by decide +kernel, qB1⟩ ?_
  refine qb ⟨_, _, _, Tryz.func68, by decide +kernel, qBa⟩ ?_
  refine qb ⟨_, _, _, Tryz.func69, by decide +kernel, qA5⟩ ?_
  refine qb ⟨_, _, _, Tryz.func70, by decide +kernel, qB2⟩ ?_
  refine qb ⟨_, _, _, Tryz.func71, by decide +kernel, qBo⟩ ?_
  refine qb ⟨_, _, _, Tryz.func72, by decide +kernel, qA9⟩ ?_
  refine qb ⟨_, _, _, Tryz.func73, by decide +kernel, qBj⟩ ?_
  refine qb ⟨_, _, _, Tryz.func75, by decide +kernel, qAK⟩ ?_
  refine qb ⟨_, _, _, Tryz.func76, by decide +kernel, qAL⟩ ?_
  refine qb ⟨_, _, _, Tryz.func77, by decide +kernel, qBQ⟩ ?_
  refine qb ⟨_, _, _, Tryz.func81, by decide +kernel, qBS⟩ ?_
  refine qb ⟨_, _, _, Tryz.func82, by decide +kernel, qBE⟩ ?_
  refine qb ⟨_, _, _, Tryz.func83, by decide +kernel, qAN⟩ ?_
  refine qb ⟨_, _, _, Tryz.func84, by decide +kernel, qBn⟩ ?_
  refine qb ⟨_, _, _, Tryz.func85, by decide +kernel, qBm⟩ ?_
  refine qb ⟨_, _, _, Tryz.func86, by decide +kernel, qBd⟩ ?_
  refine qb ⟨_, _, _, Tryz.func89, by decide +kernel, qAO⟩ ?_
  refine qb ⟨_, _, _, Tryz.func95, by decide +kernel, qAU⟩ ?_
  refine qb ⟨_, _, _, Tryz.func96, by decide +kernel, qBq⟩ ?_
  refine qb ⟨_, _, _, Tryz.func97, by decide +kernel, qBX⟩ ?_
  refine qb ⟨_, _, _, Tryz.func98, by decide +kernel, qB4⟩ ?_
  refine qb ⟨_, _, _, Tryz.func99, by decide +kernel, qBh⟩ ?_
  refine qb ⟨_, _, _, Tryz.func100, by decide +kernel, qxz⟩ ?_
  refine qb ⟨_, _, _, Tryz.func101, by decide +kernel, qyK⟩ ?_
  refine qb ⟨_, _, _, Tryz.func102, by decide +kernel, qyV⟩ ?_
  refine qb ⟨_, _, _, Tryz.func103, by decide +kernel, qx5⟩ ?_
  refine qb ⟨_, _, _, Tryz.func104, by decide +kernel, qx4⟩ ?_
  refine qb ⟨_, _, _, Tryz.func106, by decide +kernel, qxH⟩ ?_
  refine qb ⟨_, _, _, Tryz.func107, by decide +kernel, qyc⟩ ?_
  refine qb ⟨_, _, _, Tryz.func108, by decide +kernel, qxv⟩ ?_
  refine qb ⟨_, _, _, Tryz.func109, by decide +kernel, qyy⟩ ?_
  refine qb ⟨_, _, _, Tryz.func110, by decide +kernel, qx6⟩ ?_
  refine qb ⟨_, _, _, Tryz.func111, by decide +kernel, qxM⟩ ?_
  refine qb ⟨_, _, _, Tryz.func112, by decide +kernel, qyW⟩ ?_
  refine qb ⟨_, _, _, Tryz.func113, by decide +kernel, qxQ⟩ ?_
  refine qb ⟨_, _, _, Tryz.func114, by decide +kernel, qzH⟩ ?_
  refine qb ⟨_, _, _, Tryz.func115, by decide +kernel, qyg⟩ ?_
  refine qb ⟨_, _, _, Tryz.func121, by decide +kernel, qxD⟩ ?_
  refine qb ⟨_, _, _, Tryz.func122, by decide +kernel, qyz⟩ ?_
  refine qb ⟨_, _, _, Tryz.func125, by decide +kernel, qxA⟩ ?_
  refine qb ⟨_, _, _, Tryz.func128, by decide +kernel, qzx⟩ ?_
  refine qb ⟨_, _, _, Tryz.func129, by decide +kernel, qyl⟩ ?_
  refine qb ⟨_, _, _, Tryz.func134, by decide +kernel, qz4⟩ ?_
  refine qb ⟨_, _, _, Tryz.func135, by decide +kernel, qzy⟩ ?_
  refine qb ⟨_, _, _, Tryz.func136, by decide +kernel, qzX⟩ ?_
  refine qb ⟨_, _, _, Tryz.func137, by decide +kernel, qzL⟩ ?_
  refine qb ⟨_, _, _, Tryz.func138, by decide +kernel, qzG⟩ ?_
  refine qb ⟨_, _, _, Tryz.func139, by decide +kernel, qyB⟩ ?_
  refine qb ⟨_, _, _, Tryz.func140, by decide +kernel, qzP⟩ ?_
  refine qb ⟨_, _, _, Tryz.func141, by decide +kernel, qzu⟩ ?_
  refine qb ⟨_, _, _, Tryz.func142, by decide +kernel, qye⟩ ?_
  refine qb ⟨_, _, _, Tryz.func143, by decide +kernel, qyv⟩ ?_
  refine qb ⟨_, _, _, Tryz.func144, by decide +kernel, qyY⟩ ?_
  refine qb ⟨_, _, _, Tryz.func145, by decide +kernel, qzD⟩ ?_
  refine qb ⟨_, _, _, Tryz.func146, by decide +kernel, qzd⟩ ?_
  refine qb ⟨_, _, _, Tryz.func147, by decide +kernel, qyw⟩ ?_
  refine qb ⟨_, _, _, Tryz.func148, by decide +kernel, qx3⟩ ?_
  refine qb ⟨_, _, _, Tryz.func149, by decide +kernel, qxY⟩ ?_
  refine qb ⟨_, _, _, Tryz.func150, by decide +kernel, qxW⟩ ?_
  refine qb ⟨_, _, _, Tryz.func151, by decide +kernel, qyH⟩ ?_
  refine qb ⟨_, _, _, Tryz.func152, by decide +kernel, qAG⟩ ?_
  refine qb ⟨_, _, _, Tryz.func153, by decide +kernel, qxN⟩ ?_
  refine qb ⟨_, _, _, Tryz.func154, by decide +kernel, qy3⟩ ?_
  refine qb ⟨_, _, _, Tryz.func156, by decide +kernel, qAx⟩ ?_
  refine qb ⟨_, _, _, Tryz.func157, by decide +kernel, qzM⟩ ?_
  refine qb ⟨_, _, _, Tryz.func158, by decide +kernel, qz8⟩ ?_
  refine qb ⟨_, _, _, Tryz.func159, by decide +kernel, qyF⟩ ?_
  refine qb ⟨_, _, _, Tryz.func160, by decide +kernel, qAp⟩ ?_
  refine qb ⟨_, _, _, Tryz.func161, by decide +kernel, qya⟩ ?_
  refine qb ⟨_, _, _, Tryz.func162, by decide +kernel, qzU⟩ ?_
  refine qb ⟨_, _, _, Tryz.func163, by decide +kernel, qyG⟩ ?_
  refine qb ⟨_, _, _, Tryz.func164, by decide +kernel, qzg⟩ ?_
  refine qb ⟨_, _, _, Tryz.func165, by decide +kernel, qyR⟩ ?_
  refine qb ⟨_, _, _, Tryz.func166, by decide +kernel, qyA⟩ ?_
  refine qb ⟨_, _, _, Tryz.func167, by decide +kernel, qxU⟩ ?_
  refine qb ⟨_, _, _, Tryz.func168, by decide +kernel, qAw⟩ ?_
  refine qb ⟨_, _, _, Tryz.func169, by decide +kernel, qxy⟩ ?_
  refine qb ⟨_, _, _, Tryz.func171, by decide +kernel, qyS⟩ ?_
  refine qb ⟨_, _, _, Tryz.func172, by decide +kernel, qyt⟩ ?_
  refine qb ⟨_, _, _, Tryz.func173, by decide +kernel, qxP⟩ ?_
  refine qb ⟨_, _, _, Tryz.func174, by decide +kernel, qzi⟩ ?_
  refine qb ⟨_, _, _, Tryz.func176, by decide +kernel, qyo⟩ ?_
  refine qb ⟨_, _, _, Tryz.func177, by decide +kernel, qxG⟩ ?_
  refine qb ⟨_, _, _, Tryz.func179, by decide +kernel, qzn⟩ ?_
  refine qb ⟨_, _, _, Tryz.func180, by decide +kernel, qzS⟩ ?_
  refine qb ⟨_, _, _, Tryz.func192, by decide +kernel, qyT⟩ ?_
  refine qb ⟨_, _, _, Tryz.func193, by decide +kernel, qzt⟩ ?_
  refine qb ⟨_, _, _, Tryz.func194, by decide +kernel, qzZ⟩ ?_
  refine qb ⟨_, _, _, Tryz.func195, by decide +kernel, qAt⟩ ?_
  refine qb ⟨_, _, _, Tryz.func197, by decide +kernel, qz0⟩ ?_
  refine qb ⟨_, _, _, Tryz.func198, by decide +kernel, qzj⟩ ?_
  refine qb ⟨_, _, _, Tryz.func199, by decide +kernel, qy7⟩ ?_
  refine qb ⟨_, _, _, Tryz.func200, by decide +kernel, qzw⟩ ?_
  refine qb ⟨_, _, _, Tryz.func201, by decide +kernel, qzk⟩ ?_
  refine qb ⟨_, _, _, Tryz.func202, by decide +kernel, qzW⟩ ?_
  refine qb ⟨_, _, _, Tryz.func203, by decide +kernel, qyj⟩ ?_
  refine qb ⟨_, _, _, Tryz.func204, by decide +kernel, qxO⟩ ?_
  refine qb ⟨_, _, _, Tryz.func205, by decide +kernel, qyb⟩ ?_
  refine qb ⟨_, _, _, Tryz.func206, by decide +kernel, qzV⟩ ?_
  refine qb ⟨_, _, _, Tryz.func207, by decide +kernel, qzY⟩ ?_
  refine qb ⟨_, _, _, Tryz.func208, by decide +kernel, qxx⟩ ?_
  refine qb ⟨_, _, _, Tryz.func209, by decide +kernel, qze⟩ ?_
  refine qb ⟨_, _, _, Tryz.func210, by decide +kernel, qzI⟩ ?_
  refine qb ⟨_, _, _, Tryz.func211, by decide +kernel, qyp⟩ ?_
  refine qb ⟨_, _, _, Tryz.func212, by decide +kernel, qy0⟩ ?_
  refine qb ⟨_, _, _, Tryz.func213, by decide +kernel, qzp⟩ ?_
  refine qb ⟨_, _, _, Tryz.func214, by decide +kernel, qxZ⟩ ?_
  refine qb ⟨_, _, _, Tryz.func218, by decide +kernel, qAD⟩ ?_
  refine qb ⟨_, _, _, Tryz.func219, by decide +kernel, qxL⟩ ?_
  refine qb ⟨_, _, _, Tryz.func221, by decide +kernel, qzf⟩ ?_
  refine qb ⟨_, _, _, Tryz.func222, by decide +kernel, qy4⟩ ?_
  refine qb ⟨_, _, _, Tryz.func223, by decide +kernel, qAf⟩ ?_
  refine qb ⟨_, _, _, Tryz.func225, by decide +kernel, qyP⟩ ?_
  refine qb ⟨_, _, _, Tryz.func226, by decide +kernel, qzT⟩ ?_
  refine qb ⟨_, _, _, Tryz.func227, by decide +kernel, qAB⟩ ?_
  refine qb ⟨_, _, _, Tryz.func228, by decide +kernel, qyL⟩ ?_
  refine qb ⟨_, _, _, Tryz.func229, by decide +kernel, qAd⟩ ?_
  refine qb ⟨_, _, _, Tryz.func231, by decide +kernel, qAq⟩ ?_
  refine qb ⟨_, _, _, Tryz.func233, by decide +kernel, qx1⟩ ?_
  refine qb ⟨_, _, _, Tryz.func247, by decide +kernel, qAu⟩ ?_
  refine qb ⟨_, _, _, Tryz.func248, by decide +kernel, qAC⟩ ?_
  refine qb ⟨_, _, _, Tryz.func249, by decide +kernel, qzQ⟩ ?_
  refine qb ⟨_, _, _, Tryz.func250, by decide +kernel, qxV⟩ ?_
  refine qb ⟨_, _, _, Tryz.func255, by decide +kernel, qyi⟩ ?_
  refine qb ⟨_, _, _, Tryz.func256, by decide +kernel, qzF⟩ ?_
  refine qb ⟨_, _, _, Tryz.func259, by decide +kernel, qyf⟩ ?_
  refine qb ⟨_, _, _, Tryz.func263, by decide +kernel, qyZ⟩ ?_
  refine qb ⟨_, _, _, Tryz.func265, by decide +kernel, qAg⟩ ?_
  refine qb ⟨_, _, _, Tryz.func267, by decide +kernel, qyQ⟩ ?_
  refine qb ⟨_, _, _, Tryz.func268, by decide +kernel, qAh⟩ ?_
  refine qb ⟨_, _, _, Tryz.func273, by decide +kernel, qzK⟩ ?_
  refine qb ⟨_, _, _, Tryz.func274, by decide +kernel, qyO⟩ ?_
  refine qb ⟨_, _, _, Tryz.func275, by decide +kernel, qxK⟩ ?_
  refine qb ⟨_, _, _, Tryz.func279, by decide +kernel, qzm⟩ ?_
  refine qb ⟨_, _, _, Tryz.func284, by decide +kernel, qx0⟩ ?_
  refine qb ⟨_, _, _, Tryz.func286, by decide +kernel, qAm⟩ ?_
  refine qb ⟨_, _, _, Tryz.func297, by decide +kernel, qzv⟩ ?_
  refine qb ⟨_, _, _, Tryz.func299, by decide +kernel, qy9⟩ ?_
  refine qb ⟨_, _, _, Tryz.func301, by decide +kernel, qAr⟩ ?_
  refine qb ⟨_, _, _, Tryz.func302, by decide +kernel, qxF⟩ ?_
  exact qAV
theorem qy6 : qqM Tryz.prog maps := by
  intro f' k l hl hk
  have e : f' = k := qlL hl
  subst e
  simp only [maps, W.look, qCA] at hk
  by_cases h203 : f' = 203
  · subst h203
    simp at hk
    subst hk
    exact ⟨26, 102, 241, 3, 4, 0, Tryz.f203, Tryz.func203, by decide +kernel, by kernel_rfl, by kernel_rfl, by kernel_rfl, Tryz.underlying26, by kernel_rfl, by kernel_rfl, Tryz.underlying3, Tryz.underlying4⟩
  rw [if_neg (by simpa using h203)] at hk
  cases hk
theorem tab : Tab Tryz.prog maps pg0 := ⟨qCo, qy6⟩
end Go.Proofs.YtmaninacgfbecaaGreat

/-
  The same evaluator, in forms that the kernel reckons fast.
-/
set_option linter.unusedSimpArgs false
set_option linter.unusedVariables false
namespace W
open Go (IntKind BinOp UnOp)
noncomputable def fget (n : Nat) (e : Env) : V := List.rec (motive := fun _ => V) .undef (fun p _ ih => Bool.rec ih p.2 (qCy n p.1)) e
theorem yu (n : Nat) (e : Env) : fget n e = get n e := by
  induction e with
  | nil => rfl
  | cons p e ih =>
    obtain ⟨m, v⟩ := p
    show Bool.rec (fget n e) v (qCy n m) = bif qCy n m then v else get n e
    rw [ih]
    cases qCy n m <;> rfl
noncomputable def fnth {α : Type} (l : List α) (n : Nat) : Option α :=
  List.rec (motive := fun _ => Nat → Option α) (fun _ => none) (fun x _ ih n => Nat.rec (motive := fun _ => Option α) (some x) (fun m _ => ih m) n) l n
theorem zN {α : Type} (l : List α) (n : Nat) : fnth l n = l[n]? := by
  induction l generalizing n with
  | nil => rfl
  | cons x l ih =>
    cases n with
    | zero => rfl
    | succ n => exact ih n
noncomputable def frd (e : Env) (o : O) : V := O.rec (motive := fun _ => V) (fun n => qgK n (fget n e)) (fun x => .d x) (fun i => .fn i [] []) (fun n => qjl (fget n e)) (fun _ x => .cp x) o
theorem yK (e : Env) (o : O) : frd e o = rd e o := by cases o <;> simp only [frd, yu] <;> rfl
noncomputable def qq {α : Type} (a : Nat) (k : Nat → α) : α := Nat.rec (motive := fun _ => α) (k 0) (fun m _ => k (Nat.succ m)) a
noncomputable def ql0 {α : Type} (n : Int) (k : Int → α) : α := Int.rec (motive := fun _ => α) (fun a => qq a fun a => k (.ofNat a)) (fun a => qq a fun a => k (.negSucc a)) n
noncomputable def qrC {α : Type} (b : Bool) (k : Bool → α) : α := Bool.rec (motive := fun _ => α) (k false) (k true) b
theorem qX {α : Type} (a : Nat) (k : Nat → α) : qq a k = k a := by cases a <;> rfl
theorem qkJ {α : Type} (n : Int) (k : Int → α) : ql0 n k = k n := by
  cases n with
  | ofNat a => exact qX a fun a => k (.ofNat a)
  | negSucc a => exact qX a fun a => k (.negSucc a)
theorem qn7 {α : Type} (b : Bool) (k : Bool → α) : qrC b k = k b := by cases b <;> rfl
noncomputable def qrL {α : Type} (l : List Nat) (k : List Nat → α) : α :=
  List.rec (motive := fun _ => (List Nat → α) → α) (fun k => k []) (fun x _ ih k => qq x fun x => ih fun r => k (x :: r)) l k
theorem qtV {α : Type} (l : List Nat) (k : List Nat → α) : qrL l k = k l := by
  induction l generalizing k with
  | nil => rfl
  | cons x l ih => exact (qX x fun x => qrL l fun r => k (x :: r)).trans (ih fun r => k (x :: r))
noncomputable def kI {β α : Type} (f : β → (β → α) → α) (l : List β) (k : List β → α) : α :=
  List.rec (motive := fun _ => (List β → α) → α) (fun k => k []) (fun x _ ih k => f x fun x => ih fun r => k (x :: r)) l k
theorem qH {β α : Type} {f : β → (β → α) → α} (hf : ∀ x k, f x k = k x) (l : List β) (k : List β → α) : kI f l k = k l := by
  induction l generalizing k with
  | nil => rfl
  | cons x l ih => exact (hf x fun x => kI f l fun r => k (x :: r)).trans (ih fun r => k (x :: r))
noncomputable def qgD {α : Type} (x : D) (k : D → α) : α :=
  D.casesOn (motive_1 := fun _ => α) x (fun z => qrC z fun z => k (.b z)) (fun kk n => ql0 n fun n => k (.i kk n)) (fun t => k (.s t)) (k .nil) (fun xs => k (.sl xs)) (fun cs => k (.agg cs)) (k .np) (k .nf) (k .ni) (k .nm)
theorem qbN {α : Type} (x : D) (k : D → α) : qgD x k = k x := by
  cases x with
  | b z => exact qn7 z fun z => k (.b z)
  | i kk n => exact qkJ n fun n => k (.i kk n)
  | _ => rfl
noncomputable def quZ {α : Type} (x : D) (k : D → α) : α :=
  D.casesOn (motive_1 := fun _ => α) x (fun z => qrC z fun z => k (.b z)) (fun kk n => ql0 n fun n => k (.i kk n)) (fun t => qrL t fun t => k (.s t)) (k .nil) (fun xs => kI qgD xs fun xs => k (.sl xs)) (fun cs => kI qgD cs fun cs => k (.agg cs)) (k .np) (k .nf) (k .ni) (k .nm)
theorem qtb {α : Type} (x : D) (k : D → α) : quZ x k = k x := by
  cases x with
  | b z => exact qn7 z fun z => k (.b z)
  | i kk n => exact qkJ n fun n => k (.i kk n)
  | s t => exact qtV t fun t => k (.s t)
  | sl xs => exact qH qbN xs fun xs => k (.sl xs)
  | agg xs => exact qH qbN xs fun xs => k (.agg xs)
  | _ => rfl
noncomputable def kQ {α : Type} (v : V) (k : V → α) : α :=
  V.casesOn (motive_1 := fun _ => α) v (fun x => qgD x fun x => k (.d x)) (fun xs => k (.osl xs)) (fun xs => k (.fsl xs)) (fun i o => qq i fun i => qq o fun o => k (.ptr i o)) (fun i o => qq i fun i => qq o fun o => k (.lp i o)) (fun cs => k (.box cs)) (fun x => k (.cp x))
    (fun i o n c => k (.rs i o n c)) (fun i o n => qq i fun i => qq o fun o => qq n fun n => k (.row i o n)) (fun i => qq i fun i => k (.map i)) (fun f a b => k (.fn f a b)) (fun t x => k (.ifc t x)) (fun cs => k (.agg cs)) (fun vs => k (.tup vs)) (k .undef)
theorem kn {α : Type} (v : V) (k : V → α) : kQ v k = k v := by
  cases v with
  | d x => exact qbN x fun x => k (.d x)
  | _ => simp only [kQ, qX]
noncomputable def qcx {α : Type} (v : V) (k : V → α) : α :=
  V.casesOn (motive_1 := fun _ => α) v (fun x => quZ x fun x => k (.d x)) (fun xs => kI qgD xs fun xs => k (.osl xs)) (fun xs => kI qgD xs fun xs => k (.fsl xs)) (fun i o => qq i fun i => qq o fun o => k (.ptr i o)) (fun i o => qq i fun i => qq o fun o => k (.lp i o)) (fun cs => kI kQ cs fun cs => k (.box cs)) (fun x => qgD x fun x => k (.cp x))
    (fun i o n c => qq i fun i => qq o fun o => qq n fun n => qq c fun c => k (.rs i o n c)) (fun i o n => qq i fun i => qq o fun o => qq n fun n => k (.row i o n)) (fun i => qq i fun i => k (.map i)) (fun f a b => qq f fun f => k (.fn f a b)) (fun t x => k (.ifc t x)) (fun cs => kI kQ cs fun cs => k (.agg cs)) (fun vs => kI kQ vs fun vs => k (.tup vs)) (k .undef)
theorem qbP {α : Type} (v : V) (k : V → α) : qcx v k = k v := by
  cases v with
  | d x => exact qtb x fun x => k (.d x)
  | osl xs => exact qH qbN xs fun xs => k (.osl xs)
  | fsl xs => exact qH qbN xs fun xs => k (.fsl xs)
  | box cs => exact qH kn cs fun cs => k (.box cs)
  | cp x => exact qbN x fun x => k (.cp x)
  | agg cs => exact qH kn cs fun cs => k (.agg cs)
  | tup cs => exact qH kn cs fun cs => k (.tup cs)
  | _ => simp only [qcx, qX]
noncomputable def qu9 {α : Type} (o : Obj) (k : Obj → α) : α :=
  Obj.casesOn (motive := fun _ => α) o (fun cs => kI kQ cs fun cs => k (.cells cs)) (fun es => kI (fun p k => kQ p.2 fun v => k (p.1, v)) es fun es => k (.map es)) (fun l cs => kI kQ cs fun cs => k (.row l cs)) (k .dead) (fun i => qq i fun i => k (.iter i))
theorem qs0 {α : Type} (o : Obj) (k : Obj → α) : qu9 o k = k o := by
  cases o with
  | cells cs => exact qH kn cs fun cs => k (.cells cs)
  | map es => exact qH (fun p k => kn p.2 fun v => k (p.1, v)) es fun es => k (.map es)
  | row l cs => exact qH kn cs fun cs => k (.row l cs)
  | dead => rfl
  | iter i => exact qX i fun i => k (.iter i)
noncomputable def qvy {α : Type} (H : List Obj) (k : List Obj → α) : α := kI (fun o k => qu9 o k) H k
theorem qtf {α : Type} (H : List Obj) (k : List Obj → α) : qvy H k = k H := qH qs0 _ _
noncomputable def qqI {α : Type} (o : Obj) (k : Obj → α) : α :=
  Obj.casesOn (motive := fun _ => α) o (fun cs => kI kQ cs fun cs => k (.cells cs)) (fun es => kI (fun p k => kQ p.2 fun v => k (p.1, v)) es fun es => k (.map es)) (fun l cs => kI (fun v k => k v) cs fun cs => k (.row l cs)) (k .dead) (fun i => qq i fun i => k (.iter i))
theorem qtL {α : Type} (o : Obj) (k : Obj → α) : qqI o k = k o := by
  cases o with
  | cells cs => exact qH kn cs fun cs => k (.cells cs)
  | map es => exact qH (fun p k => kn p.2 fun v => k (p.1, v)) es fun es => k (.map es)
  | row l cs => exact qH (fun _ _ => rfl) cs fun cs => k (.row l cs)
  | dead => rfl
  | iter i => exact qX i fun i => k (.iter i)
noncomputable def quj (l : List Obj) : Bool := List.rec (motive := fun _ => Bool) true (fun _ _ _ => false) l
noncomputable def qiL {α : Type} (f : Obj → (Obj → α) → α) (H : List Obj) (k : List Obj → α) : α :=
  List.rec (motive := fun _ => (List Obj → α) → α) (fun k => k []) (fun o t ih k => Bool.rec (motive := fun _ => α) (f o fun o => ih fun t => k (o :: t)) (qqI o fun o => k [o]) (quj t)) H k
theorem qk3 {α : Type} {f : Obj → (Obj → α) → α} (hf : ∀ o k, f o k = k o) (H : List Obj) (k : List Obj → α) : qiL f H k = k H := by
  induction H generalizing k with
  | nil => rfl
  | cons o t ih =>
    show Bool.rec (motive := fun _ => α) (f o fun o => qiL f t fun t => k (o :: t)) (qqI o fun o => k [o]) (quj t) = _
    cases t with
    | nil => exact qtL o fun o => k [o]
    | cons o' t =>
      show (f o fun o => qiL f (o' :: t) fun t => k (o :: t)) = _
      rw [hf, ih]
noncomputable def qmv {α : Type} (H : List Obj) (k : List Obj → α) : α := qiL (fun o k => k o) H k
theorem qnR {α : Type} (H : List Obj) (k : List Obj → α) : qmv H k = k H := qk3 (fun _ _ => rfl) H k
noncomputable def qu3 {α : Type} (o : Obj) (k : Obj → α) : α :=
  Obj.casesOn (motive := fun _ => α) o (fun cs => kI kQ cs fun cs => k (.cells cs)) (fun es => kI (fun p k => kQ p.2 fun v => k (p.1, v)) es fun es => k (.map es)) (fun l cs => k (.row l cs)) (k .dead) (fun i => qq i fun i => k (.iter i))
theorem qty {α : Type} (o : Obj) (k : Obj → α) : qu3 o k = k o := by
  cases o with
  | cells cs => exact qH kn cs fun cs => k (.cells cs)
  | map es => exact qH (fun p k => kn p.2 fun v => k (p.1, v)) es fun es => k (.map es)
  | row l cs => rfl
  | dead => rfl
  | iter i => exact qX i fun i => k (.iter i)
noncomputable def qoi {α : Type} (H : List Obj) (k : List Obj → α) : α := qiL qu3 H k
theorem qtC {α : Type} (H : List Obj) (k : List Obj → α) : qoi H k = k H := qk3 qty H k
noncomputable def qsz (l : L) (off : Nat) (cs : List V) : Option V := Bool.rec (motive := fun _ => Option V) ((fnth cs off).map z4) (V.part off l cs) l.agg
noncomputable def qoV (l : L) (st : St) (v : V) : Option V :=
  match v with
  | .lp s off => match fget s st.env with
    | .box cs => qsz l off cs
    | _ => none
  | .ptr id off => match fnth st.H id with
    | some (.cells cs) => qsz l off cs
    | some (.row _ cs) => qsz l off cs
    | _ => none
  | v => qL l st v
theorem qzr (l : L) (off : Nat) (cs : List V) : qsz l off cs = V.part off l cs := by
  obtain ⟨n, agg⟩ := l
  cases agg with
  | true => rfl
  | false => show (fnth cs off).map z4 = _; rw [zN]; simp [V.part]
theorem qrF : qoV = qL := by
  funext l st v
  cases v <;> simp only [qoV, qzr, yu, zN] <;> rfl
noncomputable def qxI (x : O) (st : St) : Option Or := ok (frd st.env x) { st with env := spent x st.env }
noncomputable def qvO (c : O) (a : O) (b : O) (st : St) : Option Or :=
  match frd st.env c with
    | .d (.b z) => ok (Bool.rec (motive := fun _ => V) (frd st.env b) (frd st.env a) z) st
    | _ => none
noncomputable def que (mv : Bool) (sl : Option Nat) (l : L) (a : O) (st : St) : Option Or :=
  Bool.rec (motive := fun _ => Option Or) (bif !qF sl (frd st.env a) then none else (match qoV l st (frd st.env a) with | some v => ok v st | none => none)) (jC true sl l a st) mv
noncomputable def qkX (x : O) (st : St) : Option Or :=
  match frd st.env x with
    | .ptr id off => ok (.ptr id off) st
    | .lp s off => ok (.lp s off) st
    | .cp y => ok (.cp y) st
    | _ => none
noncomputable def qzB (op : BinOp) (kd : Kd) (x : O) (y : O) (st : St) : Option Or :=
  match qfr op kd (isC x || isC y) (frd st.env x) (frd st.env y) with
    | some v => ok v st
    | none => none
noncomputable def qjF (x : O) (off : Nat) (l : L) (st : St) : Option Or :=
  match frd st.env x with
    | .ptr id o => ok (.ptr id (o + off)) st
    | .lp s o => ok (.lp s (o + off)) st
    | _ => qU x off l st
noncomputable def qjK (x : O) (i : O) (size : Nat) (arr : Option Nat) (st : St) : Option Or :=
  match frd st.env i with
    | .d (.i _ n) => match arr with
      | some len => bif leI 0 n && !leI len n then (match frd st.env x with
        | .ptr id o => ok (.ptr id (o + n.toNat * size)) st
        | .lp s o => ok (.lp s (o + n.toNat * size)) st
        | .cp (.agg cs) => bif qCy size 1 then (match fnth cs n.toNat with
          | some y => if y.one then ok (.cp y) st else none
          | none => none) else none
        | _ => none) else none
      | none => bif leI 0 n then (match frd st.env x with
        | .d (.sl xs) => match fnth xs n.toNat with
          | some y => bif qCy y.cells.length size then ok (.cp y) st else none
          | none => none
        | .rs id o len _ => bif !leI len n && qCy size 1 then ok (.ptr id (o + n.toNat)) st else none
        | .row id sz len => bif !leI len n && qCy size sz then ok (.ptr id (n.toNat * sz)) st else none
        | _ => none) else none
    | _ => none
noncomputable def qqT (x : O) (i : O) (st : St) : Option Or :=
  match frd st.env x, frd st.env i with
    | .d (.s t), .d (.i _ n) => bif leI 0 n then (match fnth t n.toNat with
        | some y => ok (.d (.i .u8 y)) st
        | none => none) else none
    | _, _ => none
noncomputable def qmd (x : O) (i : Nat) (st : St) : Option Or :=
  match x with
    | .t n => match fget n st.env with
      | .tup vs => match fnth vs i with
        | some v => ok (copy v) st
        | none => none
      | _ => none
    | _ => none
noncomputable def jF {α : Type} (l : List α) : Nat := List.rec (motive := fun _ => Nat) 0 (fun _ _ ih => Nat.succ ih) l
theorem kD {α : Type} (l : List α) : jF l = l.length := by
  induction l with
  | nil => rfl
  | cons x l ih => simp only [List.length_cons, ← ih]; rfl
noncomputable def qxg (x : O) (st : St) : Option Or :=
  match frd st.env x with
    | .d (.s t) => ok (.d (.i .i64 (jF t))) st
    | _ => none
noncomputable def qxu (x : O) (st : St) : Option Or :=
  match frd st.env x with
    | .d .nil => ok (.d (.i .i64 0)) st
    | .d (.sl xs) => ok (.d (.i .i64 (jF xs))) st
    | .rs _ _ n _ => ok (.d (.i .i64 n)) st
    | .row _ _ n => ok (.d (.i .i64 n)) st
    | _ => none
noncomputable def fBi (b : Bi) (args : List O) (st : St) : Option Or :=
  match b, args with
    | .lenS, [x] => qxg x st
    | .lenL, [x] => qxu x st
    | b, l => eBi b l st
noncomputable def qef (call : Call) (k : OpK) (st : St) : Option Or :=
  match k with
  | .mov x => qxI x st
  | .pick c a b => qvO c a b st
  | .load mv sl l a => que mv sl l a st
  | .nilCheck x => qkX x st
  | .bin op kd x y => qzB op kd x y st
  | .fieldAddr x off l => qjF x off l st
  | .indexAddr x i size arr => qjK x i size arr st
  | .index x i => qqT x i st
  | .extract x i => qmd x i st
  | .bi b args => fBi b args st
  | k => qd call k st
theorem qsO : qef = qd := by
  funext call k st
  cases k with
  | mov x => simp only [qef, qxI, yK]; rfl
  | pick c a b =>
    simp only [qef, qvO, yK, qd, qgP]
    cases rd st.env c with
    | d w => cases w with
      | b z => cases z <;> rfl
      | _ => rfl
    | _ => rfl
  | load mv sl l a => cases mv <;> simp only [qef, que, yK, qrF] <;> rfl
  | nilCheck x => simp only [qef, qkX, yK]; rfl
  | bin op kd x y => simp only [qef, qzB, yK]; rfl
  | fieldAddr x off l =>
    simp only [qef, qjF, yK, qd]
    split <;> rename_i h <;> (try simp only [qU, h])
  | indexAddr x i size arr => simp only [qef, qjK, yK, zN]; rfl
  | index x i => simp only [qef, qqT, yK, zN]; rfl
  | extract x i => simp only [qef, qmd, yu, zN]; rfl
  | bi b args =>
    simp only [qef, fBi, qd]
    split
    · rename_i x; simp only [qxg, yK, kD]; rfl
    · rename_i x
      simp only [qxu, yK, kD]
      show _ = qeD x st
      unfold qeD
      cases rd st.env x with
      | d w => cases w <;> rfl
      | _ => rfl
    · rfl
  | _ => rfl
noncomputable def makes (k : OpK) : Bool :=
  match k with
  | .mov _ => false
  | .load _ _ _ _ => false
  | .extract _ _ => false
  | .pick _ _ _ => false
  | .nilCheck _ => false
  | .store _ _ _ _ => false
  | .call _ _ => false
  | .indexAddr _ _ _ _ => false
  | .fieldAddr _ _ _ => false
  | .field _ _ _ => false
  | _ => true
noncomputable def qrS {α : Type} (m : Bool) (v : V) (k : V → α) : α := Bool.rec (motive := fun _ => α) (kQ v k) (qcx v k) m
theorem qsX {α : Type} (m : Bool) (v : V) (k : V → α) : qrS m v k = k v := by
  cases m
  · exact kn v k
  · exact qbP v k
end W

