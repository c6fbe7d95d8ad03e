/-
  A module is looked at beside others: what it imports is there, and exported; both checkers, of every mask, use and import.: part 3 of what the proof rests on (a value semantics for a part of the language, sound against the model; the walks).
-/
import Derived.Calls
import Derived.Orders
import Derived.Laws.Cells
import Derived.Laws.AppendOwn
import Derived.Test.YtdgbjjpdepdmmaaGreatDoorW2
set_option linter.unusedVariables false
open Bool renaming false_eq_true → qFs, and_eq_true → qFt, cond_eq_ite → qFA, and_self → qFD, or_true → qFE, or_self → qFM, not_true → qFO
open List renaming getElem?_cons_zero → qFu, getElem?_cons_succ → qFy, map_cons → qFz, length_cons → qFF, length_nil → qFG, map_nil → qFI, set_cons_zero → qFJ, set_cons_succ → qFL, take_succ_cons → qFP, drop_zero → qFQ
open Option renaming map_some → qFv, bind_eq_some_iff → qFB, bind_eq_bind → qFH, pure_def → qFN
open Nat renaming le_refl → qFw, beq → qFx, zero_add → qFC, eq_of_beq_eq_true → qFK
namespace W
def qd5 : Fn := ⟨2, [.t 4], true, (.seq (.ops [o_ 3 (.box true (.t 1)), o_ 4 (.mov (.c (.b false)))]) (.seq (.ops [o_ 19 (.fieldAddr (.t 3) 0 l_), o_ 20 (.load false (some 3) l_ (.t 19)), o_ 21 (.call (.f 196) [.t 20]), m_ 18 21, o_ 22 (.extract (.t 18) 0), o_ 23 (.extract (.t 18) 1), o_ 24 (.extract (.t 18) 2), m_ 5 22, m_ 6 23, m_ 7 24]) (.seq (.seq (.ops [m_ 25 5, o_ 26 (.bin .eql .num (.t 25) (i_ (-2))), m_ 27 26, q_ 28 27 false (.mov (.t 5)), q_ 29 27 false (.bin .geq .num (.t 28) (i_ 0)), q_ 30 27 false (.mov (.t 29)), q_ 31 30 true (.fieldAddr (.t 3) 1 l_), q_ 32 30 true (.load false (some 3) l_ (.t 31)), q_ 33 30 true (.bi .lenL [.t 32]), q_ 34 30 true (.mov (.t 5)), q_ 35 30 true (.bin .neq .num (.t 33) (.t 34)), q_ 36 27 false (.pick (.t 30) (.t 35) (.c (.b false))), o_ 37 (.pick (.t 27) (.c (.b true)) (.t 36)), m_ 38 37, q_ 39 38 false (.mov (.t 6)), q_ 40 38 false (.bin .geq .num (.t 39) (i_ 0)), q_ 41 38 false (.mov (.t 40)), q_ 42 41 true (.fieldAddr (.t 3) 2 l_), q_ 43 41 true (.load false (some 3) l_ (.t 42)), q_ 44 41 true (.bi .lenL [.t 43]), q_ 45 41 true (.mov (.t 6)), q_ 46 41 true (.bin .neq .num (.t 44) (.t 45)), q_ 47 38 false (.pick (.t 41) (.t 46) (.c (.b false))), o_ 48 (.pick (.t 38) (.c (.b true)) (.t 47)), m_ 49 48, q_ 50 49 false (.mov (.t 7)), q_ 51 49 false (.bin .geq .num (.t 50) (i_ 0)), q_ 52 49 false (.mov (.t 51)), q_ 53 52 true (.fieldAddr (.t 3) 3 l_), q_ 54 52 true (.load false (some 3) l_ (.t 53)), q_ 55 52 true (.bi .lenL [.t 54]), q_ 56 52 true (.mov (.t 7)), q_ 57 52 true (.bin .neq .num (.t 55) (.t 56)), q_ 58 49 false (.pick (.t 52) (.t 57) (.c (.b false))), o_ 59 (.pick (.t 49) (.c (.b true)) (.t 58))]) (.cond (.t 59) (.seq (.ops [o_ 4 (.mov (.c (.b false)))]) (.ret)) (.skip))) (.seq (.seq (.ops [o_ 8 (.mov (i_ 0))]) (.block 0 [0, 3] (qip))) (qia))))), none, none⟩
def yx : Fn := ⟨2, [.t 4], true, (.seq (.ops [o_ 4 (.mov (.c (.b false)))]) (.seq (.ops [o_ 5 (.mov (.mv 0)), o_ 6 (.mov (.mv 1)), o_ 7 (.call (.f 230) [.mv 5, (.mv 6)]), o_ 8 (.bin .geq .num (.t 7) (i_ 0)), m_ 4 8]) (.ret))), none, none⟩
def qgn : Fn := ⟨1, [.t 2], true, (.seq (.ops [o_ 1 (.box true (.t 0)), o_ 2 (.mov (.c (.b false)))]) (.seq (.ops [o_ 3 (.fieldAddr (.t 1) 0 l_), o_ 4 (.load false (some 1) l_ (.t 3)), o_ 5 (.call (.f 50) [.t 4]), o_ 6 (.un .not (.t 5)), m_ 7 6, q_ 8 7 false (.fieldAddr (.t 1) 2 (s_ 4)), q_ 9 7 false (.load false (some 1) (s_ 4) (.t 8)), q_ 10 7 false (.call (.f 127) [.t 9, (i_ 8)]), q_ 11 7 false (.un .not (.t 10)), o_ 12 (.pick (.t 7) (.c (.b true)) (.t 11)), m_ 2 12]) (.ret))), none, none⟩
def qiC : Fn := ⟨2, [.t 4], true, (.seq (.ops [o_ 2 (.box true (.t 0)), o_ 3 (.box false (.t 1)), o_ 4 (.mov (.c (.b false)))]) (.seq (.ops [o_ 5 (.load false none l_ (.t 3)), o_ 6 (.bin .gtr .num (.t 5) (i_ 0)), m_ 7 6, q_ 8 7 true (.fieldAddr (.t 2) 2 l_), q_ 9 7 true (.load false (some 2) l_ (.t 8)), q_ 10 7 true (.call (.f 50) [.t 9]), o_ 11 (.pick (.t 7) (.t 10) (.c (.b false))), m_ 12 11, q_ 13 12 true (.fieldAddr (.t 2) 3 l_), q_ 14 12 true (.load false (some 2) l_ (.t 13)), q_ 15 12 true (.bi .lenL [.t 14]), q_ 16 12 true (.call (.f 49) [.t 15]), o_ 17 (.pick (.t 12) (.t 16) (.c (.b false))), m_ 18 17, q_ 19 18 true (.fieldAddr (.t 2) 3 l_), q_ 20 18 true (.load false (some 2) l_ (.t 19)), q_ 21 18 true (.mkFn 232 [] [.t 3]), q_ 22 18 true (.call (.f 231) [.t 20, (.t 21)]), q_ 23 18 true (.un .not (.t 22)), o_ 24 (.pick (.t 18) (.t 23) (.c (.b false))), m_ 4 24]) (.ret))), none, none⟩
def j8 : Fn := ⟨2, [.t 4], true, (.seq (.ops [o_ 4 (.mov (.c (.b false)))]) (.seq (.ops [o_ 5 (.mov (.mv 0)), o_ 6 (.mov (.mv 1)), o_ 7 (.call (.f 233) [.mv 5, (.mv 6)]), o_ 8 (.bin .geq .num (.t 7) (i_ 0)), m_ 4 8]) (.ret))), none, none⟩
def qf8 : Fn := ⟨1, [.t 2], true, (.seq (.ops [o_ 1 (.box true (.t 0)), o_ 2 (.mov (.c (.b false)))]) (.seq (.ops [o_ 3 (.load false (some 1) (s_ 8) (.t 1)), o_ 4 (.call (.f 58) [.t 3]), o_ 5 (.un .not (.t 4)), m_ 2 5]) (.ret))), none, none⟩
def jL : Fn := ⟨2, [.t 4], true, (.seq (.ops [o_ 4 (.mov (.c (.b false)))]) (.seq (.ops [o_ 5 (.mov (.mv 0)), o_ 6 (.mov (.mv 1)), o_ 7 (.call (.f 234) [.mv 5, (.mv 6)]), o_ 8 (.bin .geq .num (.t 7) (i_ 0)), m_ 4 8]) (.ret))), none, none⟩
def qcs : C := (.seq (.ops [o_ 9 (.bin .lss .num (.t 8) (.t 7))]) (.seq (.cond (.t 9) (.skip) (.exit 0)) (.seq (.block 1 [0, 1, 7, 8] (.seq (.ops [m_ 10 8, m_ 5 10]) (.seq (.ops [m_ 11 1, m_ 12 0, m_ 13 5, o_ 14 (.indexAddr (.t 12) (.t 13) 1 none), o_ 15 (.load false none l_ (.t 14)), o_ 16 (.call (.t 11) [.t 15])]) (.cond (.t 16) (.seq (.ops [m_ 17 5, m_ 4 17]) (.ret)) (.skip))))) (.ops [o_ 18 (.bin .add .num (.t 8) (i_ 1)), m_ 8 18]))))
def qce : C := .loop [0, 1, 7, 8] qcs
def qcf : C := (.seq (.ops [o_ 4 (.mov (i_ (-1)))]) (.ret))
def qat : Fn := ⟨2, [.t 4], true, (.seq (.ops [o_ 4 (.mov (i_ 0))]) (.seq (.seq (.ops [m_ 6 0, o_ 7 (.bi .lenL [.t 6]), o_ 8 (.mov (i_ 0))]) (.block 0 [] (qce))) (qcf))), none, none⟩
def qbl : C := (.seq (.ops [o_ 9 (.bin .lss .num (.t 8) (.t 7))]) (.seq (.cond (.t 9) (.skip) (.exit 0)) (.seq (.block 1 [0, 1, 7, 8] (.seq (.ops [m_ 10 8, m_ 5 10]) (.seq (.ops [m_ 11 1, m_ 12 0, m_ 13 5, o_ 14 (.indexAddr (.t 12) (.t 13) 10 none), o_ 15 (.load false none (s_ 10) (.t 14)), o_ 16 (.call (.t 11) [.t 15])]) (.cond (.t 16) (.seq (.ops [m_ 17 5, m_ 4 17]) (.ret)) (.skip))))) (.ops [o_ 18 (.bin .add .num (.t 8) (i_ 1)), m_ 8 18]))))
def qbh : C := .loop [0, 1, 7, 8] qbl
def qbn : C := (.seq (.ops [o_ 4 (.mov (i_ (-1)))]) (.ret))
def yn : Fn := ⟨2, [.t 4], true, (.seq (.ops [o_ 4 (.mov (i_ 0))]) (.seq (.seq (.ops [m_ 6 0, o_ 7 (.bi .lenL [.t 6]), o_ 8 (.mov (i_ 0))]) (.block 0 [] (qbh))) (qbn))), none, none⟩
def qpf : C := (.seq (.ops [o_ 10 (.bin .lss .num (.t 9) (.t 8))]) (.seq (.cond (.t 10) (.skip) (.exit 0)) (.seq (.block 1 [3, 7, 8, 9] (.seq (.ops [o_ 11 (.indexAddr (.t 7) (.t 9) 8 none), o_ 12 (.load false none (s_ 8) (.t 11)), o_ 5 (.alloc true [(.i .i64 0), (.i .i64 0), (.i .i64 0), (.s []), .nil, (.i .i32 0), (.s []), .nil]), z_ (.store (some 5) (s_ 8) (.t 5) (.t 12))]) (.ops [m_ 13 3, o_ 14 (.load false (some 5) (s_ 8) (.t 5)), o_ 15 (.call (.f 134) [.t 14]), o_ 16 (.bi .max [.t 13, (.t 15)]), m_ 3 16]))) (.ops [o_ 17 (.bin .add .num (.t 9) (i_ 1)), m_ 9 17]))))
def qpk : C := .loop [3, 7, 8, 9] qpf
def qpl : C := (.seq (.ops [m_ 18 3, o_ 19 (.bin .add .num (.t 18) (i_ 1)), m_ 2 19]) (.ret))
def qnE : Fn := ⟨1, [.t 2], true, (.seq (.ops [o_ 1 (.box true (.t 0)), o_ 2 (.mov (i_ 0))]) (.seq (.ops [o_ 3 (.mov (i_ 0))]) (.seq (.seq (.ops [o_ 6 (.fieldAddr (.t 1) 7 l_), o_ 7 (.load false (some 1) l_ (.t 6)), o_ 8 (.bi .lenL [.t 7]), o_ 9 (.mov (i_ 0))]) (.block 0 [3] (qpk))) (qpl)))), none, none⟩
def qi3 : Fn := ⟨1, [.t 2], true, (.seq (.ops [o_ 1 (.box true (.t 0)), o_ 2 (.mov (.c (.b false)))]) (.seq (.ops [o_ 3 (.fieldAddr (.t 1) 6 l_), o_ 4 (.load false (some 1) l_ (.t 3)), o_ 5 (.bi .lenS [.t 4]), o_ 6 (.bin .leq .num (.t 5) (i_ 120)), m_ 7 6, q_ 8 7 true (.fieldAddr (.t 1) 1 (s_ 4)), q_ 9 7 true (.load false (some 1) (s_ 4) (.t 8)), q_ 10 7 true (.call (.f 127) [.t 9, (i_ 8)]), o_ 11 (.pick (.t 7) (.t 10) (.c (.b false))), m_ 12 11, q_ 13 12 true (.fieldAddr (.t 1) 7 l_), q_ 14 12 true (.load false (some 1) l_ (.t 13)), q_ 15 12 true (.bi .lenL [.t 14]), q_ 16 12 true (.call (.f 49) [.t 15]), o_ 17 (.pick (.t 12) (.t 16) (.c (.b false))), m_ 18 17, q_ 19 18 true (.fieldAddr (.t 1) 7 l_), q_ 20 18 true (.load false (some 1) l_ (.t 19)), q_ 21 18 true (.call (.f 128) [.t 20, (.f 235)]), q_ 22 18 true (.un .not (.t 21)), o_ 23 (.pick (.t 18) (.t 22) (.c (.b false))), m_ 2 23]) (.ret))), none, none⟩
def qb6 : C := (.seq (.ops [o_ 9 (.bin .lss .num (.t 8) (.t 7))]) (.seq (.cond (.t 9) (.skip) (.exit 0)) (.seq (.block 1 [0, 1, 7, 8] (.seq (.ops [m_ 10 8, m_ 5 10]) (.seq (.ops [m_ 11 1, m_ 12 0, m_ 13 5, o_ 14 (.indexAddr (.t 12) (.t 13) 4 none), o_ 15 (.load false none (s_ 4) (.t 14)), o_ 16 (.call (.t 11) [.t 15])]) (.cond (.t 16) (.seq (.ops [m_ 17 5, m_ 4 17]) (.ret)) (.skip))))) (.ops [o_ 18 (.bin .add .num (.t 8) (i_ 1)), m_ 8 18]))))
def qb0 : C := .loop [0, 1, 7, 8] qb6
def qb9 : C := (.seq (.ops [o_ 4 (.mov (i_ (-1)))]) (.ret))
def y8 : Fn := ⟨2, [.t 4], true, (.seq (.ops [o_ 4 (.mov (i_ 0))]) (.seq (.seq (.ops [m_ 6 0, o_ 7 (.bi .lenL [.t 6]), o_ 8 (.mov (i_ 0))]) (.block 0 [] (qb0))) (qb9))), none, none⟩
def qbz : C := (.seq (.ops [o_ 9 (.bin .lss .num (.t 8) (.t 7))]) (.seq (.cond (.t 9) (.skip) (.exit 0)) (.seq (.block 1 [0, 1, 7, 8] (.seq (.ops [m_ 10 8, m_ 5 10]) (.seq (.ops [m_ 11 1, m_ 12 0, m_ 13 5, o_ 14 (.indexAddr (.t 12) (.t 13) 10 none), o_ 15 (.load false none (s_ 10) (.t 14)), o_ 16 (.call (.t 11) [.t 15])]) (.cond (.t 16) (.seq (.ops [m_ 17 5, m_ 4 17]) (.ret)) (.skip))))) (.ops [o_ 18 (.bin .add .num (.t 8) (i_ 1)), m_ 8 18]))))
def qbG : C := .loop [0, 1, 7, 8] qbz
def qbH : C := (.seq (.ops [o_ 4 (.mov (i_ (-1)))]) (.ret))
def yN : Fn := ⟨2, [.t 4], true, (.seq (.ops [o_ 4 (.mov (i_ 0))]) (.seq (.seq (.ops [m_ 6 0, o_ 7 (.bi .lenL [.t 6]), o_ 8 (.mov (i_ 0))]) (.block 0 [] (qbG))) (qbH))), none, none⟩
def qfU : Fn := ⟨2, [(.cell 4 (s_ 8)), (.t 5)], false, (.seq (.ops [o_ 3 (.box false (.t 1)), o_ 4 (.alloc true [(.s []), .nil, .nil, .nil, .nil, .nil, .nil, .nil]), o_ 5 (.mov (.c (.b false)))]) (.seq (.ops [m_ 7 0, o_ 8 (.nilCheck (.t 7)), o_ 9 (.fieldAddr (.t 8) 5 l_), o_ 10 (.load false none l_ (.t 9)), o_ 11 (.mkFn 238 [] [.t 3]), o_ 12 (.call (.f 237) [.t 10, (.t 11)]), o_ 6 (.mov (.mv 12))]) (.seq (.seq (.ops [m_ 13 6, o_ 14 (.bin .lss .num (.t 13) (i_ 0))]) (.cond (.t 14) (.seq (.ops [o_ 15 (.build [(.s []), .nil, .nil, .nil, .nil, .nil, .nil, .nil] []), z_ (.store (some 4) (s_ 8) (.t 4) (.t 15)), o_ 5 (.mov (.c (.b false)))]) (.ret)) (.skip))) (.seq (.ops [m_ 16 0, o_ 17 (.nilCheck (.t 16)), o_ 18 (.fieldAddr (.t 17) 5 l_), o_ 19 (.load false none l_ (.t 18)), m_ 20 6, o_ 21 (.indexAddr (.t 19) (.t 20) 8 none), o_ 22 (.load false none (s_ 8) (.t 21)), z_ (.store (some 4) (s_ 8) (.t 4) (.t 22)), o_ 5 (.mov (.c (.b true)))]) (.ret))))), none, none⟩
def qai : Fn := ⟨1, [.t 2], true, (.seq (.ops [o_ 1 (.box false (.t 0)), o_ 2 (.mov (.c .nf))]) (.seq (.ops [o_ 3 (.mkFn 239 [] [.t 1]), m_ 2 3]) (.ret))), none, none⟩
def yY : Fn := ⟨1, [.t 2], true, (.seq (.ops [o_ 1 (.box false (.t 0)), o_ 2 (.mov (.c .nf))]) (.seq (.ops [o_ 3 (.mkFn 240 [] [.t 1]), m_ 2 3]) (.ret))), none, none⟩
def qoh : C := (.seq (.seq (.ops [m_ 11 0, o_ 12 (.bin .neq .num (.t 11) (.c (.s [])))]) (.cond (.t 12) (.skip) (.exit 0))) (.block 1 [0, 1, 6, 7] (.seq (.ops [m_ 14 1, m_ 15 0, o_ 16 (.lookup 2 (.agg [(.s []), (.b false), (.s []), .nil]) (.t 14) (.t 15) true), m_ 13 16, o_ 17 (.extract (.t 13) 0), o_ 18 (.extract (.t 13) 1), o_ 8 (.alloc true [(.s []), (.b false), (.s []), .nil]), z_ (.store (some 8) (s_ 4) (.t 8) (.t 17)), m_ 9 18]) (.seq (.seq (.ops [m_ 19 9, o_ 20 (.un .not (.t 19)), m_ 21 20, q_ 22 21 false (.mov (.t 7)), q_ 23 21 false (.mov (.t 0)), q_ 24 21 false (.lookup 2 (.b false) (.t 22) (.t 23) false), o_ 25 (.pick (.t 21) (.c (.b true)) (.t 24))]) (.cond (.t 25) (.seq (.ops [o_ 4 (.mov (.c .nil)), o_ 5 (.mov (.c (.b false)))]) (.ret)) (.skip))) (.seq (.ops [m_ 26 7, m_ 27 0, z_ (.mapUpdate 2 (.t 26) (.t 27) (.c (.b true)))]) (.seq (.ops [o_ 28 (.mov (.mv 6)), o_ 29 (.load false (some 8) (s_ 4) (.t 8)), o_ 30 (.buildSlice (.agg [(.s []), (.b false), (.s []), .nil]) 1 [(0, (.t 29))]), o_ 31 (.bi (.append 4 64) [.mv 28, (.t 30)]), o_ 6 (.mov (.mv 31))]) (.ops [o_ 32 (.fieldAddr (.t 8) 2 l_), o_ 33 (.load false (some 8) l_ (.t 32)), m_ 0 33])))))))
def qom : C := .loop [0, 1, 6, 7] qoh
def qoa : C := (.seq (.ops [m_ 34 6, m_ 35 6, o_ 36 (.bi .lenL [.t 35]), o_ 37 (.bin .gtr .num (.t 36) (i_ 0)), m_ 4 34, m_ 5 37]) (.ret))
def qmy : Fn := ⟨2, [.t 4, (.t 5)], false, (.seq (.ops [o_ 4 (.mov (.c .nil)), o_ 5 (.mov (.c (.b false)))]) (.seq (.ops [o_ 6 (.mov (.c .nil))]) (.seq (.ops [o_ 10 (.mkMap), m_ 7 10]) (.seq (.block 0 [6] (qom)) (qoa))))), none, none⟩
def qml : Fn := ⟨1, [.t 2], true, (.seq (.ops [o_ 1 (.box true (.t 0)), o_ 2 (.mov (.c (.b false)))]) (.seq (.block 0 [] (.seq (.ops [o_ 4 (.fieldAddr (.t 1) 0 l_), o_ 5 (.load false (some 1) l_ (.t 4)), o_ 6 (.call (.f 162) [.t 5]), o_ 3 (.mov (.mv 6))]) (.cond (.t 3) (.seq (.ops [o_ 7 (.fieldAddr (.t 1) 1 l_), o_ 8 (.load false (some 1) l_ (.t 7)), o_ 9 (.bin .eql .num (.t 8) (i_ 0)), m_ 10 9, q_ 11 10 true (.fieldAddr (.t 1) 2 l_), q_ 12 10 true (.load false (some 1) l_ (.t 11)), q_ 13 10 true (.bin .eql .num (.t 12) (.c (.s []))), o_ 14 (.pick (.t 10) (.t 13) (.c (.b false))), m_ 15 14, q_ 16 15 true (.fieldAddr (.t 1) 3 l_), q_ 17 15 true (.load false (some 1) l_ (.t 16)), q_ 18 15 true (.bi .lenL [.t 17]), q_ 19 15 true (.bin .eql .num (.t 18) (i_ 0)), o_ 20 (.pick (.t 15) (.t 19) (.c (.b false))), m_ 2 20]) (.ret)) (.seq (.ops [o_ 22 (.fieldAddr (.t 1) 0 l_), o_ 23 (.load false (some 1) l_ (.t 22)), o_ 24 (.bin .eql .num (.t 23) (i_ 7)), m_ 21 24]) (.cond (.t 21) (.seq (.ops [o_ 25 (.fieldAddr (.t 1) 1 l_), o_ 26 (.load false (some 1) l_ (.t 25)), o_ 27 (.bin .geq .num (.t 26) (i_ 1)), m_ 28 27, q_ 29 28 true (.fieldAddr (.t 1) 1 l_), q_ 30 28 true (.load false (some 1) l_ (.t 29)), q_ 31 28 true (.bin .leq .num (.t 30) (i_ 1024)), o_ 32 (.pick (.t 28) (.t 31) (.c (.b false))), m_ 33 32, q_ 34 33 true (.fieldAddr (.t 1) 2 l_), q_ 35 33 true (.load false (some 1) l_ (.t 34)), q_ 36 33 true (.bin .eql .num (.t 35) (.c (.s []))), o_ 37 (.pick (.t 33) (.t 36) (.c (.b false))), m_ 38 37, q_ 39 38 true (.fieldAddr (.t 1) 3 l_), q_ 40 38 true (.load false (some 1) l_ (.t 39)), q_ 41 38 true (.bi .lenL [.t 40]), q_ 42 38 true (.bin .eql .num (.t 41) (i_ 1)), o_ 43 (.pick (.t 38) (.t 42) (.c (.b false))), m_ 44 43, q_ 45 44 true (.fieldAddr (.t 1) 3 l_), q_ 46 44 true (.load false (some 1) l_ (.t 45)), q_ 47 44 true (.indexAddr (.t 46) (i_ 0) 4 none), q_ 48 44 true (.load false none (s_ 4) (.t 47)), q_ 49 44 true (.call (.f 147) [.t 48]), o_ 50 (.pick (.t 44) (.t 49) (.c (.b false))), m_ 2 50]) (.ret)) (.seq (.ops [o_ 52 (.fieldAddr (.t 1) 0 l_), o_ 53 (.load false (some 1) l_ (.t 52)), o_ 54 (.bin .eql .num (.t 53) (i_ 8)), m_ 55 54, q_ 56 55 false (.fieldAddr (.t 1) 0 l_), q_ 57 55 false (.load false (some 1) l_ (.t 56)), q_ 58 55 false (.bin .eql .num (.t 57) (i_ 9)), o_ 59 (.pick (.t 55) (.c (.b true)) (.t 58)), m_ 51 59]) (.cond (.t 51) (.seq (.ops [o_ 60 (.fieldAddr (.t 1) 1 l_), o_ 61 (.load false (some 1) l_ (.t 60)), o_ 62 (.bin .eql .num (.t 61) (i_ 0)), m_ 63 62, q_ 64 63 true (.fieldAddr (.t 1) 2 l_), q_ 65 63 true (.load false (some 1) l_ (.t 64)), q_ 66 63 true (.bin .neq .num (.t 65) (.c (.s []))), o_ 67 (.pick (.t 63) (.t 66) (.c (.b false))), m_ 68 67, q_ 69 68 true (.fieldAddr (.t 1) 3 l_), q_ 70 68 true (.load false (some 1) l_ (.t 69)), q_ 71 68 true (.bi .lenL [.t 70]), q_ 72 68 true (.bin .eql .num (.t 71) (i_ 0)), o_ 73 (.pick (.t 68) (.t 72) (.c (.b false))), m_ 2 73]) (.ret)) (.skip)))))))) (.seq (.ops [o_ 2 (.mov (.c (.b false)))]) (.ret)))), none, none⟩
def qhW : Fn := ⟨2, [.t 4], true, (.seq (.ops [o_ 2 (.box false (.t 0)), o_ 3 (.box true (.t 1)), o_ 4 (.mov (.c (.b false)))]) (.seq (.seq (.ops [o_ 5 (.fieldAddr (.t 3) 0 l_), o_ 6 (.load false (some 3) l_ (.t 5))]) (.block 0 [] (.seq (.ops [o_ 8 (.bin .eql .num (.t 6) (i_ 7)), m_ 7 8]) (.cond (.t 7) (.seq (.ops [o_ 9 (.fieldAddr (.t 3) 3 l_), o_ 10 (.load false (some 3) l_ (.t 9)), o_ 11 (.mkFn 241 [] [.t 2]), o_ 12 (.call (.f 231) [.t 10, (.t 11)]), o_ 13 (.un .not (.t 12)), m_ 4 13]) (.ret)) (.seq (.seq (.ops [o_ 15 (.bin .eql .num (.t 6) (i_ 8)), m_ 14 15]) (.cond (.t 14) (.skip) (.ops [o_ 16 (.bin .eql .num (.t 6) (i_ 9)), m_ 14 16]))) (.cond (.t 14) (.seq (.opsD [(o_ 17 (.load false none l_ (.t 2)), false, []), (o_ 18 (.nilCheck (.t 17)), false, []), (o_ 19 (.fieldAddr (.t 18) 2 l_), false, []), (o_ 20 (.load false none l_ (.t 19)), false, []), (o_ 21 (.fieldAddr (.t 3) 2 l_), false, []), (o_ 22 (.load false (some 3) l_ (.t 21)), false, []), (o_ 23 (.lookup 2 (.b false) (.t 20) (.t 22) false), true, []), (m_ 4 23, true, [])]) (.ret)) (.skip))))))) (.seq (.ops [o_ 4 (.mov (.c (.b true)))]) (.ret)))), none, none⟩
def qmp : Fn := ⟨2, [.t 4, (.t 5)], false, (.seq (.ops [o_ 2 (.box true (.t 0)), o_ 4 (.mov (i_ 0)), o_ 5 (.mov (.c (.b false)))]) (.seq (.ops [m_ 8 1, o_ 9 (.mkMap), o_ 10 (.build [.nm, .nm] [(0, 1, (.t 8)), (1, 1, (.t 9))]), o_ 11 (.box false (.t 10)), m_ 6 11]) (.seq (.ops [o_ 12 (.mov (.mv 6)), o_ 13 (.load false (some 2) (s_ 4) (.t 2)), o_ 14 (.call (.f 242) [.mv 12, (.t 13)]), o_ 7 (.mov (.mv 14))]) (.seq (.ops [m_ 15 7, o_ 16 (.bi .max [.t 15, (i_ 0)]), m_ 17 7, o_ 18 (.bin .geq .num (.t 17) (i_ 0)), m_ 4 16, m_ 5 18]) (.ret))))), none, none⟩
def qmn : Fn := ⟨1, [(.cell 2 (s_ 4))], true, (.seq (.ops [o_ 2 (.alloc true [(.i .i64 0), (.i .i64 0), (.s []), .nil])]) (.seq (.ops [m_ 3 0, o_ 4 (.build [(.i .i64 0), (.i .i64 0), (.s []), .nil] [(0, 1, (.t 3))]), z_ (.store (some 2) (s_ 4) (.t 2) (.t 4))]) (.ret))), none, none⟩
def qlm : Fn := ⟨3, [.t 6], true, (.seq (.ops [o_ 3 (.box true (.t 0)), o_ 6 (.mov (.c (.b false)))]) (.seq (.ops [m_ 7 1, m_ 8 7, q_ 9 8 false (.fieldAddr (.t 3) 5 l_), q_ 10 8 false (.load false (some 3) l_ (.t 9)), q_ 11 8 false (.bin .eql .num (.t 10) (.c (.i .i32 0))), o_ 12 (.pick (.t 8) (.c (.b true)) (.t 11)), m_ 13 12, q_ 14 13 true (.mov (.t 2)), q_ 15 13 true (.mov (.t 14)), q_ 16 15 false (.fieldAddr (.t 3) 6 l_), q_ 17 15 false (.load false (some 3) l_ (.t 16)), q_ 18 15 false (.bin .eql .num (.t 17) (.c (.s []))), q_ 19 13 true (.pick (.t 15) (.c (.b true)) (.t 18)), o_ 20 (.pick (.t 13) (.t 19) (.c (.b false))), m_ 6 20]) (.ret))), none, none⟩
def qif : C := (.seq (.ops [o_ 67 (.bin .lss .num (.t 66) (.t 65))]) (.seq (.cond (.t 67) (.skip) (.exit 1)) (.seq (.block 2 [3, 65, 66] (.seq (.ops [m_ 68 66, m_ 5 68]) (.ops [o_ 69 (.fieldAddr (.t 3) 6 l_), o_ 70 (.load false (some 3) l_ (.t 69)), m_ 71 5, o_ 72 (.index (.t 70) (.t 71)), o_ 73 (.bin .geq .num (.t 72) (.c (.i .u8 32))), m_ 74 73, q_ 75 74 true (.fieldAddr (.t 3) 6 l_), q_ 76 74 true (.load false (some 3) l_ (.t 75)), q_ 77 74 true (.mov (.t 5)), q_ 78 74 true (.index (.t 76) (.t 77)), q_ 79 74 true (.bin .neq .num (.t 78) (.c (.i .u8 34))), o_ 80 (.pick (.t 74) (.t 79) (.c (.b false))), o_ 81 (.call (.f 72) [.t 80])]))) (.ops [o_ 82 (.bin .add .num (.t 66) (i_ 1)), m_ 66 82]))))
def qic : C := .loop [3, 65, 66] qif
def qd9 : Fn := ⟨2, [], false, (.seq (.ops [o_ 3 (.box true (.t 1))]) (.seq (.ops [o_ 6 (.fieldAddr (.t 3) 1 (s_ 4)), o_ 7 (.fieldAddr (.t 6) 0 l_), o_ 8 (.load false (some 3) l_ (.t 7)), m_ 4 8]) (.seq (.seq (.opsD [(o_ 9 (.fieldAddr (.t 3) 1 (s_ 4)), false, []), (o_ 10 (.load false (some 3) (s_ 4) (.t 9)), false, []), (m_ 11 4, false, []), (o_ 12 (.call (.f 150) [.t 11]), true, []), (o_ 13 (.call (.f 75) [.t 10, (.t 12)]), true, []), (o_ 14 (.mov (.mv 13)), true, []), (q_ 15 14 true (.fieldAddr (.t 3) 7 l_), true, []), (q_ 16 14 true (.load false (some 3) l_ (.t 15)), true, []), (q_ 17 14 true (.bi .lenL [.t 16]), true, []), (q_ 18 14 true (.bin .eql .num (.t 17) (i_ 0)), true, []), (o_ 19 (.pick (.t 14) (.t 18) (.c (.b false))), true, []), (m_ 20 19, true, []), (q_ 21 20 true (.load false (some 3) (s_ 8) (.t 3)), false, []), (q_ 22 20 true (.mov (.t 4)), false, []), (q_ 23 20 true (.bin .neq .num (.t 22) (i_ 6)), false, []), (q_ 24 20 true (.mov (.t 23)), false, []), (q_ 25 24 true (.mov (.t 4)), false, []), (q_ 26 24 true (.bin .neq .num (.t 25) (i_ 5)), false, []), (q_ 27 20 true (.pick (.t 24) (.t 26) (.c (.b false))), false, []), (q_ 28 20 true (.mov (.t 4)), false, []), (q_ 29 20 true (.bin .eql .num (.t 28) (i_ 6)), false, []), (q_ 30 20 true (.call (.f 151) [.t 21, (.t 27), (.t 29)]), true, []), (o_ 31 (.pick (.t 20) (.t 30) (.c (.b false))), true, [])]) (.ops [o_ 32 (.call (.f 72) [.t 31])])) (.seq (.ops [m_ 33 4]) (.block 0 [] (.seq (.seq (.ops [o_ 36 (.bin .eql .num (.t 33) (i_ 1)), m_ 35 36]) (.cond (.t 35) (.skip) (.seq (.ops [o_ 37 (.bin .eql .num (.t 33) (i_ 4)), m_ 35 37]) (.cond (.t 35) (.skip) (.ops [o_ 38 (.bin .eql .num (.t 33) (i_ 5)), m_ 35 38]))))) (.cond (.t 35) (.skip) (.seq (.ops [o_ 40 (.bin .eql .num (.t 33) (i_ 2)), m_ 39 40]) (.cond (.t 39) (.ops [o_ 41 (.fieldAddr (.t 3) 5 l_), o_ 42 (.load false (some 3) l_ (.t 41)), o_ 43 (.bin .geq .num (.t 42) (.c (.i .i32 0))), m_ 44 43, q_ 45 44 true (.fieldAddr (.t 3) 5 l_), q_ 46 44 true (.load false (some 3) l_ (.t 45)), q_ 47 44 true (.bin .leq .num (.t 46) (.c (.i .i32 255))), o_ 48 (.pick (.t 44) (.t 47) (.c (.b false))), o_ 49 (.call (.f 72) [.t 48])]) (.seq (.ops [o_ 51 (.bin .eql .num (.t 33) (i_ 3)), m_ 50 51]) (.cond (.t 50) (.ops [o_ 52 (.fieldAddr (.t 3) 5 l_), o_ 53 (.load false (some 3) l_ (.t 52)), o_ 54 (.bin .eql .num (.t 53) (.c (.i .i32 0))), m_ 55 54, q_ 56 55 false (.fieldAddr (.t 3) 5 l_), q_ 57 55 false (.load false (some 3) l_ (.t 56)), q_ 58 55 false (.bin .eql .num (.t 57) (.c (.i .i32 1))), o_ 59 (.pick (.t 55) (.c (.b true)) (.t 58)), o_ 60 (.call (.f 72) [.t 59])]) (.seq (.ops [o_ 62 (.bin .eql .num (.t 33) (i_ 6)), m_ 61 62]) (.cond (.t 61) (.seq (.ops [o_ 63 (.fieldAddr (.t 3) 6 l_), o_ 64 (.load false (some 3) l_ (.t 63)), o_ 65 (.bi .lenS [.t 64]), o_ 66 (.mov (i_ 0))]) (.block 1 [] (qic))) (.ops [o_ 34 (.call (.f 72) [(.c (.b false))])])))))))))))))), none, none⟩
def qdp : Fn := ⟨2, [], false, (.seq (.ops [o_ 3 (.box true (.t 1))]) (.seq (.opsD [(m_ 7 0, false, [4]), (o_ 8 (.nilCheck (.t 7)), false, [4]), (o_ 9 (.fieldAddr (.t 8) 9 l_), false, [4]), (o_ 10 (.load false none l_ (.t 9)), false, [4]), (o_ 11 (.fieldAddr (.t 3) 6 l_), false, [4]), (o_ 12 (.load false (some 3) l_ (.t 11)), false, [4]), (o_ 13 (.lookup 2 (.agg [(.i .i64 0), (.i .i64 0), (.s []), .nil]) (.t 10) (.t 12) true), false, [4]), (m_ 6 13, false, [4]), (o_ 14 (.extract (.t 6) 0), false, [4]), (o_ 15 (.extract (.t 6) 1), false, [4]), (o_ 4 (.alloc true [(.i .i64 0), (.i .i64 0), (.s []), .nil]), false, [4]), (z_ (.store (some 4) (s_ 4) (.t 4) (.t 14)), false, []), (m_ 5 15, true, [])]) (.seq (.seq (.ops [o_ 16 (.fieldAddr (.t 3) 6 l_), o_ 17 (.load false (some 3) l_ (.t 16)), o_ 18 (.call (.f 244) [.t 17, (.c (.s [46]))])]) (.cond (.t 18) (.opsD [(m_ 20 0, false, []), (o_ 21 (.nilCheck (.t 20)), false, []), (o_ 22 (.fieldAddr (.t 21) 8 l_), false, []), (o_ 23 (.load false none l_ (.t 22)), false, []), (o_ 24 (.nilCheck (.t 23)), false, []), (o_ 25 (.fieldAddr (.t 24) 3 l_), false, []), (o_ 26 (.load false none l_ (.t 25)), false, []), (o_ 27 (.fieldAddr (.t 3) 6 l_), false, []), (o_ 28 (.load false (some 3) l_ (.t 27)), false, []), (o_ 29 (.lookup 2 (.agg [(.i .i64 0), (.i .i64 0), (.s []), .nil]) (.t 26) (.t 28) true), true, []), (m_ 19 29, true, []), (o_ 30 (.extract (.t 19) 0), false, []), (o_ 31 (.extract (.t 19) 1), false, []), (z_ (.store (some 4) (s_ 4) (.t 4) (.t 30)), false, []), (m_ 5 31, true, [])]) (.skip))) (.seq (.ops [o_ 32 (.mov (.mv 5)), o_ 33 (.call (.f 65) [.mv 32])]) (.ops [o_ 34 (.fieldAddr (.t 3) 1 (s_ 4)), o_ 35 (.load false (some 3) (s_ 4) (.t 34)), o_ 36 (.load false (some 4) (s_ 4) (.t 4)), o_ 37 (.call (.f 75) [.t 35, (.t 36)]), o_ 38 (.mov (.mv 37)), q_ 39 38 true (.fieldAddr (.t 3) 7 l_), q_ 40 38 true (.load false (some 3) l_ (.t 39)), q_ 41 38 true (.bi .lenL [.t 40]), q_ 42 38 true (.bin .eql .num (.t 41) (i_ 0)), o_ 43 (.pick (.t 38) (.t 42) (.c (.b false))), m_ 44 43, q_ 45 44 true (.load false (some 3) (s_ 8) (.t 3)), q_ 46 44 true (.call (.f 151) [.t 45, (.c (.b false)), (.c (.b true))]), o_ 47 (.pick (.t 44) (.t 46) (.c (.b false))), o_ 48 (.call (.f 72) [.t 47])]))))), none, none⟩
def qho : C := (.seq (.ops [o_ 46 (.bin .lss .num (.t 45) (.t 44))]) (.seq (.cond (.t 46) (.skip) (.exit 0)) (.seq (.block 1 [0, 3, 43, 44, 45] (.seq (.ops [m_ 47 45, o_ 48 (.indexAddr (.t 43) (.t 45) 6 none), o_ 49 (.load false none (s_ 6) (.t 48)), o_ 7 (.alloc true [(.s []), (.b false), (.i .i64 0), (.i .i64 0), (.s []), .nil]), m_ 6 47, z_ (.store (some 7) (s_ 6) (.t 7) (.t 49))]) (.seq (.opsD [(m_ 50 0, false, []), (o_ 51 (.nilCheck (.t 50)), false, []), (o_ 52 (.fieldAddr (.t 51) 8 l_), false, []), (o_ 53 (.load false none l_ (.t 52)), false, []), (o_ 54 (.load false (some 7) (s_ 6) (.t 7)), false, []), (o_ 55 (.fieldAddr (.t 3) 7 l_), false, []), (o_ 56 (.load false (some 3) l_ (.t 55)), false, []), (m_ 57 6, false, []), (o_ 58 (.indexAddr (.t 56) (.t 57) 8 none), false, []), (o_ 59 (.load false none (s_ 8) (.t 58)), false, []), (o_ 60 (.call (.f 247) [.t 53, (.t 54), (.t 59)]), true, [])]) (.ops [o_ 61 (.call (.f 72) [.t 60])])))) (.ops [o_ 62 (.bin .add .num (.t 45) (i_ 1)), m_ 45 62]))))
def qgS : C := .loop [0, 3, 43, 44, 45] qho
def qdx : Fn := ⟨2, [], false, (.seq (.ops [o_ 3 (.box true (.t 1))]) (.seq (.opsD [(m_ 9 0, false, [4]), (o_ 10 (.nilCheck (.t 9)), false, [4]), (o_ 11 (.fieldAddr (.t 10) 8 l_), false, [4]), (o_ 12 (.load false none l_ (.t 11)), false, [4]), (o_ 13 (.nilCheck (.t 12)), false, [4]), (o_ 14 (.fieldAddr (.t 13) 4 l_), false, [4]), (o_ 15 (.load false none l_ (.t 14)), false, [4]), (o_ 16 (.fieldAddr (.t 3) 6 l_), false, [4]), (o_ 17 (.load false (some 3) l_ (.t 16)), false, [4]), (o_ 18 (.lookup 2 (.agg [(.s []), (.b false), .nil, (.i .i64 0), (.i .i64 0), (.s []), .nil, .nil, .nil, .nil]) (.t 15) (.t 17) true), false, [4]), (m_ 8 18, false, [4]), (o_ 19 (.extract (.t 8) 0), false, [4]), (o_ 20 (.extract (.t 8) 1), false, [4]), (o_ 4 (.alloc true [(.s []), (.b false), .nil, (.i .i64 0), (.i .i64 0), (.s []), .nil, .nil, .nil, .nil]), false, [4]), (z_ (.store (some 4) (s_ 10) (.t 4) (.t 19)), false, []), (m_ 5 20, true, [])]) (.seq (.ops [o_ 21 (.mov (.mv 5)), o_ 22 (.call (.f 65) [.mv 21])]) (.seq (.ops [o_ 23 (.fieldAddr (.t 3) 1 (s_ 4)), o_ 24 (.load false (some 3) (s_ 4) (.t 23)), o_ 25 (.fieldAddr (.t 4) 3 (s_ 4)), o_ 26 (.load false (some 4) (s_ 4) (.t 25)), o_ 27 (.call (.f 75) [.t 24, (.t 26)]), o_ 28 (.mov (.mv 27)), q_ 29 28 true (.fieldAddr (.t 3) 7 l_), q_ 30 28 true (.load false (some 3) l_ (.t 29)), q_ 31 28 true (.bi .lenL [.t 30]), q_ 32 28 true (.fieldAddr (.t 4) 2 l_), q_ 33 28 true (.load false (some 4) l_ (.t 32)), q_ 34 28 true (.bi .lenL [.t 33]), q_ 35 28 true (.bin .eql .num (.t 31) (.t 34)), o_ 36 (.pick (.t 28) (.t 35) (.c (.b false))), m_ 37 36, q_ 38 37 true (.load false (some 3) (s_ 8) (.t 3)), q_ 39 37 true (.call (.f 151) [.t 38, (.c (.b false)), (.c (.b true))]), o_ 40 (.pick (.t 37) (.t 39) (.c (.b false))), o_ 41 (.call (.f 72) [.t 40])]) (.seq (.ops [o_ 42 (.fieldAddr (.t 4) 2 l_), o_ 43 (.load false (some 4) l_ (.t 42)), o_ 44 (.bi .lenL [.t 43]), o_ 45 (.mov (i_ 0))]) (.block 0 [] (qgS))))))), none, none⟩
def qjL : Fn := ⟨2, [.t 4], true, (.seq (.ops [o_ 2 (.box true (.t 0)), o_ 3 (.box true (.t 1)), o_ 4 (.mov (.c (.b false)))]) (.seq (.ops [o_ 5 (.fieldAddr (.t 2) 0 l_), o_ 6 (.load false (some 2) l_ (.t 5)), o_ 7 (.fieldAddr (.t 3) 0 l_), o_ 8 (.load false (some 3) l_ (.t 7)), o_ 9 (.bin .eql .num (.t 6) (.t 8)), m_ 10 9, q_ 11 10 true (.fieldAddr (.t 2) 1 (s_ 4)), q_ 12 10 true (.load false (some 2) (s_ 4) (.t 11)), q_ 13 10 true (.fieldAddr (.t 3) 1 (s_ 4)), q_ 14 10 true (.load false (some 3) (s_ 4) (.t 13)), q_ 15 10 true (.call (.f 252) [.t 12, (.t 14)]), o_ 16 (.pick (.t 10) (.t 15) (.c (.b false))), m_ 17 16, q_ 18 17 true (.fieldAddr (.t 2) 5 l_), q_ 19 17 true (.load false (some 2) l_ (.t 18)), q_ 20 17 true (.fieldAddr (.t 3) 5 l_), q_ 21 17 true (.load false (some 3) l_ (.t 20)), q_ 22 17 true (.bin .eql .num (.t 19) (.t 21)), o_ 23 (.pick (.t 17) (.t 22) (.c (.b false))), m_ 24 23, q_ 25 24 true (.fieldAddr (.t 2) 6 l_), q_ 26 24 true (.load false (some 2) l_ (.t 25)), q_ 27 24 true (.fieldAddr (.t 3) 6 l_), q_ 28 24 true (.load false (some 3) l_ (.t 27)), q_ 29 24 true (.bin .eql .num (.t 26) (.t 28)), o_ 30 (.pick (.t 24) (.t 29) (.c (.b false))), m_ 31 30, q_ 32 31 true (.fieldAddr (.t 2) 7 l_), q_ 33 31 true (.load false (some 2) l_ (.t 32)), q_ 34 31 true (.fieldAddr (.t 3) 7 l_), q_ 35 31 true (.load false (some 3) l_ (.t 34)), q_ 36 31 true (.call (.f 253) [.t 33, (.t 35), (.f 160)]), o_ 37 (.pick (.t 31) (.t 36) (.c (.b false))), m_ 4 37]) (.ret))), none, none⟩
def qmw : Fn := ⟨1, [.t 2], true, (.seq (.ops [o_ 2 (.mov (.c (.b false)))]) (.seq (.ops [m_ 3 0, o_ 4 (.bin .geq .num (.t 3) (i_ 1)), m_ 5 4, q_ 6 5 true (.mov (.t 0)), q_ 7 5 true (.bin .leq .num (.t 6) (i_ 4)), o_ 8 (.pick (.t 5) (.t 7) (.c (.b false))), m_ 2 8]) (.ret))), none, none⟩
def qjG : Fn := ⟨4, [], false, (.seq (.ops [o_ 4 (.box true (.t 0))]) (.ops [o_ 8 (.fieldAddr (.t 4) 1 l_), o_ 9 (.load false (some 4) l_ (.t 8)), o_ 10 (.bi .lenL [.t 9]), m_ 11 1, o_ 12 (.bin .eql .num (.t 10) (.t 11)), m_ 13 12, q_ 14 13 true (.fieldAddr (.t 4) 2 l_), q_ 15 13 true (.load false (some 4) l_ (.t 14)), q_ 16 13 true (.bi .lenL [.t 15]), q_ 17 13 true (.mov (.t 2)), q_ 18 13 true (.bin .eql .num (.t 16) (.t 17)), o_ 19 (.pick (.t 13) (.t 18) (.c (.b false))), m_ 20 19, q_ 21 20 true (.fieldAddr (.t 4) 3 l_), q_ 22 20 true (.load false (some 4) l_ (.t 21)), q_ 23 20 true (.bi .lenL [.t 22]), q_ 24 20 true (.mov (.t 3)), q_ 25 20 true (.bin .eql .num (.t 23) (.t 24)), o_ 26 (.pick (.t 20) (.t 25) (.c (.b false))), o_ 27 (.call (.f 72) [.t 26])])), none, none⟩
def qgz : Fn := ⟨1, [.t 2], true, (.seq (.ops [o_ 1 (.box true (.t 0)), o_ 2 (.mov (.c (.b false)))]) (.seq (.seq (.ops [o_ 3 (.fieldAddr (.t 1) 0 l_), o_ 4 (.load false (some 1) l_ (.t 3))]) (.block 0 [] (.seq (.seq (.ops [o_ 6 (.bin .eql .num (.t 4) (i_ 1)), m_ 5 6]) (.cond (.t 5) (.skip) (.seq (.ops [o_ 7 (.bin .eql .num (.t 4) (i_ 2)), m_ 5 7]) (.cond (.t 5) (.skip) (.seq (.ops [o_ 8 (.bin .eql .num (.t 4) (i_ 3)), m_ 5 8]) (.cond (.t 5) (.skip) (.seq (.ops [o_ 9 (.bin .eql .num (.t 4) (i_ 4)), m_ 5 9]) (.cond (.t 5) (.skip) (.ops [o_ 10 (.bin .eql .num (.t 4) (i_ 5)), m_ 5 10]))))))))) (.cond (.t 5) (.seq (.ops [o_ 2 (.mov (.c (.b true)))]) (.ret)) (.skip))))) (.seq (.ops [o_ 2 (.mov (.c (.b false)))]) (.ret)))), none, none⟩
def qdm : Fn := ⟨2, [.t 4], true, (.seq (.ops [o_ 3 (.box true (.t 1)), o_ 4 (.mov (.c (.b false)))]) (.seq (.seq (.ops [o_ 5 (.fieldAddr (.t 3) 0 l_), o_ 6 (.load false (some 3) l_ (.t 5))]) (.block 0 [3] (.seq (.ops [o_ 8 (.bin .eql .num (.t 6) (i_ 1)), m_ 7 8]) (.cond (.t 7) (.seq (.opsD [(o_ 9 (.fieldAddr (.t 3) 6 l_), true, []), (o_ 10 (.load false (some 3) l_ (.t 9)), true, []), (o_ 11 (.call (.f 244) [.t 10, (.c (.s [46]))]), true, []), (o_ 12 (.un .not (.t 11)), true, []), (m_ 13 12, true, []), (q_ 14 13 false (.fieldAddr (.t 3) 6 l_), false, []), (q_ 15 13 false (.load false (some 3) l_ (.t 14)), false, []), (q_ 16 13 false (.mov (.t 0)), false, []), (q_ 17 13 false (.nilCheck (.t 16)), false, []), (q_ 18 13 false (.fieldAddr (.t 17) 0 l_), false, []), (q_ 19 13 false (.load false none l_ (.t 18)), false, []), (q_ 20 13 false (.bin .add .num (.t 19) (.c (.s [46]))), false, []), (q_ 21 13 false (.call (.f 255) [.t 15, (.t 20)]), true, []), (o_ 22 (.pick (.t 13) (.c (.b true)) (.t 21)), true, []), (m_ 4 22, true, [])]) (.ret)) (.seq (.seq (.ops [o_ 24 (.bin .eql .num (.t 6) (i_ 2)), m_ 23 24]) (.cond (.t 23) (.skip) (.ops [o_ 25 (.bin .eql .num (.t 6) (i_ 3)), m_ 23 25]))) (.cond (.t 23) (.seq (.ops [o_ 26 (.fieldAddr (.t 3) 7 l_), o_ 27 (.load false (some 3) l_ (.t 26)), o_ 28 (.bi .lenL [.t 27]), o_ 29 (.bin .gtr .num (.t 28) (i_ 0)), m_ 30 29, q_ 31 30 true (.mov (.t 0)), q_ 32 30 true (.fieldAddr (.t 3) 7 l_), q_ 33 30 true (.load false (some 3) l_ (.t 32)), q_ 34 30 true (.indexAddr (.t 33) (i_ 0) 8 none), q_ 35 30 true (.load false none (s_ 8) (.t 34)), q_ 36 30 true (.call (.f 166) [.t 31, (.t 35)]), o_ 37 (.pick (.t 30) (.t 36) (.c (.b false))), m_ 4 37]) (.ret)) (.skip))))))) (.seq (.ops [o_ 38 (.fieldAddr (.t 3) 0 l_), o_ 39 (.load false (some 3) l_ (.t 38)), o_ 40 (.bin .eql .num (.t 39) (i_ 4)), m_ 4 40]) (.ret)))), none, none⟩
def qeH : C := (.seq (.ops [o_ 53 (.bin .lss .num (.t 52) (.t 51))]) (.seq (.cond (.t 53) (.skip) (.exit 1)) (.seq (.block 2 [0, 3, 50, 51, 52] (.seq (.ops [o_ 54 (.indexAddr (.t 50) (.t 52) 8 none), o_ 55 (.load false none (s_ 8) (.t 54)), o_ 5 (.alloc true [(.i .i64 0), (.i .i64 0), (.i .i64 0), (.s []), .nil, (.i .i32 0), (.s []), .nil]), z_ (.store (some 5) (s_ 8) (.t 5) (.t 55))]) (.ops [m_ 56 0, o_ 57 (.load false (some 5) (s_ 8) (.t 5)), o_ 58 (.call (.f 71) [.t 56, (.t 57)])]))) (.ops [o_ 59 (.bin .add .num (.t 52) (i_ 1)), m_ 52 59]))))
def qeQ : C := .loop [0, 3, 50, 51, 52] qeH
def qez : C := (.seq (.opsD [(m_ 60 0, false, []), (o_ 61 (.nilCheck (.t 60)), false, []), (o_ 62 (.fieldAddr (.t 61) 8 l_), false, []), (o_ 63 (.load false none l_ (.t 62)), false, []), (o_ 64 (.load false (some 3) (s_ 4) (.t 3)), false, []), (o_ 65 (.call (.f 256) [.t 63, (.t 64)]), true, [])]) (.ops [o_ 66 (.call (.f 72) [.t 65])]))
def qcp : Fn := ⟨2, [], false, (.seq (.ops [o_ 3 (.box true (.t 1))]) (.seq (.ops [o_ 6 (.fieldAddr (.t 3) 0 l_), o_ 7 (.load false (some 3) l_ (.t 6)), o_ 8 (.bin .geq .num (.t 7) (i_ 7)), m_ 9 8, q_ 10 9 true (.fieldAddr (.t 3) 0 l_), q_ 11 9 true (.load false (some 3) l_ (.t 10)), q_ 12 9 true (.bin .leq .num (.t 11) (i_ 17)), o_ 13 (.pick (.t 9) (.t 12) (.c (.b false))), m_ 14 13, q_ 15 14 true (.fieldAddr (.t 3) 2 l_), q_ 16 14 true (.load false (some 3) l_ (.t 15)), q_ 17 14 true (.bi .lenL [.t 16]), q_ 18 14 true (.bin .eql .num (.t 17) (i_ 0)), o_ 19 (.pick (.t 14) (.t 18) (.c (.b false))), m_ 20 19, q_ 21 20 true (.fieldAddr (.t 3) 3 l_), q_ 22 20 true (.load false (some 3) l_ (.t 21)), q_ 23 20 true (.bi .lenL [.t 22]), q_ 24 20 true (.bin .eql .num (.t 23) (i_ 0)), o_ 25 (.pick (.t 20) (.t 24) (.c (.b false))), o_ 26 (.call (.f 72) [.t 25])]) (.seq (.block 0 [0, 3] (.seq (.ops [o_ 28 (.fieldAddr (.t 3) 0 l_), o_ 29 (.load false (some 3) l_ (.t 28)), o_ 30 (.bin .eql .num (.t 29) (i_ 13)), m_ 27 30]) (.cond (.t 27) (.ops [m_ 31 0, o_ 32 (.nilCheck (.t 31)), o_ 33 (.fieldAddr (.t 32) 0 (s_ 8)), o_ 34 (.fieldAddr (.t 33) 1 l_), o_ 35 (.load false none l_ (.t 34)), o_ 36 (.call (.f 84) [.t 35, (.c (.s [73, 110]))]), o_ 37 (.call (.f 65) [.t 36])]) (.seq (.ops [o_ 39 (.fieldAddr (.t 3) 0 l_), o_ 40 (.load false (some 3) l_ (.t 39)), o_ 41 (.bin .gtr .num (.t 40) (i_ 13)), m_ 38 41]) (.cond (.t 38) (.ops [m_ 42 0, o_ 43 (.nilCheck (.t 42)), o_ 44 (.fieldAddr (.t 43) 0 (s_ 8)), o_ 45 (.fieldAddr (.t 44) 1 l_), o_ 46 (.load false none l_ (.t 45)), o_ 47 (.call (.f 84) [.t 46, (.c (.s [79, 117, 116]))]), o_ 48 (.call (.f 65) [.t 47])]) (.skip)))))) (.seq (.seq (.ops [o_ 49 (.fieldAddr (.t 3) 1 l_), o_ 50 (.load false (some 3) l_ (.t 49)), o_ 51 (.bi .lenL [.t 50]), o_ 52 (.mov (i_ 0))]) (.block 1 [0, 3] (qeQ))) (qez))))), none, none⟩
def zm : C := (.seq ((.seq (.opsD [(⟨some 8, .mov (.t 0), none⟩, false, []), (⟨some 9, .nilCheck (.t 8), none⟩, false, []), (⟨some 10, .fieldAddr (.t 9) 1 ⟨1, false⟩, none⟩, false, []), (⟨some 11, .load false none ⟨1, false⟩ (.t 10), none⟩, false, []), (⟨some 12, .mov (.t 0), none⟩, false, []), (⟨some 13, .nilCheck (.t 12), none⟩, false, []), (⟨some 14, .fieldAddr (.t 13) 0 ⟨1, false⟩, none⟩, false, []), (⟨some 15, .load false none ⟨1, false⟩ (.t 14), none⟩, false, []), (⟨some 16, .bi .lenS [.t 15], none⟩, false, []), (⟨some 17, .bin .lss .num (.t 11) (.t 16), none⟩, true, [])]) ((.cond (.t 17) (.skip) (.exit 0))))) ((.block 1 [0, 2, 3] ((.block 2 [0, 2, 3] ((.seq (.ops [⟨some 19, .mov (.t 0), none⟩,
 ⟨some 20, .call (.f 178) [.t 19, (.c (.s [40, 42]))], none⟩,
 ⟨some 18, .mov (.mv 20), none⟩]) ((.cond (.t 18) ((.seq ((.seq (.ops [⟨some 21, .mov (.t 3), none⟩,
 ⟨some 22, .bin .eql .num (.t 21) (.c (.i .i64 0)), none⟩]) ((.cond (.t 22) (.ops [⟨some 23, .mov (.t 0), none⟩,
 ⟨some 24, .nilCheck (.t 23), none⟩,
 ⟨some 25, .fieldAddr (.t 24) 1 ⟨1, false⟩, none⟩,
 ⟨some 26, .load false none ⟨1, false⟩ (.t 25), none⟩,
 ⟨some 2, .mov (.t 26), none⟩]) (.skip))))) ((.seq (.ops [⟨some 27, .mov (.t 3), none⟩,
 ⟨some 28, .bin .add .num (.t 27) (.c (.i .i64 1)), none⟩,
 ⟨some 3, .mov (.t 28), none⟩]) (.ops [⟨some 29, .mov (.t 0), none⟩,
 ⟨some 30, .nilCheck (.t 29), none⟩,
 ⟨some 31, .fieldAddr (.t 30) 1 ⟨1, false⟩, none⟩,
 ⟨some 32, .load false none ⟨1, false⟩ (.t 31), none⟩,
 ⟨some 33, .bin .add .num (.t 32) (.c (.i .i64 2)), none⟩,
 ⟨some 34, .nilCheck (.t 29), none⟩,
 ⟨some 35, .fieldAddr (.t 34) 1 ⟨1, false⟩, none⟩,
 ⟨none, .store none ⟨1, false⟩ (.t 35) (.t 33), none⟩]))))) ((.seq (.ops [⟨some 37, .mov (.t 3), none⟩,
 ⟨some 38, .bin .gtr .num (.t 37) (.c (.i .i64 0)), none⟩,
 ⟨some 39, .mov (.t 38), none⟩,
 ⟨some 40, .mov (.t 0), some (39, true)⟩,
 ⟨some 41, .call (.f 178) [.t 40, (.c (.s [42, 41]))], some (39, true)⟩,
 ⟨some 42, .pick (.t 39) (.t 41) (.c (.b false)), none⟩,
 ⟨some 36, .mov (.t 42), none⟩]) ((.cond (.t 36) ((.seq (.ops [⟨some 43, .mov (.t 3), none⟩,
 ⟨some 44, .bin .sub .num (.t 43) (.c (.i .i64 1)), none⟩,
 ⟨some 3, .mov (.t 44), none⟩]) (.ops [⟨some 45, .mov (.t 0), none⟩,
 ⟨some 46, .nilCheck (.t 45), none⟩,
 ⟨some 47, .fieldAddr (.t 46) 1 ⟨1, false⟩, none⟩,
 ⟨some 48, .load false none ⟨1, false⟩ (.t 47), none⟩,
 ⟨some 49, .bin .add .num (.t 48) (.c (.i .i64 2)), none⟩,
 ⟨some 50, .nilCheck (.t 45), none⟩,
 ⟨some 51, .fieldAddr (.t 50) 1 ⟨1, false⟩, none⟩,
 ⟨none, .store none ⟨1, false⟩ (.t 51) (.t 49), none⟩]))) ((.seq (.opsD [(⟨some 53, .mov (.t 3), none⟩, true, []), (⟨some 54, .bin .gtr .num (.t 53) (.c (.i .i64 0)), none⟩, true, []), (⟨some 55, .mov (.t 54), none⟩, true, []), (⟨some 56, .mov (.t 0), some (55, false)⟩, false, []), (⟨some 57, .nilCheck (.t 56), some (55, false)⟩, false, []), (⟨some 58, .fieldAddr (.t 57) 0 ⟨1, false⟩, some (55, false)⟩, false, []), (⟨some 59, .load false none ⟨1, false⟩ (.t 58), some (55, false)⟩, false, []), (⟨some 60, .mov (.t 0), some (55, false)⟩, false, []), (⟨some 61, .nilCheck (.t 60), some (55, false)⟩, false, []), (⟨some 62, .fieldAddr (.t 61) 1 ⟨1, false⟩, some (55, false)⟩, false, []), (⟨some 63, .load false none ⟨1, false⟩ (.t 62), some (55, false)⟩, false, []), (⟨some 64, .index (.t 59) (.t 63), some (55, false)⟩, true, []), (⟨some 65, .call (.f 257) [(.c (.s [9, 10, 13, 32])), (.t 64)], some (55, false)⟩, true, []), (⟨some 66, .bin .geq .num (.t 65) (.c (.i .i64 0)), some (55, false)⟩, true, []), (⟨some 67, .pick (.t 55) (.c (.b true)) (.t 66), none⟩, true, []), (⟨some 52, .mov (.t 67), none⟩, true, [])]) ((.cond (.t 52) (.ops [⟨some 68, .mov (.t 0), none⟩,
 ⟨some 69, .nilCheck (.t 68), none⟩,
 ⟨some 70, .fieldAddr (.t 69) 1 ⟨1, false⟩, none⟩,
 ⟨some 71, .load false none ⟨1, false⟩ (.t 70), none⟩,
 ⟨some 72, .bin .add .num (.t 71) (.c (.i .i64 1)), none⟩,
 ⟨some 73, .nilCheck (.t 68), none⟩,
 ⟨some 74, .fieldAddr (.t 73) 1 ⟨1, false⟩, none⟩,
 ⟨none, .store none ⟨1, false⟩ (.t 74) (.t 72), none⟩]) (.ret))))))))))))))))))
def ya : C := .loop [0, 2, 3] zm
noncomputable def jl (pg : Pg) (v0 v2 v3 : V) (H : List Obj) (lo : Nat) : Option (Ex × St) := exL pg ya ⟨[(0, v0), (2, v2), (3, v3)], H, lo⟩
theorem zP {pg : Pg} {e : Env} {H : List Obj} {lo : Nat} : exL pg ya ⟨e, H, lo⟩ = jl pg (kH (get 0 e)) (kH (get 2 e)) (kH (get 3 e)) H lo := qhJ
theorem jG {pg : Pg} {v0 v2 v3 : V} {H : List Obj} {lo : Nat} : jl pg v0 v2 v3 H lo = qbd pg (exL pg zm ⟨[(0, kH v0), (2, kH v2), (3, kH v3)], H, lo⟩) ya := by
  unfold jl ya; rw [qcM]; simp only [qj, qo, qC, qD, Nat.reduceEqDiff]
def jm : C := (.seq (.ops [⟨some 75, .mov (.t 3), none⟩, ⟨some 76, .bin .gtr .num (.t 75) (.c (.i .i64 0)), none⟩]) ((.cond (.t 76) (.ops [⟨some 77, .mov (.mv 2), none⟩, ⟨some 78, .call (.f 258) [.mv 77, (.c (.i .i64 30))], none⟩]) (.skip))))
def qaj : Fn := ⟨1, [], false, (.seq (.ops [⟨some 4, .mov (.t 0), none⟩, ⟨some 5, .nilCheck (.t 4), none⟩, ⟨some 6, .fieldAddr (.t 5) 1 ⟨1, false⟩, none⟩, ⟨some 7, .load false none ⟨1, false⟩ (.t 6), none⟩, ⟨some 2, .mov (.t 7), none⟩, ⟨some 3, .mov (.c (.i .i64 0)), none⟩]) ((.seq ((.block 0 [2, 3] (ya))) (jm)))), none, none⟩
def qet : Fn := ⟨1, [.t 2], true, (.seq (.ops [⟨some 2, .mov (.c (.b false)), none⟩]) ((.seq (.ops [⟨some 3, .mov (.t 0), none⟩, ⟨some 4, .bin .geq .num (.t 3) (.c (.i .u8 97)), none⟩, ⟨some 5, .mov (.t 4), none⟩, ⟨some 6, .mov (.t 0), some (5, true)⟩, ⟨some 7, .bin .leq .num (.t 6) (.c (.i .u8 122)), some (5, true)⟩, ⟨some 8, .pick (.t 5) (.t 7) (.c (.b false)), none⟩, ⟨some 9, .mov (.t 8), none⟩, ⟨some 10, .mov (.t 0), some (9, false)⟩, ⟨some 11, .bin .geq .num (.t 10) (.c (.i .u8 65)), some (9, false)⟩, ⟨some 12, .mov (.t 11), some (9, false)⟩, ⟨some 13, .mov (.t 0), some (12, true)⟩, ⟨some 14, .bin .leq .num (.t 13) (.c (.i .u8 90)), some (12, true)⟩, ⟨some 15, .pick (.t 12) (.t 14) (.c (.b false)), some (9, false)⟩, ⟨some 16, .pick (.t 9) (.c (.b true)) (.t 15), none⟩, ⟨some 2, .mov (.t 16), none⟩]) (.ret)))), none, none⟩
def yi : Fn := ⟨1, [(.cell 2 ⟨5, true⟩)], true, (.seq (.ops [⟨some 2, .alloc true [(.i .i64 0), (.i .i64 0), (.i .i64 0), (.s []), (.i .i32 0)], none⟩]) ((.seq (.ops [⟨some 5, .mov (.t 0), none⟩, ⟨some 6, .nilCheck (.t 5), none⟩, ⟨some 7, .fieldAddr (.t 6) 1 ⟨1, false⟩, none⟩, ⟨some 8, .load false none ⟨1, false⟩ (.t 7), none⟩, ⟨some 3, .mov (.t 8), none⟩]) ((.seq (.ops [⟨some 9, .mov (.mv 0), none⟩, ⟨some 10, .call (.f 259) [.mv 9, (.f 260)], none⟩, ⟨some 4, .mov (.mv 10), none⟩]) ((.seq ((.block 0 [2, 4] ((.seq (.ops [⟨some 12, .mov (.t 4), none⟩, ⟨some 13, .bi .lenS [.t 12], none⟩, ⟨some 14, .bin .gtr .num (.t 13) (.c (.i .i64 32)), none⟩, ⟨some 11, .mov (.t 14), none⟩]) ((.cond (.t 11) (.ops [⟨some 15, .mov (.mv 3), none⟩, ⟨some 16, .call (.f 258) [.mv 15, (.c (.i .i64 34))], none⟩]) ((.seq (.ops [⟨some 18, .call (.f 261) [], none⟩, ⟨some 19, .mov (.t 4), none⟩, ⟨some 20, .call (.f 84) [.t 18, (.t 19)], none⟩, ⟨some 17, .mov (.mv 20), none⟩]) ((.cond (.t 17) ((.seq (.ops [⟨some 21, .mov (.t 4), none⟩, ⟨some 22, .build [(.i .i64 0), (.i .i64 0), (.i .i64 0), (.s []), (.i .i32 0)] [(0, 1, (.c (.i .i64 6))), (3, 1, (.t 21))], none⟩, ⟨none, .store (some 2) ⟨5, true⟩ (.t 2) (.t 22), none⟩]) (.ret))) (.skip))))))))))) ((.seq (.ops [⟨some 23, .mov (.t 4), none⟩, ⟨some 24, .build [(.i .i64 0), (.i .i64 0), (.i .i64 0), (.s []), (.i .i32 0)] [(0, 1, (.c (.i .i64 1))), (3, 1, (.t 23))], none⟩, ⟨none, .store (some 2) ⟨5, true⟩ (.t 2) (.t 24), none⟩]) (.ret)))))))))), none, none⟩
def qfx : Fn := ⟨1, [.t 2], true, (.seq (.ops [⟨some 2, .mov (.c (.b false)), none⟩]) ((.seq (.ops [⟨some 3, .mov (.t 0), none⟩, ⟨some 4, .bin .geq .num (.t 3) (.c (.i .u8 48)), none⟩, ⟨some 5, .mov (.t 4), none⟩, ⟨some 6, .mov (.t 0), some (5, true)⟩, ⟨some 7, .bin .leq .num (.t 6) (.c (.i .u8 57)), some (5, true)⟩, ⟨some 8, .pick (.t 5) (.t 7) (.c (.b false)), none⟩, ⟨some 2, .mov (.t 8), none⟩]) (.ret)))), none, none⟩
def zM : Fn := ⟨1, [(.cell 2 ⟨5, true⟩)], true, (.seq (.ops [⟨some 2, .alloc true [(.i .i64 0), (.i .i64 0), (.i .i64 0), (.s []), (.i .i32 0)], none⟩]) ((.seq (.ops [⟨some 10, .mov (.t 0), none⟩,
 ⟨some 11, .nilCheck (.t 10), none⟩,
 ⟨some 12, .fieldAddr (.t 11) 1 ⟨1, false⟩, none⟩,
 ⟨some 13, .load false none ⟨1, false⟩ (.t 12), none⟩,
 ⟨some 3, .mov (.t 13), none⟩]) ((.seq (.ops [⟨some 14, .mov (.t 0), none⟩,
 ⟨some 15, .call (.f 259) [.t 14, (.f 262)], none⟩,
 ⟨some 4, .mov (.mv 15), none⟩]) ((.seq (.ops [⟨some 5, .mov (.c (.i .i64 2)), none⟩,
 ⟨some 6, .mov (.c (.i .i64 10)), none⟩,
 ⟨some 7, .mov (.c (.i .i64 31)), none⟩]) ((.seq ((.block 0 [2, 3, 4, 5, 6, 7] ((.seq (.ops [⟨some 17, .mov (.t 0), none⟩,
 ⟨some 18, .call (.f 178) [.t 17, (.c (.s [72]))], none⟩,
 ⟨some 16, .mov (.mv 18), none⟩]) ((.cond (.t 16) ((.seq (.ops [⟨some 6, .mov (.c (.i .i64 16)), none⟩,
 ⟨some 7, .mov (.c (.i .i64 32)), none⟩]) (.ops [⟨some 19, .mov (.t 0), none⟩,
 ⟨some 20, .nilCheck (.t 19), none⟩,
 ⟨some 21, .fieldAddr (.t 20) 1 ⟨1, false⟩, none⟩,
 ⟨some 22, .load false none ⟨1, false⟩ (.t 21), none⟩,
 ⟨some 23, .bin .add .num (.t 22) (.c (.i .i64 1)), none⟩,
 ⟨some 24, .nilCheck (.t 19), none⟩,
 ⟨some 25, .fieldAddr (.t 24) 1 ⟨1, false⟩, none⟩,
 ⟨none, .store none ⟨1, false⟩ (.t 25) (.t 23), none⟩]))) ((.seq (.ops [⟨some 27, .mov (.t 0), none⟩,
 ⟨some 28, .call (.f 178) [.t 27, (.c (.s [88]))], none⟩,
 ⟨some 26, .mov (.mv 28), none⟩]) ((.cond (.t 26) ((.seq (.ops [⟨some 5, .mov (.c (.i .i64 3)), none⟩,
 ⟨some 6, .mov (.c (.i .i64 16)), none⟩,
 ⟨some 7, .mov (.c (.i .i64 8)), none⟩]) (.ops [⟨some 29, .mov (.t 0), none⟩,
 ⟨some 30, .nilCheck (.t 29), none⟩,
 ⟨some 31, .fieldAddr (.t 30) 1 ⟨1, false⟩, none⟩,
 ⟨some 32, .load false none ⟨1, false⟩ (.t 31), none⟩,
 ⟨some 33, .bin .add .num (.t 32) (.c (.i .i64 1)), none⟩,
 ⟨some 34, .nilCheck (.t 29), none⟩,
 ⟨some 35, .fieldAddr (.t 34) 1 ⟨1, false⟩, none⟩,
 ⟨none, .store none ⟨1, false⟩ (.t 35) (.t 33), none⟩]))) (.skip))))))))))) ((.seq (.ops [⟨some 37, .mov (.mv 4), none⟩,
 ⟨some 38, .mov (.mv 6), none⟩,
 ⟨some 39, .mov (.mv 7), none⟩,
 ⟨some 40, .call (.f 263) [.mv 37, (.mv 38), (.mv 39)], none⟩,
 ⟨some 36, .mov (.t 40), none⟩,
 ⟨some 41, .extract (.t 36) 0, none⟩,
 ⟨some 42, .extract (.t 36) 1, none⟩,
 ⟨some 8, .mov (.t 41), none⟩,
 ⟨some 9, .mov (.t 42), none⟩]) ((.seq ((.seq (.ops [⟨some 43, .mov (.t 9), none⟩,
 ⟨some 44, .bin .neq .iface (.t 43) (.c .ni), none⟩]) ((.cond (.t 44) (.ops [⟨some 45, .mov (.mv 3), none⟩,
 ⟨some 46, .call (.f 258) [.mv 45, (.c (.i .i64 30))], none⟩]) (.skip))))) ((.seq (.ops [⟨some 47, .mov (.t 5), none⟩,
 ⟨some 48, .mov (.t 8), none⟩,
 ⟨some 49, .conv .u32 (.t 48), none⟩,
 ⟨some 50, .conv .i32 (.t 49), none⟩,
 ⟨some 51, .build [(.i .i64 0), (.i .i64 0), (.i .i64 0), (.s []), (.i .i32 0)] [(0, 1, (.t 47)), (4, 1, (.t 50))], none⟩,
 ⟨none, .store (some 2) ⟨5, true⟩ (.t 2) (.t 51), none⟩]) (.ret)))))))))))))))), none, none⟩
def qbw : Fn := ⟨2, [.t 4], true, (.seq (.ops [⟨some 4, .mov (.c (.b false)), none⟩]) ((.seq (.opsD [(⟨some 5, .mov (.t 0), none⟩, false, []), (⟨some 6, .nilCheck (.t 5), none⟩, false, []), (⟨some 7, .fieldAddr (.t 6) 0 ⟨1, false⟩, none⟩, false, []), (⟨some 8, .load false none ⟨1, false⟩ (.t 7), none⟩, false, []), (⟨some 9, .mov (.t 0), none⟩, false, []), (⟨some 10, .nilCheck (.t 9), none⟩, false, []), (⟨some 11, .fieldAddr (.t 10) 1 ⟨1, false⟩, none⟩, false, []), (⟨some 12, .load false none ⟨1, false⟩ (.t 11), none⟩, false, []), (⟨some 13, .sliceS (.t 8) (some (.t 12)) none, none⟩, false, []), (⟨some 14, .mov (.mv 1), none⟩, false, []), (⟨some 15, .call (.f 255) [.t 13, (.mv 14)], none⟩, true, []), (⟨some 4, .mov (.mv 15), none⟩, true, [])]) (.ret)))), none, none⟩
def yl : Fn := ⟨1, [(.cell 2 ⟨5, true⟩)], true, (.seq (.ops [⟨some 2, .alloc true [(.i .i64 0), (.i .i64 0), (.i .i64 0), (.s []), (.i .i32 0)], none⟩]) ((.seq (.ops [⟨some 5, .mov (.t 0), none⟩,
 ⟨some 6, .nilCheck (.t 5), none⟩,
 ⟨some 7, .fieldAddr (.t 6) 1 ⟨1, false⟩, none⟩,
 ⟨some 8, .load false none ⟨1, false⟩ (.t 7), none⟩,
 ⟨some 3, .mov (.t 8), none⟩]) ((.seq (.ops [⟨some 9, .mov (.t 0), none⟩,
 ⟨some 10, .nilCheck (.t 9), none⟩,
 ⟨some 11, .fieldAddr (.t 10) 1 ⟨1, false⟩, none⟩,
 ⟨some 12, .load false none ⟨1, false⟩ (.t 11), none⟩,
 ⟨some 13, .bin .add .num (.t 12) (.c (.i .i64 1)), none⟩,
 ⟨some 14, .nilCheck (.t 9), none⟩,
 ⟨some 15, .fieldAddr (.t 14) 1 ⟨1, false⟩, none⟩,
 ⟨none, .store none ⟨1, false⟩ (.t 15) (.t 13), none⟩]) ((.seq (.ops [⟨some 16, .mov (.t 0), none⟩,
 ⟨some 17, .call (.f 259) [.t 16, (.f 264)], none⟩,
 ⟨some 4, .mov (.mv 17), none⟩]) ((.seq ((.block 0 [0, 2, 4] ((.seq (.ops [⟨some 19, .mov (.t 0), none⟩,
 ⟨some 20, .call (.f 178) [.t 19, (.c (.s [34]))], none⟩,
 ⟨some 21, .un .not (.t 20), none⟩,
 ⟨some 18, .mov (.t 21), none⟩]) ((.cond (.t 18) (.ops [⟨some 22, .mov (.mv 3), none⟩,
 ⟨some 23, .call (.f 258) [.mv 22, (.c (.i .i64 30))], none⟩]) ((.seq (.ops [⟨some 25, .mov (.t 4), none⟩,
 ⟨some 26, .bi .lenS [.t 25], none⟩,
 ⟨some 27, .bin .gtr .num (.t 26) (.c (.i .i64 120)), none⟩,
 ⟨some 24, .mov (.t 27), none⟩]) ((.cond (.t 24) (.ops [⟨some 28, .mov (.mv 3), none⟩,
 ⟨some 29, .call (.f 258) [.mv 28, (.c (.i .i64 34))], none⟩]) (.skip))))))))))) ((.seq (.ops [⟨some 30, .mov (.t 0), none⟩,
 ⟨some 31, .nilCheck (.t 30), none⟩,
 ⟨some 32, .fieldAddr (.t 31) 1 ⟨1, false⟩, none⟩,
 ⟨some 33, .load false none ⟨1, false⟩ (.t 32), none⟩,
 ⟨some 34, .bin .add .num (.t 33) (.c (.i .i64 1)), none⟩,
 ⟨some 35, .nilCheck (.t 30), none⟩,
 ⟨some 36, .fieldAddr (.t 35) 1 ⟨1, false⟩, none⟩,
 ⟨none, .store none ⟨1, false⟩ (.t 36) (.t 34), none⟩]) ((.seq (.ops [⟨some 37, .mov (.t 4), none⟩,
 ⟨some 38, .build [(.i .i64 0), (.i .i64 0), (.i .i64 0), (.s []), (.i .i32 0)] [(0, 1, (.c (.i .i64 4))), (3, 1, (.t 37))], none⟩,
 ⟨none, .store (some 2) ⟨5, true⟩ (.t 2) (.t 38), none⟩]) (.ret)))))))))))))), none, none⟩
def zU : C := (.seq (.ops [⟨some 8, .bin .lss .num (.t 7) (.t 6), none⟩]) ((.seq ((.cond (.t 8) (.skip) (.exit 0))) ((.seq ((.block 1 [0, 2, 5, 6, 7] ((.seq (.ops [⟨some 9, .indexAddr (.t 5) (.t 7) 1 none, none⟩, ⟨some 10, .loadC ⟨1, false⟩ (.t 9), none⟩, ⟨some 4, .mov (.t 10), none⟩]) ((.seq (.ops [⟨some 11, .mov (.t 0), none⟩, ⟨some 12, .mov (.t 4), none⟩, ⟨some 13, .call (.f 178) [.t 11, (.t 12)], none⟩]) ((.cond (.t 13) ((.seq (.ops [⟨some 14, .mov (.t 0), none⟩, ⟨some 15, .nilCheck (.t 14), none⟩, ⟨some 16, .fieldAddr (.t 15) 1 ⟨1, false⟩, none⟩, ⟨some 17, .load false none ⟨1, false⟩ (.t 16), none⟩, ⟨some 18, .mov (.t 4), none⟩, ⟨some 19, .bi .lenS [.t 18], none⟩, ⟨some 20, .bin .add .num (.t 17) (.t 19), none⟩, ⟨some 21, .nilCheck (.t 14), none⟩, ⟨some 22, .fieldAddr (.t 21) 1 ⟨1, false⟩, none⟩, ⟨none, .store none ⟨1, false⟩ (.t 22) (.t 20), none⟩]) ((.seq (.ops [⟨some 23, .mov (.t 4), none⟩, ⟨some 24, .build [(.i .i64 0), (.i .i64 0), (.i .i64 0), (.s []), (.i .i32 0)] [(0, 1, (.c (.i .i64 5))), (3, 1, (.t 23))], none⟩, ⟨none, .store (some 2) ⟨5, true⟩ (.t 2) (.t 24), none⟩]) (.ret))))) (.skip))))))))) (.ops [⟨some 25, .bin .add .num (.t 7) (.c (.i .i64 1)), none⟩, ⟨some 7, .mov (.t 25), none⟩]))))))
def yd : C := .loop [0, 2, 5, 6, 7] zU
noncomputable def qbC (pg : Pg) (v0 v2 v5 v6 v7 : V) (H : List Obj) (lo : Nat) : Option (Ex × St) := exL pg yd ⟨[(0, v0), (2, v2), (5, v5), (6, v6), (7, v7)], H, lo⟩
theorem jj {pg : Pg} {e : Env} {H : List Obj} {lo : Nat} : exL pg yd ⟨e, H, lo⟩ = qbC pg (kH (get 0 e)) (kH (get 2 e)) (kH (get 5 e)) (kH (get 6 e)) (kH (get 7 e)) H lo := qhJ
theorem jk {pg : Pg} {v0 v2 v5 v6 v7 : V} {H : List Obj} {lo : Nat} : qbC pg v0 v2 v5 v6 v7 H lo = qbd pg (exL pg zU ⟨[(0, kH v0), (2, kH v2), (5, kH v5), (6, kH v6), (7, kH v7)], H, lo⟩) yd := by
  unfold qbC yd; rw [qcM]; simp only [qj, qo, qC, qD, Nat.reduceEqDiff]
def qbu : C := (.seq ((.seq (.opsD [(⟨some 26, .mov (.t 0), none⟩, false, []), (⟨some 27, .nilCheck (.t 26), none⟩, false, []), (⟨some 28, .fieldAddr (.t 27) 0 ⟨1, false⟩, none⟩, false, []), (⟨some 29, .load false none ⟨1, false⟩ (.t 28), none⟩, false, []), (⟨some 30, .mov (.t 0), none⟩, false, []), (⟨some 31, .nilCheck (.t 30), none⟩, false, []), (⟨some 32, .fieldAddr (.t 31) 1 ⟨1, false⟩, none⟩, false, []), (⟨some 33, .load false none ⟨1, false⟩ (.t 32), none⟩, false, []), (⟨some 34, .index (.t 29) (.t 33), none⟩, true, []), (⟨some 35, .call (.f 257) [(.c (.s [43, 45, 42, 47, 38, 126, 61, 35, 60, 62, 46, 44, 59, 58, 40, 41, 91, 93, 123, 125, 94, 124])), (.t 34)], none⟩, true, []), (⟨some 36, .bin .lss .num (.t 35) (.c (.i .i64 0)), none⟩, true, [])]) ((.cond (.t 36) (.ops [⟨some 37, .mov (.t 0), none⟩,
 ⟨some 38, .nilCheck (.t 37), none⟩,
 ⟨some 39, .fieldAddr (.t 38) 1 ⟨1, false⟩, none⟩,
 ⟨some 40, .load false none ⟨1, false⟩ (.t 39), none⟩,
 ⟨some 41, .call (.f 258) [.t 40, (.c (.i .i64 30))], none⟩]) (.skip))))) ((.seq (.ops [⟨some 42, .mov (.t 0), none⟩,
 ⟨some 43, .nilCheck (.t 42), none⟩,
 ⟨some 44, .fieldAddr (.t 43) 1 ⟨1, false⟩, none⟩,
 ⟨some 45, .load false none ⟨1, false⟩ (.t 44), none⟩,
 ⟨some 46, .bin .add .num (.t 45) (.c (.i .i64 1)), none⟩,
 ⟨some 47, .nilCheck (.t 42), none⟩,
 ⟨some 48, .fieldAddr (.t 47) 1 ⟨1, false⟩, none⟩,
 ⟨none, .store none ⟨1, false⟩ (.t 48) (.t 46), none⟩]) ((.seq (.opsD [(⟨some 49, .mov (.t 0), none⟩, false, []), (⟨some 50, .nilCheck (.t 49), none⟩, false, []), (⟨some 51, .fieldAddr (.t 50) 0 ⟨1, false⟩, none⟩, false, []), (⟨some 52, .load false none ⟨1, false⟩ (.t 51), none⟩, false, []), (⟨some 53, .mov (.t 0), none⟩, false, []), (⟨some 54, .nilCheck (.t 53), none⟩, false, []), (⟨some 55, .fieldAddr (.t 54) 1 ⟨1, false⟩, none⟩, false, []), (⟨some 56, .load false none ⟨1, false⟩ (.t 55), none⟩, false, []), (⟨some 57, .bin .sub .num (.t 56) (.c (.i .i64 1)), none⟩, false, []), (⟨some 58, .mov (.t 0), none⟩, false, []), (⟨some 59, .nilCheck (.t 58), none⟩, false, []), (⟨some 60, .fieldAddr (.t 59) 1 ⟨1, false⟩, none⟩, false, []), (⟨some 61, .load false none ⟨1, false⟩ (.t 60), none⟩, false, []), (⟨some 62, .sliceS (.t 52) (some (.t 57)) (some (.t 61)), none⟩, true, []), (⟨some 63, .build [(.i .i64 0), (.i .i64 0), (.i .i64 0), (.s []), (.i .i32 0)] [(0, 1, (.c (.i .i64 5))), (3, 1, (.t 62))], none⟩, true, []), (⟨none, .store (some 2) ⟨5, true⟩ (.t 2) (.t 63), none⟩, true, [])]) (.ret))))))
def je : Fn := ⟨1, [(.cell 2 ⟨5, true⟩)], true, (.seq (.ops [⟨some 2, .alloc true [(.i .i64 0), (.i .i64 0), (.i .i64 0), (.s []), (.i .i32 0)], none⟩]) ((.seq ((.seq (.ops [⟨some 5, .buildSlice (.s []) 4 [(0, (.c (.s [60, 61]))), (1, (.c (.s [62, 61]))), (2, (.c (.s [58, 61]))), (3, (.c (.s [46, 46])))], none⟩, ⟨some 6, .bi .lenL [.t 5], none⟩, ⟨some 7, .mov (.c (.i .i64 0)), none⟩]) ((.block 0 [0, 2] (yd))))) (qbu)))), none, none⟩
def zJ : C := (.seq (.ops [⟨some 9, .bin .lss .num (.t 8) (.t 7), none⟩]) ((.seq ((.cond (.t 9) (.skip) (.exit 0))) ((.seq ((.block 1 [0, 1, 7, 8] ((.seq (.ops [⟨some 10, .mov (.t 8), none⟩, ⟨some 5, .mov (.t 10), none⟩]) ((.seq (.ops [⟨some 11, .mov (.t 1), none⟩, ⟨some 12, .mov (.t 0), none⟩, ⟨some 13, .mov (.t 5), none⟩, ⟨some 14, .indexAddr (.t 12) (.t 13) 1 none, none⟩, ⟨some 15, .load false none ⟨1, false⟩ (.t 14), none⟩, ⟨some 16, .bin .eql .num (.t 11) (.t 15), none⟩]) ((.cond (.t 16) ((.seq (.ops [⟨some 17, .mov (.t 5), none⟩, ⟨some 4, .mov (.t 17), none⟩]) (.ret))) (.skip))))))))) (.ops [⟨some 18, .bin .add .num (.t 8) (.c (.i .i64 1)), none⟩, ⟨some 8, .mov (.t 18), none⟩]))))))
def zL : C := .loop [0, 1, 7, 8] zJ
noncomputable def jp (pg : Pg) (v0 v1 v7 v8 : V) (H : List Obj) (lo : Nat) : Option (Ex × St) := exL pg zL ⟨[(0, v0), (1, v1), (7, v7), (8, v8)], H, lo⟩
theorem qaa {pg : Pg} {e : Env} {H : List Obj} {lo : Nat} : exL pg zL ⟨e, H, lo⟩ = jp pg (kH (get 0 e)) (kH (get 1 e)) (kH (get 7 e)) (kH (get 8 e)) H lo := qhJ
theorem qad {pg : Pg} {v0 v1 v7 v8 : V} {H : List Obj} {lo : Nat} : jp pg v0 v1 v7 v8 H lo = qbd pg (exL pg zJ ⟨[(0, kH v0), (1, kH v1), (7, kH v7), (8, kH v8)], H, lo⟩) zL := by
  unfold jp zL; rw [qcM]; simp only [qj, qo, qC, qD, Nat.reduceEqDiff]
def jo : C := (.seq (.ops [⟨some 4, .mov (.c (.i .i64 (-1))), none⟩]) (.ret))
def jy : Fn := ⟨2, [.t 4], true, (.seq (.ops [⟨some 4, .mov (.c (.i .i64 0)), none⟩]) ((.seq ((.seq (.ops [⟨some 6, .mov (.t 0), none⟩, ⟨some 7, .bi .lenL [.t 6], none⟩, ⟨some 8, .mov (.c (.i .i64 0)), none⟩]) ((.block 0 [] (zL))))) (jo)))), none, none⟩
def qgY : C := (.seq (.seq (.ops [m_ 21 5, o_ 22 (.fieldAddr (.t 2) 3 l_), o_ 23 (.load false (some 2) l_ (.t 22)), o_ 24 (.bi .lenL [.t 23]), o_ 25 (.bin .lss .num (.t 21) (.t 24))]) (.cond (.t 25) (.skip) (.exit 0))) (.seq (.block 1 [1, 2, 5] (.seq (.ops [o_ 28 (.fieldAddr (.t 2) 3 l_), o_ 29 (.load false (some 2) l_ (.t 28)), m_ 30 5, o_ 31 (.indexAddr (.t 29) (.t 30) 4 none), o_ 32 (.load false none (s_ 4) (.t 31)), m_ 33 1, o_ 34 (.bin .sub .num (.t 33) (i_ 1)), o_ 35 (.call (.f 184) [.t 32, (.t 34)]), o_ 36 (.un .not (.t 35))]) (.cond (.t 36) (.seq (.ops [o_ 4 (.mov (.c (.b false)))]) (.ret)) (.skip)))) (.ops [m_ 26 5, o_ 27 (.bin .add .num (.t 26) (i_ 1)), m_ 5 27])))
def qgQ : C := .loop [1, 2, 5] qgY
def qg3 : C := (.seq (.ops [o_ 4 (.mov (.c (.b true)))]) (.ret))
def qdL : Fn := ⟨2, [.t 4], true, (.seq (.ops [o_ 2 (.box true (.t 0)), o_ 4 (.mov (.c (.b false)))]) (.seq (.seq (.ops [m_ 6 1, o_ 7 (.bin .lss .num (.t 6) (i_ 1)), m_ 8 7, q_ 9 8 false (.fieldAddr (.t 2) 2 l_), q_ 10 8 false (.load false (some 2) l_ (.t 9)), q_ 11 8 false (.bi .lenS [.t 10]), q_ 12 8 false (.bin .gtr .num (.t 11) (i_ 65)), o_ 13 (.pick (.t 8) (.c (.b true)) (.t 12)), m_ 14 13, q_ 15 14 false (.fieldAddr (.t 2) 3 l_), q_ 16 14 false (.load false (some 2) l_ (.t 15)), q_ 17 14 false (.bi .lenL [.t 16]), q_ 18 14 false (.call (.f 87) [.t 17]), q_ 19 14 false (.un .not (.t 18)), o_ 20 (.pick (.t 14) (.c (.b true)) (.t 19))]) (.cond (.t 20) (.seq (.ops [o_ 4 (.mov (.c (.b false)))]) (.ret)) (.skip))) (.seq (.seq (.ops [o_ 5 (.mov (i_ 0))]) (.block 0 [] (qgQ))) (qg3)))), none, none⟩
def qj3 : C := (.seq (.seq (.ops [m_ 5 4, o_ 6 (.fieldAddr (.t 1) 7 l_), o_ 7 (.load false (some 1) l_ (.t 6)), o_ 8 (.bi .lenL [.t 7]), o_ 9 (.bin .lss .num (.t 5) (.t 8))]) (.cond (.t 9) (.skip) (.exit 0))) (.seq (.block 1 [1, 3, 4] (.ops [m_ 12 3, o_ 13 (.fieldAddr (.t 1) 7 l_), o_ 14 (.load false (some 1) l_ (.t 13)), m_ 15 4, o_ 16 (.indexAddr (.t 14) (.t 15) 8 none), o_ 17 (.load false none (s_ 8) (.t 16)), o_ 18 (.call (.f 185) [.t 17]), o_ 19 (.bi .max [.t 12, (.t 18)]), m_ 3 19])) (.ops [m_ 10 4, o_ 11 (.bin .add .num (.t 10) (i_ 1)), m_ 4 11])))
def qj5 : C := .loop [1, 3, 4] qj3
def qkl : C := (.seq (.ops [m_ 20 3, o_ 21 (.bin .add .num (.t 20) (i_ 1)), m_ 2 21]) (.ret))
def qf6 : Fn := ⟨1, [.t 2], true, (.seq (.ops [o_ 1 (.box true (.t 0)), o_ 2 (.mov (i_ 0))]) (.seq (.ops [o_ 3 (.mov (i_ 0))]) (.seq (.seq (.ops [o_ 4 (.mov (i_ 0))]) (.block 0 [3] (qj5))) (qkl)))), none, none⟩
def qhA : C := (.seq (.seq (.ops [m_ 21 3, o_ 22 (.fieldAddr (.t 1) 7 l_), o_ 23 (.load false (some 1) l_ (.t 22)), o_ 24 (.bi .lenL [.t 23]), o_ 25 (.bin .lss .num (.t 21) (.t 24))]) (.cond (.t 25) (.skip) (.exit 0))) (.seq (.block 1 [1, 3] (.seq (.ops [o_ 28 (.fieldAddr (.t 1) 7 l_), o_ 29 (.load false (some 1) l_ (.t 28)), m_ 30 3, o_ 31 (.indexAddr (.t 29) (.t 30) 8 none), o_ 32 (.load false none (s_ 8) (.t 31)), o_ 33 (.call (.f 186) [.t 32]), o_ 34 (.un .not (.t 33))]) (.cond (.t 34) (.seq (.ops [o_ 2 (.mov (.c (.b false)))]) (.ret)) (.skip)))) (.ops [m_ 26 3, o_ 27 (.bin .add .num (.t 26) (i_ 1)), m_ 3 27])))
def qgW : C := .loop [1, 3] qhA
def qhq : C := (.seq (.ops [o_ 2 (.mov (.c (.b true)))]) (.ret))
def qdo : Fn := ⟨1, [.t 2], true, (.seq (.ops [o_ 1 (.box true (.t 0)), o_ 2 (.mov (.c (.b false)))]) (.seq (.seq (.ops [o_ 4 (.fieldAddr (.t 1) 6 l_), o_ 5 (.load false (some 1) l_ (.t 4)), o_ 6 (.bi .lenS [.t 5]), o_ 7 (.bin .gtr .num (.t 6) (i_ 120)), m_ 8 7, q_ 9 8 false (.fieldAddr (.t 1) 7 l_), q_ 10 8 false (.load false (some 1) l_ (.t 9)), q_ 11 8 false (.bi .lenL [.t 10]), q_ 12 8 false (.call (.f 87) [.t 11]), q_ 13 8 false (.un .not (.t 12)), o_ 14 (.pick (.t 8) (.c (.b true)) (.t 13)), m_ 15 14, q_ 16 15 false (.fieldAddr (.t 1) 1 (s_ 4)), q_ 17 15 false (.load false (some 1) (s_ 4) (.t 16)), q_ 18 15 false (.call (.f 184) [.t 17, (i_ 8)]), q_ 19 15 false (.un .not (.t 18)), o_ 20 (.pick (.t 15) (.c (.b true)) (.t 19))]) (.cond (.t 20) (.seq (.ops [o_ 2 (.mov (.c (.b false)))]) (.ret)) (.skip))) (.seq (.seq (.ops [o_ 3 (.mov (i_ 0))]) (.block 0 [] (qgW))) (qhq)))), none, none⟩
def qfh : Fn := ⟨3, [.t 6, (.t 7)], false, (.seq (.ops [o_ 6 (.mov (.c .nil)), o_ 7 (.mov (.c (.b false)))]) (.seq (.ops [m_ 12 1, m_ 13 0, o_ 14 (.lookup 2 (.agg [(.s []), (.b false), (.s []), .nil]) (.t 12) (.t 13) true), m_ 11 14, o_ 15 (.extract (.t 11) 0), o_ 16 (.extract (.t 11) 1), o_ 8 (.alloc true [(.s []), (.b false), (.s []), .nil]), z_ (.store (some 8) (s_ 4) (.t 8) (.t 15)), m_ 9 16]) (.seq (.seq (.ops [m_ 17 9, o_ 18 (.un .not (.t 17)), m_ 19 18, q_ 20 19 false (.mov (.t 2)), q_ 21 19 false (.bin .lss .num (.t 20) (i_ 1)), o_ 22 (.pick (.t 19) (.c (.b true)) (.t 21))]) (.cond (.t 22) (.seq (.ops [o_ 6 (.mov (.c .nil)), o_ 7 (.mov (.c (.b false)))]) (.ret)) (.skip))) (.seq (.ops [o_ 10 (.mov (.c .nil))]) (.seq (.seq (.ops [o_ 23 (.fieldAddr (.t 8) 2 l_), o_ 24 (.load false (some 8) l_ (.t 23)), o_ 25 (.bin .neq .num (.t 24) (.c (.s [])))]) (.cond (.t 25) (.seq (.ops [o_ 27 (.fieldAddr (.t 8) 2 l_), o_ 28 (.load false (some 8) l_ (.t 27)), o_ 29 (.mov (.mv 1)), m_ 30 2, o_ 31 (.bin .sub .num (.t 30) (i_ 1)), o_ 32 (.call (.f 188) [.t 28, (.mv 29), (.t 31)]), m_ 26 32, o_ 33 (.extract (.t 26) 0), o_ 34 (.extract (.t 26) 1), m_ 10 33, m_ 9 34]) (.seq (.ops [m_ 35 9, o_ 36 (.un .not (.t 35))]) (.cond (.t 36) (.seq (.ops [o_ 6 (.mov (.c .nil)), o_ 7 (.mov (.c (.b false)))]) (.ret)) (.skip)))) (.skip))) (.seq (.opsD [(m_ 37 10, false, []), (m_ 38 10, false, []), (o_ 39 (.bi .lenL [.t 38]), false, []), (m_ 40 10, false, []), (o_ 41 (.bi .lenL [.t 40]), false, []), (o_ 42 (.sliceM 6 (.t 37) none (.t 39) (.t 41)), false, []), (o_ 43 (.fieldAddr (.t 8) 3 l_), false, []), (o_ 44 (.load false (some 8) l_ (.t 43)), false, []), (o_ 45 (.bi (.append 6 80) [.mv 42, (.t 44)]), true, []), (o_ 6 (.mov (.mv 45)), true, []), (o_ 7 (.mov (.c (.b true))), true, [])]) (.ret))))))), none, none⟩
def qjZ : C := (.seq (.seq (.ops [m_ 6 5, m_ 7 0, o_ 8 (.bi .lenS [.t 7]), o_ 9 (.bin .lss .num (.t 6) (.t 8))]) (.cond (.t 9) (.skip) (.exit 0))) (.seq (.block 1 [0, 5] (.seq (.ops [m_ 12 0, m_ 13 5, o_ 14 (.index (.t 12) (.t 13)), o_ 15 (.bin .eql .num (.t 14) (.c (.i .u8 46)))]) (.cond (.t 15) (.seq (.opsD [(m_ 16 0, false, []), (m_ 17 5, false, []), (o_ 18 (.sliceS (.t 16) none (some (.t 17))), false, []), (m_ 19 0, false, []), (m_ 20 5, false, []), (o_ 21 (.bin .add .num (.t 20) (i_ 1)), false, []), (o_ 22 (.sliceS (.t 19) (some (.t 21)) none), false, []), (m_ 2 18, false, []), (m_ 3 22, true, []), (o_ 4 (.mov (.c (.b true))), true, [])]) (.ret)) (.skip)))) (.ops [m_ 10 5, o_ 11 (.bin .add .num (.t 10) (i_ 1)), m_ 5 11])))
def qki : C := .loop [0, 5] qjZ
def qjX : C := (.seq (.ops [m_ 23 0, o_ 2 (.mov (.c (.s []))), m_ 3 23, o_ 4 (.mov (.c (.b false)))]) (.ret))
def qgB : Fn := ⟨1, [.t 2, (.t 3), (.t 4)], false, (.seq (.ops [o_ 2 (.mov (.c (.s []))), o_ 3 (.mov (.c (.s []))), o_ 4 (.mov (.c (.b false)))]) (.seq (.seq (.ops [o_ 5 (.mov (i_ 0))]) (.block 0 [0] (qki))) (qjX))), none, none⟩
def qdF : Fn := ⟨2, [(.cell 4 (s_ 8)), (.t 5), (.t 6)], false, (.seq (.ops [o_ 4 (.alloc true [(.s []), .nil, .nil, .nil, .nil, .nil, .nil, .nil]), o_ 5 (.mov (.c (.b false))), o_ 6 (.mov (.c (.b false)))]) (.seq (.seq (.ops [m_ 9 1, m_ 10 0, o_ 11 (.nilCheck (.t 10)), o_ 12 (.fieldAddr (.t 11) 0 (s_ 8)), o_ 13 (.fieldAddr (.t 12) 0 l_), o_ 14 (.load false none l_ (.t 13)), o_ 15 (.bin .eql .num (.t 9) (.t 14))]) (.cond (.t 15) (.seq (.ops [m_ 16 0, o_ 17 (.nilCheck (.t 16)), o_ 18 (.fieldAddr (.t 17) 0 (s_ 8)), o_ 19 (.load false none (s_ 8) (.t 18)), z_ (.store (some 4) (s_ 8) (.t 4) (.t 19)), o_ 5 (.mov (.c (.b false))), o_ 6 (.mov (.c (.b true)))]) (.ret)) (.skip))) (.seq (.seq (.ops [m_ 20 0, o_ 21 (.nilCheck (.t 20)), o_ 22 (.fieldAddr (.t 21) 0 (s_ 8)), o_ 23 (.load false none (s_ 8) (.t 22)), m_ 24 1, o_ 25 (.call (.f 95) [.t 23, (.t 24)]), o_ 26 (.un .not (.t 25)), m_ 27 26, q_ 28 27 false (.mov (.t 1)), q_ 29 27 false (.bin .eql .num (.t 28) (.c (.s [73, 110]))), o_ 30 (.pick (.t 27) (.c (.b true)) (.t 29)), m_ 31 30, q_ 32 31 false (.mov (.t 1)), q_ 33 31 false (.bin .eql .num (.t 32) (.c (.s [79, 117, 116]))), o_ 34 (.pick (.t 31) (.c (.b true)) (.t 33))]) (.cond (.t 34) (.seq (.ops [o_ 35 (.build [(.s []), .nil, .nil, .nil, .nil, .nil, .nil, .nil] []), z_ (.store (some 4) (s_ 8) (.t 4) (.t 35)), o_ 5 (.mov (.c (.b true))), o_ 6 (.mov (.c (.b false)))]) (.ret)) (.skip))) (.seq (.ops [m_ 37 0, o_ 38 (.nilCheck (.t 37)), o_ 39 (.fieldAddr (.t 38) 8 l_), o_ 40 (.load false none l_ (.t 39)), o_ 41 (.mov (.mv 1)), o_ 42 (.call (.f 96) [.t 40, (.mv 41)]), m_ 36 42, o_ 43 (.extract (.t 36) 0), o_ 44 (.extract (.t 36) 1), o_ 7 (.alloc true [(.s []), .nil, .nil, .nil, .nil, .nil, .nil, .nil]), z_ (.store (some 7) (s_ 8) (.t 7) (.t 43)), m_ 8 44]) (.seq (.ops [o_ 45 (.load false (some 7) (s_ 8) (.t 7)), m_ 46 8, z_ (.store (some 4) (s_ 8) (.t 4) (.t 45)), o_ 5 (.mov (.c (.b true))), m_ 6 46]) (.ret)))))), none, none⟩
def qjY : C := (.seq (.seq (.ops [m_ 74 15, m_ 75 12, o_ 76 (.bi .lenL [.t 75]), o_ 77 (.bin .lss .num (.t 74) (.t 76))]) (.cond (.t 77) (.skip) (.exit 1))) (.seq (.block 2 [1, 2, 3, 12, 14, 15] (.seq (.ops [m_ 81 12, m_ 82 15, o_ 83 (.indexAddr (.t 81) (.t 82) 6 none), o_ 84 (.fieldAddr (.t 83) 2 (s_ 4)), o_ 85 (.load false none (s_ 4) (.t 84)), m_ 86 1, m_ 87 2, o_ 88 (.call (.f 191) [.t 85, (.t 86), (.t 87)]), m_ 80 88, o_ 89 (.extract (.t 80) 0), o_ 90 (.extract (.t 80) 1), m_ 16 89, m_ 17 90]) (.seq (.seq (.ops [m_ 91 17, o_ 92 (.un .not (.t 91))]) (.cond (.t 92) (.seq (.ops [o_ 6 (.mov (i_ 0)), o_ 7 (.mov (.c (.b false)))]) (.ret)) (.skip))) (.seq (.ops [m_ 93 14, m_ 94 16, o_ 95 (.bin .add .num (.t 93) (.t 94)), m_ 14 95]) (.seq (.ops [m_ 96 14, o_ 97 (.bin .gtr .num (.t 96) (i_ 16384))]) (.cond (.t 97) (.seq (.ops [o_ 6 (.mov (i_ 0)), o_ 7 (.mov (.c (.b false)))]) (.ret)) (.skip))))))) (.ops [m_ 78 15, o_ 79 (.bin .add .num (.t 78) (i_ 1)), m_ 15 79])))
def qkj : C := .loop [1, 2, 3, 12, 14, 15] qjY
def qj7 : C := (.seq (.ops [m_ 98 2, o_ 99 (.fieldAddr (.t 3) 2 l_), o_ 100 (.load false (some 3) l_ (.t 99)), m_ 101 14, z_ (.mapUpdate 2 (.t 98) (.t 100) (.t 101))]) (.seq (.ops [m_ 102 14, m_ 6 102, o_ 7 (.mov (.c (.b true)))]) (.ret)))
def qkc : C := (.seq (.ops [o_ 6 (.mov (i_ 1)), o_ 7 (.mov (.c (.b true)))]) (.ret))
def qge : Fn := ⟨3, [.t 6, (.t 7)], false, (.seq (.ops [o_ 3 (.box true (.t 0)), o_ 6 (.mov (i_ 0)), o_ 7 (.mov (.c (.b false)))]) (.seq (.seq (.ops [o_ 18 (.load false (some 3) (s_ 4) (.t 3)), o_ 19 (.call (.f 192) [.t 18]), o_ 20 (.un .not (.t 19))]) (.cond (.t 20) (.seq (.ops [o_ 6 (.mov (i_ 0)), o_ 7 (.mov (.c (.b false)))]) (.ret)) (.skip))) (.seq (.seq (.ops [o_ 21 (.fieldAddr (.t 3) 0 l_), o_ 22 (.load false (some 3) l_ (.t 21))]) (.block 0 [] (.seq (.ops [o_ 24 (.bin .eql .num (.t 22) (i_ 7)), m_ 23 24]) (.cond (.t 23) (.seq (.ops [o_ 26 (.fieldAddr (.t 3) 3 l_), o_ 27 (.load false (some 3) l_ (.t 26)), o_ 28 (.indexAddr (.t 27) (i_ 0) 4 none), o_ 29 (.load false none (s_ 4) (.t 28)), o_ 30 (.mov (.mv 1)), o_ 31 (.mov (.mv 2)), o_ 32 (.call (.f 191) [.t 29, (.mv 30), (.mv 31)]), m_ 25 32, o_ 33 (.extract (.t 25) 0), o_ 34 (.extract (.t 25) 1), m_ 8 33, m_ 9 34]) (.seq (.seq (.ops [m_ 35 9, o_ 36 (.un .not (.t 35)), m_ 37 36, q_ 38 37 false (.mov (.t 8)), q_ 39 37 false (.fieldAddr (.t 3) 1 l_), q_ 40 37 false (.load false (some 3) l_ (.t 39)), q_ 41 37 false (.bin .mul .num (.t 38) (.t 40)), q_ 42 37 false (.bin .gtr .num (.t 41) (i_ 16384)), o_ 43 (.pick (.t 37) (.c (.b true)) (.t 42))]) (.cond (.t 43) (.seq (.ops [o_ 6 (.mov (i_ 0)), o_ 7 (.mov (.c (.b false)))]) (.ret)) (.skip))) (.seq (.ops [m_ 44 8, o_ 45 (.fieldAddr (.t 3) 1 l_), o_ 46 (.load false (some 3) l_ (.t 45)), o_ 47 (.bin .mul .num (.t 44) (.t 46)), m_ 6 47, o_ 7 (.mov (.c (.b true)))]) (.ret)))) (.seq (.ops [o_ 49 (.bin .eql .num (.t 22) (i_ 8)), m_ 48 49]) (.cond (.t 48) (.seq (.seq (.ops [m_ 51 2, o_ 52 (.fieldAddr (.t 3) 2 l_), o_ 53 (.load false (some 3) l_ (.t 52)), o_ 54 (.lookup 2 (.i .i64 0) (.t 51) (.t 53) true), m_ 50 54, o_ 55 (.extract (.t 50) 0), o_ 56 (.extract (.t 50) 1), m_ 10 55, m_ 11 56]) (.seq (.ops [m_ 57 11]) (.cond (.t 57) (.seq (.ops [m_ 58 10, o_ 59 (.bi .max [.t 58, (i_ 0)]), m_ 60 10, o_ 61 (.bin .geq .num (.t 60) (i_ 0)), m_ 6 59, m_ 7 61]) (.ret)) (.skip)))) (.seq (.ops [m_ 62 2, o_ 63 (.fieldAddr (.t 3) 2 l_), o_ 64 (.load false (some 3) l_ (.t 63)), z_ (.mapUpdate 2 (.t 62) (.t 64) (i_ (-1)))]) (.seq (.ops [o_ 66 (.fieldAddr (.t 3) 2 l_), o_ 67 (.load false (some 3) l_ (.t 66)), m_ 68 1, o_ 69 (.call (.f 99) [.t 67, (.t 68)]), m_ 65 69, o_ 70 (.extract (.t 65) 0), o_ 71 (.extract (.t 65) 1), m_ 12 70, m_ 13 71]) (.seq (.seq (.ops [m_ 72 13, o_ 73 (.un .not (.t 72))]) (.cond (.t 73) (.seq (.ops [o_ 6 (.mov (i_ 0)), o_ 7 (.mov (.c (.b false)))]) (.ret)) (.skip))) (.seq (.ops [o_ 14 (.mov (i_ 0))]) (.seq (.seq (.ops [o_ 15 (.mov (i_ 0))]) (.block 1 [2, 3, 14] (qkj))) (qj7))))))) (.skip))))))) (qkc)))), none, none⟩
def qf4 : Fn := ⟨1, [.t 2], true, (.seq (.ops [o_ 1 (.box true (.t 0)), o_ 2 (.mov (.c (.b false)))]) (.seq (.seq (.ops [o_ 3 (.fieldAddr (.t 1) 0 l_), o_ 4 (.load false (some 1) l_ (.t 3))]) (.block 0 [] (.seq (.seq (.ops [o_ 6 (.bin .eql .num (.t 4) (i_ 1)), m_ 5 6]) (.cond (.t 5) (.skip) (.seq (.ops [o_ 7 (.bin .eql .num (.t 4) (i_ 2)), m_ 5 7]) (.cond (.t 5) (.skip) (.seq (.ops [o_ 8 (.bin .eql .num (.t 4) (i_ 3)), m_ 5 8]) (.cond (.t 5) (.skip) (.ops [o_ 9 (.bin .eql .num (.t 4) (i_ 4)), m_ 5 9]))))))) (.cond (.t 5) (.seq (.ops [o_ 10 (.fieldAddr (.t 1) 1 l_), o_ 11 (.load false (some 1) l_ (.t 10)), o_ 12 (.bin .eql .num (.t 11) (i_ 0)), m_ 13 12, q_ 14 13 true (.fieldAddr (.t 1) 2 l_), q_ 15 13 true (.load false (some 1) l_ (.t 14)), q_ 16 13 true (.bin .eql .num (.t 15) (.c (.s []))), o_ 17 (.pick (.t 13) (.t 16) (.c (.b false))), m_ 18 17, q_ 19 18 true (.fieldAddr (.t 1) 3 l_), q_ 20 18 true (.load false (some 1) l_ (.t 19)), q_ 21 18 true (.bi .lenL [.t 20]), q_ 22 18 true (.bin .eql .num (.t 21) (i_ 0)), o_ 23 (.pick (.t 18) (.t 22) (.c (.b false))), m_ 2 23]) (.ret)) (.seq (.ops [o_ 25 (.bin .eql .num (.t 4) (i_ 7)), m_ 24 25]) (.cond (.t 24) (.seq (.ops [o_ 26 (.fieldAddr (.t 1) 1 l_), o_ 27 (.load false (some 1) l_ (.t 26)), o_ 28 (.bin .geq .num (.t 27) (i_ 1)), m_ 29 28, q_ 30 29 true (.fieldAddr (.t 1) 1 l_), q_ 31 29 true (.load false (some 1) l_ (.t 30)), q_ 32 29 true (.bin .leq .num (.t 31) (i_ 1024)), o_ 33 (.pick (.t 29) (.t 32) (.c (.b false))), m_ 34 33, q_ 35 34 true (.fieldAddr (.t 1) 2 l_), q_ 36 34 true (.load false (some 1) l_ (.t 35)), q_ 37 34 true (.bin .eql .num (.t 36) (.c (.s []))), o_ 38 (.pick (.t 34) (.t 37) (.c (.b false))), m_ 39 38, q_ 40 39 true (.fieldAddr (.t 1) 3 l_), q_ 41 39 true (.load false (some 1) l_ (.t 40)), q_ 42 39 true (.bi .lenL [.t 41]), q_ 43 39 true (.bin .eql .num (.t 42) (i_ 1)), o_ 44 (.pick (.t 39) (.t 43) (.c (.b false))), m_ 45 44, q_ 46 45 true (.fieldAddr (.t 1) 3 l_), q_ 47 45 true (.load false (some 1) l_ (.t 46)), q_ 48 45 true (.indexAddr (.t 47) (i_ 0) 4 none), q_ 49 45 true (.load false none (s_ 4) (.t 48)), q_ 50 45 true (.call (.f 192) [.t 49]), o_ 51 (.pick (.t 45) (.t 50) (.c (.b false))), m_ 2 51]) (.ret)) (.seq (.seq (.ops [o_ 53 (.bin .eql .num (.t 4) (i_ 8)), m_ 52 53]) (.cond (.t 52) (.skip) (.ops [o_ 54 (.bin .eql .num (.t 4) (i_ 9)), m_ 52 54]))) (.cond (.t 52) (.seq (.ops [o_ 55 (.fieldAddr (.t 1) 1 l_), o_ 56 (.load false (some 1) l_ (.t 55)), o_ 57 (.bin .eql .num (.t 56) (i_ 0)), m_ 58 57, q_ 59 58 true (.fieldAddr (.t 1) 2 l_), q_ 60 58 true (.load false (some 1) l_ (.t 59)), q_ 61 58 true (.bin .neq .num (.t 60) (.c (.s []))), o_ 62 (.pick (.t 58) (.t 61) (.c (.b false))), m_ 63 62, q_ 64 63 true (.fieldAddr (.t 1) 3 l_), q_ 65 63 true (.load false (some 1) l_ (.t 64)), q_ 66 63 true (.bi .lenL [.t 65]), q_ 67 63 true (.bin .eql .num (.t 66) (i_ 0)), o_ 68 (.pick (.t 63) (.t 67) (.c (.b false))), m_ 2 68]) (.ret)) (.skip))))))))) (.seq (.ops [o_ 2 (.mov (.c (.b false)))]) (.ret)))), none, none⟩
def qd8 : Fn := ⟨2, [(.cell 4 (s_ 4)), (.t 5)], false, (.seq (.ops [o_ 3 (.box true (.t 1)), o_ 4 (.alloc true [(.i .i64 0), (.i .i64 0), (.s []), .nil]), o_ 5 (.mov (.c (.b false)))]) (.seq (.ops [o_ 18 (.build [(.i .i64 0), (.i .i64 0), (.s []), .nil] []), o_ 6 (.alloc true [(.i .i64 0), (.i .i64 0), (.s []), .nil]), z_ (.store (some 6) (s_ 4) (.t 6) (.t 18))]) (.seq (.ops [o_ 19 (.fieldAddr (.t 3) 0 l_), o_ 20 (.load false (some 3) l_ (.t 19)), o_ 21 (.bin .eql .num (.t 20) (i_ 1)), m_ 22 21, q_ 23 22 false (.fieldAddr (.t 3) 0 l_), q_ 24 22 false (.load false (some 3) l_ (.t 23)), q_ 25 22 false (.bin .eql .num (.t 24) (i_ 3)), o_ 26 (.pick (.t 22) (.c (.b true)) (.t 25)), m_ 27 26, q_ 28 27 false (.fieldAddr (.t 3) 0 l_), q_ 29 27 false (.load false (some 3) l_ (.t 28)), q_ 30 27 false (.bin .eql .num (.t 29) (i_ 5)), o_ 31 (.pick (.t 27) (.c (.b true)) (.t 30)), m_ 32 31, q_ 33 32 false (.fieldAddr (.t 3) 0 l_), q_ 34 32 false (.load false (some 3) l_ (.t 33)), q_ 35 32 false (.bin .eql .num (.t 34) (i_ 6)), o_ 36 (.pick (.t 32) (.c (.b true)) (.t 35)), m_ 37 36, q_ 38 37 false (.fieldAddr (.t 3) 0 l_), q_ 39 37 false (.load false (some 3) l_ (.t 38)), q_ 40 37 false (.bin .eql .num (.t 39) (i_ 23)), o_ 41 (.pick (.t 37) (.c (.b true)) (.t 40)), m_ 7 41]) (.seq (.seq (.ops [m_ 42 7, o_ 43 (.un .not (.t 42)), m_ 44 43, q_ 45 44 true (.fieldAddr (.t 3) 6 l_), q_ 46 44 true (.load false (some 3) l_ (.t 45)), q_ 47 44 true (.bin .neq .num (.t 46) (.c (.s []))), o_ 48 (.pick (.t 44) (.t 47) (.c (.b false)))]) (.cond (.t 48) (.seq (.ops [o_ 49 (.load false (some 6) (s_ 4) (.t 6)), z_ (.store (some 4) (s_ 4) (.t 4) (.t 49)), o_ 5 (.mov (.c (.b false)))]) (.ret)) (.skip))) (.seq (.ops [o_ 50 (.fieldAddr (.t 3) 7 l_), o_ 51 (.load false (some 3) l_ (.t 50)), o_ 52 (.bi .lenL [.t 51]), m_ 8 52]) (.seq (.seq (.ops [o_ 53 (.fieldAddr (.t 3) 0 l_), o_ 54 (.load false (some 3) l_ (.t 53))]) (.block 0 [3, 4, 6, 8] (.seq (.ops [o_ 56 (.bin .eql .num (.t 54) (i_ 1)), m_ 55 56]) (.cond (.t 55) (.seq (.ops [o_ 58 (.mov (.mv 0)), o_ 59 (.fieldAddr (.t 3) 6 l_), o_ 60 (.load false (some 3) l_ (.t 59)), o_ 61 (.call (.f 266) [.mv 58, (.t 60)]), m_ 57 61, o_ 62 (.extract (.t 57) 0), o_ 63 (.extract (.t 57) 1), o_ 64 (.extract (.t 57) 2), o_ 9 (.alloc true [(.i .i64 0), (.i .i64 0), (.s []), .nil]), z_ (.store (some 9) (s_ 4) (.t 9) (.t 62)), m_ 10 63, m_ 11 64]) (.seq (.ops [o_ 65 (.load false (some 9) (s_ 4) (.t 9)), m_ 66 11, m_ 67 66, q_ 68 67 true (.mov (.t 8)), q_ 69 67 true (.bin .eql .num (.t 68) (i_ 0)), o_ 70 (.pick (.t 67) (.t 69) (.c (.b false))), z_ (.store (some 4) (s_ 4) (.t 4) (.t 65)), m_ 5 70]) (.ret))) (.seq (.seq (.ops [o_ 72 (.bin .eql .num (.t 54) (i_ 2)), m_ 71 72]) (.cond (.t 71) (.skip) (.seq (.ops [o_ 73 (.bin .eql .num (.t 54) (i_ 3)), m_ 71 73]) (.cond (.t 71) (.skip) (.seq (.ops [o_ 74 (.bin .eql .num (.t 54) (i_ 4)), m_ 71 74]) (.cond (.t 71) (.skip) (.ops [o_ 75 (.bin .eql .num (.t 54) (i_ 5)), m_ 71 75]))))))) (.cond (.t 71) (.seq (.ops [o_ 76 (.mov (.mv 0)), o_ 77 (.load false (some 3) (s_ 8) (.t 3)), o_ 78 (.call (.f 267) [.mv 76, (.t 77)]), o_ 79 (.extract (.t 78) 0), o_ 80 (.extract (.t 78) 1), z_ (.store (some 4) (s_ 4) (.t 4) (.t 79)), m_ 5 80]) (.ret)) (.seq (.ops [o_ 82 (.bin .eql .num (.t 54) (i_ 6)), m_ 81 82]) (.cond (.t 81) (.seq (.ops [m_ 84 0, o_ 85 (.fieldAddr (.t 3) 6 l_), o_ 86 (.load false (some 3) l_ (.t 85)), o_ 87 (.call (.f 200) [.t 84, (.t 86)]), m_ 83 87, o_ 88 (.extract (.t 83) 0), o_ 89 (.extract (.t 83) 1), o_ 12 (.alloc true [(.s []), (.b false), .nil, (.i .i64 0), (.i .i64 0), (.s []), .nil, .nil, .nil, .nil]), z_ (.store (some 12) (s_ 10) (.t 12) (.t 88)), m_ 13 89]) (.seq (.opsD [(o_ 90 (.fieldAddr (.t 12) 3 (s_ 4)), false, []), (o_ 91 (.load false (some 12) (s_ 4) (.t 90)), false, []), (m_ 92 13, false, []), (m_ 93 92, false, []), (q_ 94 93 true (.fieldAddr (.t 12) 3 (s_ 4)), false, []), (q_ 95 93 true (.fieldAddr (.t 94) 0 l_), false, []), (q_ 96 93 true (.load false (some 12) l_ (.t 95)), false, []), (q_ 97 93 true (.bin .neq .num (.t 96) (i_ 0)), false, []), (o_ 98 (.pick (.t 93) (.t 97) (.c (.b false))), false, []), (m_ 99 98, false, []), (q_ 100 99 true (.mov (.t 0)), false, []), (q_ 101 99 true (.load false (some 12) (s_ 10) (.t 12)), false, []), (q_ 102 99 true (.fieldAddr (.t 3) 7 l_), false, []), (q_ 103 99 true (.load false (some 3) l_ (.t 102)), false, []), (q_ 104 99 true (.call (.f 201) [.t 100, (.t 101), (.t 103)]), true, []), (o_ 105 (.pick (.t 99) (.t 104) (.c (.b false))), false, []), (z_ (.store (some 4) (s_ 4) (.t 4) (.t 91)), false, []), (m_ 5 105, true, [])]) (.ret))) (.seq (.seq (.ops [o_ 107 (.bin .eql .num (.t 54) (i_ 16)), m_ 106 107]) (.cond (.t 106) (.skip) (.ops [o_ 108 (.bin .eql .num (.t 54) (i_ 17)), m_ 106 108]))) (.cond (.t 106) (.seq (.opsD [(o_ 109 (.call (.f 187) [(i_ 3)]), true, []), (m_ 110 8, false, []), (o_ 111 (.bin .eql .num (.t 110) (i_ 2)), false, []), (m_ 112 111, true, []), (q_ 113 112 true (.mov (.t 0)), false, []), (q_ 114 112 true (.fieldAddr (.t 3) 7 l_), false, []), (q_ 115 112 true (.load false (some 3) l_ (.t 114)), false, []), (q_ 116 112 true (.indexAddr (.t 115) (i_ 0) 8 none), false, []), (q_ 117 112 true (.fieldAddr (.t 116) 1 (s_ 4)), false, []), (q_ 118 112 true (.load false none (s_ 4) (.t 117)), false, []), (q_ 119 112 true (.fieldAddr (.t 3) 7 l_), false, []), (q_ 120 112 true (.load false (some 3) l_ (.t 119)), false, []), (q_ 121 112 true (.indexAddr (.t 120) (i_ 1) 8 none), false, []), (q_ 122 112 true (.fieldAddr (.t 121) 1 (s_ 4)), false, []), (q_ 123 112 true (.load false none (s_ 4) (.t 122)), false, []), (q_ 124 112 true (.call (.f 268) [.t 113, (.t 118), (.t 123)]), true, []), (o_ 125 (.pick (.t 112) (.t 124) (.c (.b false))), false, []), (z_ (.store (some 4) (s_ 4) (.t 4) (.mv 109)), false, []), (m_ 5 125, true, [])]) (.ret)) (.seq (.ops [o_ 127 (.bin .eql .num (.t 54) (i_ 23)), m_ 126 127]) (.cond (.t 126) (.seq (.opsD [(o_ 128 (.call (.f 187) [(i_ 3)]), true, []), (m_ 129 8, false, []), (o_ 130 (.bin .eql .num (.t 129) (i_ 1)), false, []), (m_ 131 130, true, []), (q_ 132 131 true (.mov (.t 0)), false, []), (q_ 133 131 true (.fieldAddr (.t 3) 6 l_), false, []), (q_ 134 131 true (.load false (some 3) l_ (.t 133)), false, []), (q_ 135 131 true (.call (.f 100) [.t 132, (.t 134)]), true, []), (o_ 136 (.pick (.t 131) (.t 135) (.c (.b false))), true, []), (m_ 137 136, true, []), (q_ 138 137 true (.fieldAddr (.t 3) 7 l_), true, []), (q_ 139 137 true (.load false (some 3) l_ (.t 138)), true, []), (q_ 140 137 true (.indexAddr (.t 139) (i_ 0) 8 none), true, []), (q_ 141 137 true (.fieldAddr (.t 140) 1 (s_ 4)), true, []), (q_ 142 137 true (.load false none (s_ 4) (.t 141)), true, []), (q_ 143 137 true (.call (.f 98) [.t 142, (i_ 9)]), true, []), (o_ 144 (.pick (.t 137) (.t 143) (.c (.b false))), true, []), (m_ 145 144, true, []), (q_ 146 145 true (.fieldAddr (.t 3) 6 l_), false, []), (q_ 147 145 true (.load false (some 3) l_ (.t 146)), false, []), (q_ 148 145 true (.fieldAddr (.t 3) 7 l_), false, []), (q_ 149 145 true (.load false (some 3) l_ (.t 148)), false, []), (q_ 150 145 true (.indexAddr (.t 149) (i_ 0) 8 none), false, []), (q_ 151 145 true (.fieldAddr (.t 150) 1 (s_ 4)), false, []), (q_ 152 145 true (.fieldAddr (.t 151) 2 l_), false, []), (q_ 153 145 true (.load false none l_ (.t 152)), false, []), (q_ 154 145 true (.mov (.t 0)), false, []), (q_ 155 145 true (.nilCheck (.t 154)), false, []), (q_ 156 145 true (.fieldAddr (.t 155) 9 l_), false, []), (q_ 157 145 true (.load false none l_ (.t 156)), false, []), (q_ 158 145 true (.call (.f 195) [.t 147, (.t 153), (.t 157)]), true, []), (o_ 159 (.pick (.t 145) (.t 158) (.c (.b false))), false, []), (z_ (.store (some 4) (s_ 4) (.t 4) (.mv 128)), false, []), (m_ 5 159, true, [])]) (.ret)) (.seq (.ops [o_ 161 (.bin .eql .num (.t 54) (i_ 24)), m_ 160 161]) (.cond (.t 160) (.seq (.opsD [(o_ 162 (.call (.f 187) [(i_ 4)]), true, []), (o_ 163 (.mov (.mv 0)), false, []), (o_ 164 (.fieldAddr (.t 3) 7 l_), false, []), (o_ 165 (.load false (some 3) l_ (.t 164)), false, []), (o_ 166 (.call (.f 269) [.mv 163, (.t 165)]), true, []), (z_ (.store (some 4) (s_ 4) (.t 4) (.mv 162)), true, []), (o_ 5 (.mov (.mv 166)), true, [])]) (.ret)) (.seq (.ops [o_ 168 (.bin .eql .num (.t 54) (i_ 34)), m_ 167 168]) (.cond (.t 167) (.seq (.ops [o_ 169 (.call (.f 187) [(i_ 3)]), m_ 170 8, o_ 171 (.bin .eql .num (.t 170) (i_ 0)), m_ 172 171, q_ 173 172 true (.mov (.t 0)), q_ 174 172 true (.nilCheck (.t 173)), q_ 175 172 true (.fieldAddr (.t 174) 0 (s_ 8)), q_ 176 172 true (.load false none (s_ 8) (.t 175)), q_ 177 172 true (.call (.f 95) [.t 176, (.c (.s [73, 110]))]), o_ 178 (.pick (.t 172) (.t 177) (.c (.b false))), z_ (.store (some 4) (s_ 4) (.t 4) (.mv 169)), m_ 5 178]) (.ret)) (.skip))))))))))))))))) (.seq (.seq (.ops [m_ 179 8, o_ 180 (.bin .eql .num (.t 179) (i_ 0))]) (.cond (.t 180) (.seq (.ops [o_ 181 (.load false (some 6) (s_ 4) (.t 6)), z_ (.store (some 4) (s_ 4) (.t 4) (.t 181)), o_ 5 (.mov (.c (.b false)))]) (.ret)) (.skip))) (.seq (.ops [o_ 182 (.fieldAddr (.t 3) 7 l_), o_ 183 (.load false (some 3) l_ (.t 182)), o_ 184 (.indexAddr (.t 183) (i_ 0) 8 none), o_ 185 (.fieldAddr (.t 184) 1 (s_ 4)), o_ 186 (.fieldAddr (.t 185) 0 l_), o_ 187 (.load false none l_ (.t 186)), m_ 14 187]) (.seq (.ops [o_ 189 (.fieldAddr (.t 3) 0 l_), o_ 190 (.load false (some 3) l_ (.t 189)), m_ 191 14, o_ 192 (.call (.f 270) [.t 190, (.t 191)]), m_ 188 192, o_ 193 (.extract (.t 188) 0), o_ 194 (.extract (.t 188) 1), o_ 195 (.extract (.t 188) 2), m_ 15 193, m_ 16 194, m_ 17 195]) (.seq (.seq (.ops [m_ 196 15, o_ 197 (.bin .eql .num (.t 196) (i_ 0)), m_ 198 197, q_ 199 198 false (.mov (.t 14)), q_ 200 198 false (.mov (.t 15)), q_ 201 198 false (.bin .neq .num (.t 199) (.t 200)), o_ 202 (.pick (.t 198) (.c (.b true)) (.t 201)), m_ 203 202, q_ 204 203 false (.fieldAddr (.t 3) 0 l_), q_ 205 203 false (.load false (some 3) l_ (.t 204)), q_ 206 203 false (.mov (.t 14)), q_ 207 203 false (.call (.f 271) [.t 205, (.t 206)]), q_ 208 203 false (.un .not (.t 207)), o_ 209 (.pick (.t 203) (.c (.b true)) (.t 208)), m_ 210 209, q_ 211 210 false (.mov (.t 16)), q_ 212 210 false (.bin .eql .num (.t 211) (i_ 0)), q_ 213 210 false (.mov (.t 212)), q_ 214 213 true (.mov (.t 8)), q_ 215 213 true (.bin .neq .num (.t 214) (i_ 1)), q_ 216 210 false (.pick (.t 213) (.t 215) (.c (.b false))), o_ 217 (.pick (.t 210) (.c (.b true)) (.t 216)), m_ 218 217, q_ 219 218 false (.mov (.t 16)), q_ 220 218 false (.bin .neq .num (.t 219) (i_ 0)), q_ 221 218 false (.mov (.t 220)), q_ 222 221 true (.mov (.t 8)), q_ 223 221 true (.bin .neq .num (.t 222) (i_ 2)), q_ 224 221 true (.mov (.t 223)), q_ 225 224 false (.fieldAddr (.t 3) 7 l_), q_ 226 224 false (.load false (some 3) l_ (.t 225)), q_ 227 224 false (.indexAddr (.t 226) (i_ 1) 8 none), q_ 228 224 false (.fieldAddr (.t 227) 1 (s_ 4)), q_ 229 224 false (.fieldAddr (.t 228) 0 l_), q_ 230 224 false (.load false none l_ (.t 229)), q_ 231 224 false (.mov (.t 16)), q_ 232 224 false (.bin .neq .num (.t 230) (.t 231)), q_ 233 221 true (.pick (.t 224) (.c (.b true)) (.t 232)), q_ 234 218 false (.pick (.t 221) (.t 233) (.c (.b false))), o_ 235 (.pick (.t 218) (.c (.b true)) (.t 234))]) (.cond (.t 235) (.seq (.ops [o_ 236 (.load false (some 6) (s_ 4) (.t 6)), z_ (.store (some 4) (s_ 4) (.t 4) (.t 236)), o_ 5 (.mov (.c (.b false)))]) (.ret)) (.skip))) (.seq (.ops [o_ 237 (.mov (.mv 17)), o_ 238 (.call (.f 187) [.mv 237]), z_ (.store (some 4) (s_ 4) (.t 4) (.mv 238)), o_ 5 (.mov (.c (.b true)))]) (.ret)))))))))))), none, none⟩
def qfM : Fn := ⟨1, [.t 2, (.t 3), (.t 4)], false, (.seq (.ops [o_ 2 (.mov (i_ 0)), o_ 3 (.mov (i_ 0)), o_ 4 (.mov (i_ 0))]) (.seq (.seq (.ops [m_ 5 0]) (.block 0 [] (.seq (.seq (.ops [o_ 7 (.bin .eql .num (.t 5) (i_ 0)), m_ 6 7]) (.cond (.t 6) (.skip) (.seq (.ops [o_ 8 (.bin .eql .num (.t 5) (i_ 7)), m_ 6 8]) (.cond (.t 6) (.skip) (.seq (.ops [o_ 9 (.bin .eql .num (.t 5) (i_ 8)), m_ 6 9]) (.cond (.t 6) (.skip) (.seq (.ops [o_ 10 (.bin .eql .num (.t 5) (i_ 9)), m_ 6 10]) (.cond (.t 6) (.skip) (.ops [o_ 11 (.bin .eql .num (.t 5) (i_ 10)), m_ 6 11]))))))))) (.cond (.t 6) (.seq (.ops [o_ 2 (.mov (i_ 2)), o_ 3 (.mov (i_ 0)), o_ 4 (.mov (i_ 0))]) (.ret)) (.seq (.seq (.ops [o_ 13 (.bin .eql .num (.t 5) (i_ 1)), m_ 12 13]) (.cond (.t 12) (.skip) (.seq (.ops [o_ 14 (.bin .eql .num (.t 5) (i_ 11)), m_ 12 14]) (.cond (.t 12) (.skip) (.seq (.ops [o_ 15 (.bin .eql .num (.t 5) (i_ 12)), m_ 12 15]) (.cond (.t 12) (.skip) (.seq (.ops [o_ 16 (.bin .eql .num (.t 5) (i_ 13)), m_ 12 16]) (.cond (.t 12) (.skip) (.seq (.ops [o_ 17 (.bin .eql .num (.t 5) (i_ 14)), m_ 12 17]) (.cond (.t 12) (.skip) (.seq (.ops [o_ 18 (.bin .eql .num (.t 5) (i_ 15)), m_ 12 18]) (.cond (.t 12) (.skip) (.ops [o_ 19 (.bin .eql .num (.t 5) (i_ 16)), m_ 12 19]))))))))))))) (.cond (.t 12) (.seq (.ops [o_ 2 (.mov (i_ 1)), o_ 3 (.mov (i_ 0)), o_ 4 (.mov (i_ 0))]) (.ret)) (.seq (.seq (.ops [o_ 21 (.bin .eql .num (.t 5) (i_ 2)), m_ 20 21]) (.cond (.t 20) (.skip) (.ops [o_ 22 (.bin .eql .num (.t 5) (i_ 3)), m_ 20 22]))) (.cond (.t 20) (.seq (.ops [o_ 2 (.mov (i_ (-1))), o_ 3 (.mov (i_ (-1))), o_ 4 (.mov (i_ 0))]) (.ret)) (.seq (.ops [o_ 24 (.bin .eql .num (.t 5) (i_ 4)), m_ 23 24]) (.cond (.t 23) (.seq (.ops [o_ 2 (.mov (i_ 1)), o_ 3 (.mov (i_ 1)), o_ 4 (.mov (i_ 0))]) (.ret)) (.seq (.ops [o_ 26 (.bin .eql .num (.t 5) (i_ 5)), m_ 25 26]) (.cond (.t 25) (.seq (.ops [o_ 2 (.mov (i_ 3)), o_ 3 (.mov (i_ 1)), o_ 4 (.mov (i_ 1))]) (.ret)) (.seq (.ops [o_ 28 (.bin .eql .num (.t 5) (i_ 6)), m_ 27 28]) (.cond (.t 27) (.seq (.ops [o_ 2 (.mov (i_ 1)), o_ 3 (.mov (i_ (-1))), o_ 4 (.mov (i_ (-1)))]) (.ret)) (.seq (.ops [o_ 30 (.bin .eql .num (.t 5) (i_ 17)), m_ 29 30]) (.cond (.t 29) (.seq (.ops [o_ 2 (.mov (i_ 0)), o_ 3 (.mov (i_ 0)), o_ 4 (.mov (i_ 0))]) (.ret)) (.skip))))))))))))))))) (.seq (.ops [o_ 2 (.mov (i_ (-2))), o_ 3 (.mov (i_ 0)), o_ 4 (.mov (i_ 0))]) (.ret)))), none, none⟩
def qc2 : Fn := ⟨2, [.t 4], true, (.seq (.ops [o_ 3 (.box true (.t 1)), o_ 4 (.mov (.c (.b false)))]) (.seq (.ops [o_ 5 (.load false (some 3) (s_ 8) (.t 3)), o_ 6 (.call (.f 204) [.t 5]), o_ 7 (.mov (.mv 6)), q_ 8 7 true (.mov (.t 0)), q_ 9 7 true (.load false (some 3) (s_ 8) (.t 3)), q_ 10 7 true (.call (.f 106) [.t 8, (.t 9)]), o_ 11 (.pick (.t 7) (.t 10) (.c (.b false))), m_ 12 11, q_ 13 12 true (.mov (.t 0)), q_ 14 12 true (.load false (some 3) (s_ 8) (.t 3)), q_ 15 12 true (.call (.f 272) [.t 13, (.t 14)]), o_ 16 (.pick (.t 12) (.t 15) (.c (.b false))), m_ 4 16]) (.ret))), none, none⟩
def qix : C := (.seq (.seq (.ops [m_ 30 12, o_ 31 (.fieldAddr (.t 9) 6 l_), o_ 32 (.load false (some 9) l_ (.t 31)), o_ 33 (.bi .lenL [.t 32]), o_ 34 (.bin .lss .num (.t 30) (.t 33)), m_ 35 34, q_ 36 35 true (.mov (.t 11)), o_ 37 (.pick (.t 35) (.t 36) (.c (.b false)))]) (.cond (.t 37) (.skip) (.exit 0))) (.seq (.block 1 [4, 7, 9, 10, 11, 12] (.seq (.ops [o_ 40 (.fieldAddr (.t 9) 6 l_), o_ 41 (.load false (some 9) l_ (.t 40)), m_ 42 12, o_ 43 (.indexAddr (.t 41) (.t 42) 10 none), o_ 44 (.load false none (s_ 10) (.t 43)), o_ 13 (.alloc true [(.s []), (.b false), .nil, (.i .i64 0), (.i .i64 0), (.s []), .nil, .nil, .nil, .nil]), z_ (.store (some 13) (s_ 10) (.t 13) (.t 44))]) (.seq (.ops [o_ 45 (.fieldAddr (.t 13) 0 l_), o_ 46 (.load false (some 13) l_ (.t 45)), m_ 47 7, o_ 48 (.bin .eql .num (.t 46) (.t 47)), m_ 49 48, q_ 50 49 true (.fieldAddr (.t 13) 1 l_), q_ 51 49 true (.load false (some 13) l_ (.t 50)), q_ 52 49 true (.mov (.t 51)), q_ 53 52 false (.mov (.t 10)), q_ 54 52 false (.un .not (.t 53)), q_ 55 49 true (.pick (.t 52) (.c (.b true)) (.t 54)), o_ 56 (.pick (.t 49) (.t 55) (.c (.b false)))]) (.cond (.t 56) (.seq (.ops [o_ 57 (.load false (some 13) (s_ 10) (.t 13)), z_ (.store (some 4) (s_ 10) (.t 4) (.t 57)), o_ 5 (.mov (.c (.b true)))]) (.ret)) (.skip))))) (.ops [m_ 38 12, o_ 39 (.bin .add .num (.t 38) (i_ 1)), m_ 12 39])))
def qh8 : C := .loop [4, 7, 9, 10, 11, 12] qix
def qh6 : C := (.seq (.ops [o_ 58 (.build [(.s []), (.b false), .nil, (.i .i64 0), (.i .i64 0), (.s []), .nil, .nil, .nil, .nil] []), z_ (.store (some 4) (s_ 10) (.t 4) (.t 58)), o_ 5 (.mov (.c (.b false)))]) (.ret))
def qed : Fn := ⟨2, [(.cell 4 (s_ 10)), (.t 5)], false, (.seq (.ops [o_ 4 (.alloc true [(.s []), (.b false), .nil, (.i .i64 0), (.i .i64 0), (.s []), .nil, .nil, .nil, .nil]), o_ 5 (.mov (.c (.b false)))]) (.seq (.ops [o_ 15 (.mov (.mv 1)), o_ 16 (.call (.f 189) [.mv 15]), m_ 14 16, o_ 17 (.extract (.t 14) 0), o_ 18 (.extract (.t 14) 1), o_ 19 (.extract (.t 14) 2), m_ 6 17, m_ 7 18, m_ 8 19]) (.seq (.seq (.ops [m_ 20 8, o_ 21 (.un .not (.t 20))]) (.cond (.t 21) (.seq (.ops [o_ 22 (.build [(.s []), (.b false), .nil, (.i .i64 0), (.i .i64 0), (.s []), .nil, .nil, .nil, .nil] []), z_ (.store (some 4) (s_ 10) (.t 4) (.t 22)), o_ 5 (.mov (.c (.b false)))]) (.ret)) (.skip))) (.seq (.ops [o_ 24 (.mov (.mv 0)), o_ 25 (.mov (.mv 6)), o_ 26 (.call (.f 190) [.mv 24, (.mv 25)]), m_ 23 26, o_ 27 (.extract (.t 23) 0), o_ 28 (.extract (.t 23) 1), o_ 29 (.extract (.t 23) 2), o_ 9 (.alloc true [(.s []), .nil, .nil, .nil, .nil, .nil, .nil, .nil]), z_ (.store (some 9) (s_ 8) (.t 9) (.t 27)), m_ 10 28, m_ 11 29]) (.seq (.seq (.ops [o_ 12 (.mov (i_ 0))]) (.block 0 [4] (qh8))) (qh6)))))), none, none⟩
def qim : C := (.seq (.seq (.ops [m_ 15 7, m_ 16 2, o_ 17 (.bi .lenL [.t 16]), o_ 18 (.bin .lss .num (.t 15) (.t 17))]) (.cond (.t 18) (.skip) (.exit 0))) (.seq (.block 1 [0, 2, 4, 7] (.seq (.ops [o_ 21 (.fieldAddr (.t 4) 2 l_), o_ 22 (.load false (some 4) l_ (.t 21)), m_ 23 7, o_ 24 (.indexAddr (.t 22) (.t 23) 6 none), o_ 25 (.load false none (s_ 6) (.t 24)), o_ 8 (.alloc true [(.s []), (.b false), (.i .i64 0), (.i .i64 0), (.s []), .nil]), z_ (.store (some 8) (s_ 6) (.t 8) (.t 25))]) (.seq (.opsD [(o_ 26 (.fieldAddr (.t 8) 1 l_), true, []), (o_ 27 (.load false (some 8) l_ (.t 26)), true, []), (m_ 28 27, true, []), (q_ 29 28 true (.mov (.t 2)), false, []), (q_ 30 28 true (.mov (.t 7)), false, []), (q_ 31 28 true (.indexAddr (.t 29) (.t 30) 8 none), true, []), (q_ 32 28 true (.load false none (s_ 8) (.t 31)), true, []), (q_ 33 28 true (.call (.f 204) [.t 32]), true, []), (q_ 34 28 true (.mov (.mv 33)), true, []), (q_ 35 34 true (.mov (.t 0)), false, []), (q_ 36 34 true (.mov (.t 2)), false, []), (q_ 37 34 true (.mov (.t 7)), false, []), (q_ 38 34 true (.indexAddr (.t 36) (.t 37) 8 none), false, []), (q_ 39 34 true (.load false none (s_ 8) (.t 38)), false, []), (q_ 40 34 true (.call (.f 272) [.t 35, (.t 39)]), true, []), (q_ 41 28 true (.pick (.t 34) (.t 40) (.c (.b false))), true, []), (q_ 42 28 true (.mov (.t 41)), true, []), (q_ 43 42 true (.fieldAddr (.t 8) 2 (s_ 4)), false, []), (q_ 44 42 true (.load false (some 8) (s_ 4) (.t 43)), false, []), (q_ 45 42 true (.mov (.t 2)), false, []), (q_ 46 42 true (.mov (.t 7)), false, []), (q_ 47 42 true (.indexAddr (.t 45) (.t 46) 8 none), false, []), (q_ 48 42 true (.fieldAddr (.t 47) 1 (s_ 4)), false, []), (q_ 49 42 true (.load false none (s_ 4) (.t 48)), false, []), (q_ 50 42 true (.call (.f 194) [.t 44, (.t 49)]), true, []), (q_ 51 28 true (.pick (.t 42) (.t 50) (.c (.b false))), true, []), (q_ 52 28 true (.un .not (.t 51)), true, []), (o_ 53 (.pick (.t 28) (.t 52) (.c (.b false))), true, []), (m_ 54 53, true, []), (q_ 55 54 false (.fieldAddr (.t 8) 1 l_), true, []), (q_ 56 54 false (.load false (some 8) l_ (.t 55)), true, []), (q_ 57 54 false (.un .not (.t 56)), true, []), (q_ 58 54 false (.mov (.t 57)), true, []), (q_ 59 58 true (.fieldAddr (.t 8) 2 (s_ 4)), false, []), (q_ 60 58 true (.load false (some 8) (s_ 4) (.t 59)), false, []), (q_ 61 58 true (.mov (.t 2)), false, []), (q_ 62 58 true (.mov (.t 7)), false, []), (q_ 63 58 true (.indexAddr (.t 61) (.t 62) 8 none), false, []), (q_ 64 58 true (.fieldAddr (.t 63) 1 (s_ 4)), false, []), (q_ 65 58 true (.load false none (s_ 4) (.t 64)), false, []), (q_ 66 58 true (.mov (.t 0)), false, []), (q_ 67 58 true (.nilCheck (.t 66)), false, []), (q_ 68 58 true (.fieldAddr (.t 67) 9 l_), false, []), (q_ 69 58 true (.load false none l_ (.t 68)), false, []), (q_ 70 58 true (.call (.f 107) [.t 60, (.t 65), (.t 69)]), true, []), (q_ 71 58 true (.un .not (.t 70)), true, []), (q_ 72 54 false (.pick (.t 58) (.t 71) (.c (.b false))), true, []), (o_ 73 (.pick (.t 54) (.c (.b true)) (.t 72)), true, [])]) (.cond (.t 73) (.seq (.ops [o_ 6 (.mov (.c (.b false)))]) (.ret)) (.skip))))) (.ops [m_ 19 7, o_ 20 (.bin .add .num (.t 19) (i_ 1)), m_ 7 20])))
def qh3 : C := .loop [0, 2, 4, 7] qim
def qih : C := (.seq (.ops [o_ 6 (.mov (.c (.b true)))]) (.ret))
def qd6 : Fn := ⟨3, [.t 6], true, (.seq (.ops [o_ 4 (.box true (.t 1)), o_ 6 (.mov (.c (.b false)))]) (.seq (.seq (.ops [m_ 9 2, o_ 10 (.bi .lenL [.t 9]), o_ 11 (.fieldAddr (.t 4) 2 l_), o_ 12 (.load false (some 4) l_ (.t 11)), o_ 13 (.bi .lenL [.t 12]), o_ 14 (.bin .neq .num (.t 10) (.t 13))]) (.cond (.t 14) (.seq (.ops [o_ 6 (.mov (.c (.b false)))]) (.ret)) (.skip))) (.seq (.seq (.ops [o_ 7 (.mov (i_ 0))]) (.block 0 [] (qh3))) (qih)))), none, none⟩
def qd0 : Fn := ⟨3, [.t 6], true, (.seq (.ops [o_ 4 (.box true (.t 1)), o_ 6 (.mov (.c (.b false)))]) (.seq (.ops [o_ 7 (.mov (.mv 0)), o_ 8 (.load false (some 4) (s_ 8) (.t 4)), o_ 9 (.call (.f 106) [.mv 7, (.t 8)]), o_ 10 (.mov (.mv 9)), q_ 11 10 true (.fieldAddr (.t 4) 1 (s_ 4)), q_ 12 10 true (.load false (some 4) (s_ 4) (.t 11)), q_ 13 10 true (.mov (.t 2)), q_ 14 10 true (.call (.f 98) [.t 12, (.t 13)]), o_ 15 (.pick (.t 10) (.t 14) (.c (.b false))), m_ 6 15]) (.ret))), none, none⟩
def qgm : Fn := ⟨1, [.t 2], true, (.seq (.ops [o_ 1 (.box true (.t 0)), o_ 2 (.mov (.c (.b false)))]) (.seq (.seq (.ops [o_ 3 (.fieldAddr (.t 1) 0 l_), o_ 4 (.load false (some 1) l_ (.t 3))]) (.block 0 [] (.seq (.seq (.ops [o_ 6 (.bin .eql .num (.t 4) (i_ 1)), m_ 5 6]) (.cond (.t 5) (.skip) (.seq (.ops [o_ 7 (.bin .eql .num (.t 4) (i_ 2)), m_ 5 7]) (.cond (.t 5) (.skip) (.seq (.ops [o_ 8 (.bin .eql .num (.t 4) (i_ 3)), m_ 5 8]) (.cond (.t 5) (.skip) (.seq (.ops [o_ 9 (.bin .eql .num (.t 4) (i_ 4)), m_ 5 9]) (.cond (.t 5) (.skip) (.ops [o_ 10 (.bin .eql .num (.t 4) (i_ 5)), m_ 5 10]))))))))) (.cond (.t 5) (.seq (.ops [o_ 2 (.mov (.c (.b true)))]) (.ret)) (.skip))))) (.seq (.ops [o_ 2 (.mov (.c (.b false)))]) (.ret)))), none, none⟩
def qb2 : C := (.seq (.ops [o_ 9 (.bin .lss .num (.t 8) (.t 7))]) (.seq (.cond (.t 9) (.skip) (.exit 0)) (.seq (.block 1 [0, 1, 7, 8] (.seq (.ops [m_ 10 8, m_ 5 10]) (.seq (.ops [m_ 11 1, m_ 12 0, m_ 13 5, o_ 14 (.indexAddr (.t 12) (.t 13) 6 none), o_ 15 (.load false none (s_ 6) (.t 14)), o_ 16 (.call (.t 11) [.t 15])]) (.cond (.t 16) (.seq (.ops [m_ 17 5, m_ 4 17]) (.ret)) (.skip))))) (.ops [o_ 18 (.bin .add .num (.t 8) (i_ 1)), m_ 8 18]))))
def qb7 : C := .loop [0, 1, 7, 8] qb2
def qb1 : C := (.seq (.ops [o_ 4 (.mov (i_ (-1)))]) (.ret))
def qae : Fn := ⟨2, [.t 4], true, (.seq (.ops [o_ 4 (.mov (i_ 0))]) (.seq (.seq (.ops [m_ 6 0, o_ 7 (.bi .lenL [.t 6]), o_ 8 (.mov (i_ 0))]) (.block 0 [] (qb7))) (qb1))), none, none⟩
def yf : Fn := ⟨2, [.t 4], true, (.seq (.ops [o_ 4 (.mov (.c (.b false)))]) (.seq (.ops [o_ 5 (.mov (.mv 0)), o_ 6 (.mov (.mv 1)), o_ 7 (.call (.f 292) [.mv 5, (.mv 6)]), o_ 8 (.bin .geq .num (.t 7) (i_ 0)), m_ 4 8]) (.ret))), none, none⟩
def qbF : C := (.seq (.ops [o_ 9 (.bin .lss .num (.t 8) (.t 7))]) (.seq (.cond (.t 9) (.skip) (.exit 0)) (.seq (.block 1 [0, 1, 7, 8] (.seq (.ops [m_ 10 8, m_ 5 10]) (.seq (.ops [m_ 11 1, m_ 12 0, m_ 13 5, o_ 14 (.indexAddr (.t 12) (.t 13) 8 none), o_ 15 (.load false none (s_ 8) (.t 14)), o_ 16 (.call (.t 11) [.t 15])]) (.cond (.t 16) (.seq (.ops [m_ 17 5, m_ 4 17]) (.ret)) (.skip))))) (.ops [o_ 18 (.bin .add .num (.t 8) (i_ 1)), m_ 8 18]))))
def qbJ : C := .loop [0, 1, 7, 8] qbF
def qbv : C := (.seq (.ops [o_ 4 (.mov (i_ (-1)))]) (.ret))
def yO : Fn := ⟨2, [.t 4], true, (.seq (.ops [o_ 4 (.mov (i_ 0))]) (.seq (.seq (.ops [m_ 6 0, o_ 7 (.bi .lenL [.t 6]), o_ 8 (.mov (i_ 0))]) (.block 0 [] (qbJ))) (qbv))), none, none⟩
def qa7 : C := (.seq (.ops [o_ 9 (.bin .lss .num (.t 8) (.t 7))]) (.seq (.cond (.t 9) (.skip) (.exit 0)) (.seq (.block 1 [0, 1, 7, 8] (.seq (.ops [m_ 10 8, m_ 5 10]) (.seq (.ops [m_ 11 1, m_ 12 0, m_ 13 5, o_ 14 (.indexAddr (.t 12) (.t 13) 1 none), o_ 15 (.load false none l_ (.t 14)), o_ 16 (.call (.t 11) [.t 15])]) (.cond (.t 16) (.seq (.ops [m_ 17 5, m_ 4 17]) (.ret)) (.skip))))) (.ops [o_ 18 (.bin .add .num (.t 8) (i_ 1)), m_ 8 18]))))
def qa6 : C := .loop [0, 1, 7, 8] qa7
def qa8 : C := (.seq (.ops [o_ 4 (.mov (i_ (-1)))]) (.ret))
def jY : Fn := ⟨2, [.t 4], true, (.seq (.ops [o_ 4 (.mov (i_ 0))]) (.seq (.seq (.ops [m_ 6 0, o_ 7 (.bi .lenL [.t 6]), o_ 8 (.mov (i_ 0))]) (.block 0 [] (qa6))) (qa8))), none, none⟩
def qa3 : C := (.seq (.ops [o_ 9 (.bin .lss .num (.t 8) (.t 7))]) (.seq (.cond (.t 9) (.skip) (.exit 0)) (.seq (.block 1 [0, 1, 7, 8] (.seq (.ops [m_ 10 8, m_ 5 10]) (.seq (.ops [m_ 11 1, m_ 12 0, m_ 13 5, o_ 14 (.indexAddr (.t 12) (.t 13) 8 none), o_ 15 (.load false none (s_ 8) (.t 14)), o_ 16 (.call (.t 11) [.t 15])]) (.cond (.t 16) (.seq (.ops [m_ 17 5, m_ 4 17]) (.ret)) (.skip))))) (.ops [o_ 18 (.bin .add .num (.t 8) (i_ 1)), m_ 8 18]))))
def qbb : C := .loop [0, 1, 7, 8] qa3
def qba : C := (.seq (.ops [o_ 4 (.mov (i_ (-1)))]) (.ret))
def jZ : Fn := ⟨2, [.t 4], true, (.seq (.ops [o_ 4 (.mov (i_ 0))]) (.seq (.seq (.ops [m_ 6 0, o_ 7 (.bi .lenL [.t 6]), o_ 8 (.mov (i_ 0))]) (.block 0 [] (qbb))) (qba))), none, none⟩
def qeS : Fn := ⟨2, [.t 3], true, (.seq (.ops [o_ 2 (.box true (.t 0)), o_ 3 (.mov (.c (.b false)))]) (.seq (.ops [o_ 4 (.fieldAddr (.t 2) 0 l_), o_ 5 (.load false (some 2) l_ (.t 4)), o_ 6 (.load false none l_ (.t 1)), o_ 7 (.bin .eql .num (.t 5) (.t 6)), m_ 3 7]) (.ret))), none, none⟩
def qfk : Fn := ⟨2, [.t 4], true, (.seq (.ops [o_ 3 (.box true (.t 1)), o_ 4 (.mov (i_ 0))]) (.seq (.block 0 [] (.seq (.ops [o_ 7 (.load false (some 3) (s_ 4) (.t 3)), o_ 8 (.call (.f 147) [.t 7]), o_ 9 (.un .not (.t 8)), m_ 6 9]) (.cond (.t 6) (.seq (.ops [o_ 4 (.mov (i_ (-1)))]) (.ret)) (.seq (.ops [o_ 11 (.fieldAddr (.t 3) 0 l_), o_ 12 (.load false (some 3) l_ (.t 11)), o_ 13 (.bin .eql .num (.t 12) (i_ 7)), m_ 10 13]) (.cond (.t 10) (.seq (.ops [o_ 14 (.mov (.mv 0)), o_ 15 (.fieldAddr (.t 3) 3 l_), o_ 16 (.load false (some 3) l_ (.t 15)), o_ 17 (.indexAddr (.t 16) (i_ 0) 4 none), o_ 18 (.load false none (s_ 4) (.t 17)), o_ 19 (.call (.f 242) [.mv 14, (.t 18)]), o_ 5 (.mov (.mv 19))]) (.seq (.seq (.ops [m_ 20 5, o_ 21 (.bin .lss .num (.t 20) (i_ 0)), m_ 22 21, q_ 23 22 false (.mov (.t 5)), q_ 24 22 false (.fieldAddr (.t 3) 1 l_), q_ 25 22 false (.load false (some 3) l_ (.t 24)), q_ 26 22 false (.bin .quo .num (i_ 16384) (.t 25)), q_ 27 22 false (.bin .gtr .num (.t 23) (.t 26)), o_ 28 (.pick (.t 22) (.c (.b true)) (.t 27))]) (.cond (.t 28) (.seq (.ops [o_ 4 (.mov (i_ (-1)))]) (.ret)) (.skip))) (.seq (.ops [m_ 29 5, o_ 30 (.fieldAddr (.t 3) 1 l_), o_ 31 (.load false (some 3) l_ (.t 30)), o_ 32 (.bin .mul .num (.t 29) (.t 31)), m_ 4 32]) (.ret)))) (.seq (.ops [o_ 34 (.fieldAddr (.t 3) 0 l_), o_ 35 (.load false (some 3) l_ (.t 34)), o_ 36 (.bin .eql .num (.t 35) (i_ 8)), m_ 33 36]) (.cond (.t 33) (.seq (.ops [o_ 37 (.mov (.mv 0)), o_ 38 (.fieldAddr (.t 3) 2 l_), o_ 39 (.load false (some 3) l_ (.t 38)), o_ 40 (.call (.f 293) [.mv 37, (.t 39)]), o_ 4 (.mov (.mv 40))]) (.ret)) (.skip)))))))) (.seq (.ops [o_ 4 (.mov (i_ 1))]) (.ret)))), none, none⟩
def qgE : Fn := ⟨2, [.t 4], true, (.seq (.ops [o_ 4 (.mov (.c (.b false)))]) (.seq (.ops [o_ 5 (.mov (.mv 0)), o_ 6 (.mov (.mv 1)), o_ 7 (.call (.f 294) [.mv 5, (.mv 6)]), o_ 8 (.bin .geq .num (.t 7) (i_ 0)), m_ 4 8]) (.ret))), none, none⟩
def qjI : Fn := ⟨2, [.t 4], true, (.seq (.ops [o_ 2 (.box true (.t 0)), o_ 3 (.box true (.t 1)), o_ 4 (.mov (.c (.b false)))]) (.seq (.ops [o_ 5 (.fieldAddr (.t 2) 0 l_), o_ 6 (.load false (some 2) l_ (.t 5)), o_ 7 (.fieldAddr (.t 3) 0 l_), o_ 8 (.load false (some 3) l_ (.t 7)), o_ 9 (.bin .eql .num (.t 6) (.t 8)), m_ 10 9, q_ 11 10 true (.fieldAddr (.t 2) 1 l_), q_ 12 10 true (.load false (some 2) l_ (.t 11)), q_ 13 10 true (.fieldAddr (.t 3) 1 l_), q_ 14 10 true (.load false (some 3) l_ (.t 13)), q_ 15 10 true (.bin .eql .num (.t 12) (.t 14)), o_ 16 (.pick (.t 10) (.t 15) (.c (.b false))), m_ 17 16, q_ 18 17 true (.fieldAddr (.t 2) 2 l_), q_ 19 17 true (.load false (some 2) l_ (.t 18)), q_ 20 17 true (.fieldAddr (.t 3) 2 l_), q_ 21 17 true (.load false (some 3) l_ (.t 20)), q_ 22 17 true (.bin .eql .num (.t 19) (.t 21)), o_ 23 (.pick (.t 17) (.t 22) (.c (.b false))), m_ 24 23, q_ 25 24 true (.fieldAddr (.t 2) 3 l_), q_ 26 24 true (.load false (some 2) l_ (.t 25)), q_ 27 24 true (.fieldAddr (.t 3) 3 l_), q_ 28 24 true (.load false (some 3) l_ (.t 27)), q_ 29 24 true (.call (.f 254) [.t 26, (.t 28), (.f 252)]), o_ 30 (.pick (.t 24) (.t 29) (.c (.b false))), m_ 4 30]) (.ret))), none, none⟩
def j6 : C := (.seq (.ops [o_ 18 (.bin .lss .num (.t 17) (.t 16))]) (.seq (.cond (.t 18) (.skip) (.exit 0)) (.seq (.block 1 [1, 2, 15, 16, 17] (.seq (.ops [m_ 19 17, o_ 20 (.indexAddr (.t 15) (.t 17) 8 none), o_ 21 (.load false none (s_ 8) (.t 20)), o_ 8 (.alloc true [(.i .i64 0), (.i .i64 0), (.i .i64 0), (.s []), .nil, (.i .i32 0), (.s []), .nil]), m_ 7 19, z_ (.store (some 8) (s_ 8) (.t 8) (.t 21))]) (.seq (.ops [m_ 22 1, m_ 23 7, o_ 24 (.indexAddr (.t 22) (.t 23) 8 none), o_ 25 (.load false none (s_ 8) (.t 24)), o_ 9 (.alloc true [(.i .i64 0), (.i .i64 0), (.i .i64 0), (.s []), .nil, (.i .i32 0), (.s []), .nil]), z_ (.store (some 9) (s_ 8) (.t 9) (.t 25))]) (.seq (.ops [m_ 26 2, o_ 27 (.load false (some 8) (s_ 8) (.t 8)), o_ 28 (.load false (some 9) (s_ 8) (.t 9)), o_ 29 (.call (.t 26) [.t 27, (.t 28)]), o_ 30 (.un .not (.t 29))]) (.cond (.t 30) (.seq (.ops [o_ 6 (.mov (.c (.b false)))]) (.ret)) (.skip)))))) (.ops [o_ 31 (.bin .add .num (.t 17) (i_ 1)), m_ 17 31]))))
def j9 : C := .loop [1, 2, 15, 16, 17] j6
def j3 : C := (.seq (.ops [o_ 6 (.mov (.c (.b true)))]) (.ret))
def jd : Fn := ⟨3, [.t 6], true, (.seq (.ops [o_ 6 (.mov (.c (.b false)))]) (.seq (.seq (.ops [m_ 10 0, o_ 11 (.bi .lenL [.t 10]), m_ 12 1, o_ 13 (.bi .lenL [.t 12]), o_ 14 (.bin .neq .num (.t 11) (.t 13))]) (.cond (.t 14) (.seq (.ops [o_ 6 (.mov (.c (.b false)))]) (.ret)) (.skip))) (.seq (.seq (.ops [m_ 15 0, o_ 16 (.bi .lenL [.t 15]), o_ 17 (.mov (i_ 0))]) (.block 0 [] (j9))) (j3)))), none, none⟩
def yh : C := (.seq (.ops [o_ 18 (.bin .lss .num (.t 17) (.t 16))]) (.seq (.cond (.t 18) (.skip) (.exit 0)) (.seq (.block 1 [1, 2, 15, 16, 17] (.seq (.ops [m_ 19 17, o_ 20 (.indexAddr (.t 15) (.t 17) 4 none), o_ 21 (.load false none (s_ 4) (.t 20)), o_ 8 (.alloc true [(.i .i64 0), (.i .i64 0), (.s []), .nil]), m_ 7 19, z_ (.store (some 8) (s_ 4) (.t 8) (.t 21))]) (.seq (.ops [m_ 22 1, m_ 23 7, o_ 24 (.indexAddr (.t 22) (.t 23) 4 none), o_ 25 (.load false none (s_ 4) (.t 24)), o_ 9 (.alloc true [(.i .i64 0), (.i .i64 0), (.s []), .nil]), z_ (.store (some 9) (s_ 4) (.t 9) (.t 25))]) (.seq (.ops [m_ 26 2, o_ 27 (.load false (some 8) (s_ 4) (.t 8)), o_ 28 (.load false (some 9) (s_ 4) (.t 9)), o_ 29 (.call (.t 26) [.t 27, (.t 28)]), o_ 30 (.un .not (.t 29))]) (.cond (.t 30) (.seq (.ops [o_ 6 (.mov (.c (.b false)))]) (.ret)) (.skip)))))) (.ops [o_ 31 (.bin .add .num (.t 17) (i_ 1)), m_ 17 31]))))
def j1 : C := .loop [1, 2, 15, 16, 17] yh
def ye : C := (.seq (.ops [o_ 6 (.mov (.c (.b true)))]) (.ret))
def jc : Fn := ⟨3, [.t 6], true, (.seq (.ops [o_ 6 (.mov (.c (.b false)))]) (.seq (.seq (.ops [m_ 10 0, o_ 11 (.bi .lenL [.t 10]), m_ 12 1, o_ 13 (.bi .lenL [.t 12]), o_ 14 (.bin .neq .num (.t 11) (.t 13))]) (.cond (.t 14) (.seq (.ops [o_ 6 (.mov (.c (.b false)))]) (.ret)) (.skip))) (.seq (.seq (.ops [m_ 15 0, o_ 16 (.bi .lenL [.t 15]), o_ 17 (.mov (i_ 0))]) (.block 0 [] (j1))) (ye)))), none, none⟩
def qbe : Fn := ⟨2, [.t 4], true, (.seq (.ops [⟨some 4, .mov (.c (.b false)), none⟩]) ((.seq (.ops [⟨some 5, .mov (.mv 0), none⟩, ⟨some 6, .mov (.mv 1), none⟩, ⟨some 7, .call (.f 299) [.mv 5, (.mv 6)], none⟩, ⟨some 4, .mov (.mv 7), none⟩]) (.ret)))), none, none⟩
def qlu : C := (.seq (.ops [o_ 74 (.bin .lss .num (.t 73) (.t 72))]) (.seq (.cond (.t 74) (.skip) (.exit 0)) (.seq (.block 1 [3, 71, 72, 73] (.seq (.ops [m_ 75 73, o_ 76 (.indexAddr (.t 71) (.t 73) 1 none), o_ 77 (.load false none l_ (.t 76)), m_ 7 75, m_ 8 77]) (.seq (.ops [o_ 78 (.fieldAddr (.t 3) 1 l_), o_ 79 (.load false (some 3) l_ (.t 78)), m_ 80 7, o_ 81 (.indexAddr (.t 79) (.t 80) 8 none), o_ 82 (.fieldAddr (.t 81) 1 (s_ 4)), o_ 83 (.fieldAddr (.t 82) 0 l_), o_ 84 (.load false none l_ (.t 83)), m_ 85 8, o_ 86 (.bin .neq .num (.t 84) (.t 85))]) (.cond (.t 86) (.seq (.ops [o_ 4 (.mov (.c (.b false)))]) (.ret)) (.skip))))) (.ops [o_ 87 (.bin .add .num (.t 73) (i_ 1)), m_ 73 87]))))
def qkS : C := .loop [3, 71, 72, 73] qlu
def qkD : C := (.seq (.ops [o_ 4 (.mov (.c (.b true)))]) (.ret))
def qhX : Fn := ⟨2, [.t 4], true, (.seq (.ops [o_ 3 (.box true (.t 1)), o_ 4 (.mov (.c (.b false)))]) (.seq (.seq (.ops [o_ 9 (.fieldAddr (.t 3) 0 l_), o_ 10 (.load false (some 3) l_ (.t 9)), o_ 11 (.bin .eql .num (.t 10) (i_ 16))]) (.cond (.t 11) (.seq (.ops [o_ 12 (.fieldAddr (.t 3) 1 l_), o_ 13 (.load false (some 3) l_ (.t 12)), o_ 14 (.bi .lenL [.t 13]), o_ 15 (.bin .eql .num (.t 14) (i_ 1)), m_ 16 15, q_ 17 16 true (.fieldAddr (.t 3) 1 l_), q_ 18 16 true (.load false (some 3) l_ (.t 17)), q_ 19 16 true (.indexAddr (.t 18) (i_ 0) 8 none), q_ 20 16 true (.fieldAddr (.t 19) 0 l_), q_ 21 16 true (.load false none l_ (.t 20)), q_ 22 16 true (.bin .eql .num (.t 21) (i_ 0)), q_ 23 16 true (.mov (.t 22)), q_ 24 23 true (.fieldAddr (.t 3) 1 l_), q_ 25 23 true (.load false (some 3) l_ (.t 24)), q_ 26 23 true (.indexAddr (.t 25) (i_ 0) 8 none), q_ 27 23 true (.fieldAddr (.t 26) 1 (s_ 4)), q_ 28 23 true (.fieldAddr (.t 27) 0 l_), q_ 29 23 true (.load false none l_ (.t 28)), q_ 30 23 true (.bin .eql .num (.t 29) (i_ 6)), q_ 31 16 true (.pick (.t 23) (.t 30) (.c (.b false))), q_ 32 16 true (.mov (.t 31)), q_ 33 32 false (.fieldAddr (.t 3) 1 l_), q_ 34 32 false (.load false (some 3) l_ (.t 33)), q_ 35 32 false (.indexAddr (.t 34) (i_ 0) 8 none), q_ 36 32 false (.load false none (s_ 8) (.t 35)), q_ 37 32 false (.call (.f 300) [.t 36]), q_ 38 16 true (.pick (.t 32) (.c (.b true)) (.t 37)), o_ 39 (.pick (.t 16) (.t 38) (.c (.b false))), m_ 4 39]) (.ret)) (.skip))) (.seq (.ops [o_ 41 (.fieldAddr (.t 3) 0 l_), o_ 42 (.load false (some 3) l_ (.t 41)), o_ 43 (.call (.f 301) [.t 42]), m_ 40 43, o_ 44 (.extract (.t 40) 0), o_ 45 (.extract (.t 40) 1), m_ 5 44, m_ 6 45]) (.seq (.seq (.ops [o_ 46 (.fieldAddr (.t 3) 1 l_), o_ 47 (.load false (some 3) l_ (.t 46)), o_ 48 (.bi .lenL [.t 47]), m_ 49 5, o_ 50 (.bi .lenL [.t 49]), o_ 51 (.bin .neq .num (.t 48) (.t 50)), m_ 52 51, q_ 53 52 false (.mov (.t 6)), q_ 54 52 false (.mov (.t 53)), q_ 55 54 true (.fieldAddr (.t 3) 1 l_), q_ 56 54 true (.load false (some 3) l_ (.t 55)), q_ 57 54 true (.indexAddr (.t 56) (i_ 0) 8 none), q_ 58 54 true (.load false none (s_ 8) (.t 57)), q_ 59 54 true (.call (.f 165) [.t 58]), q_ 60 54 true (.mov (.mv 59)), q_ 61 60 true (.mov (.t 0)), q_ 62 60 true (.fieldAddr (.t 3) 1 l_), q_ 63 60 true (.load false (some 3) l_ (.t 62)), q_ 64 60 true (.indexAddr (.t 63) (i_ 0) 8 none), q_ 65 60 true (.load false none (s_ 8) (.t 64)), q_ 66 60 true (.call (.f 166) [.t 61, (.t 65)]), q_ 67 54 true (.pick (.t 60) (.t 66) (.c (.b false))), q_ 68 54 true (.un .not (.t 67)), q_ 69 52 false (.pick (.t 54) (.t 68) (.c (.b false))), o_ 70 (.pick (.t 52) (.c (.b true)) (.t 69))]) (.cond (.t 70) (.seq (.ops [o_ 4 (.mov (.c (.b false)))]) (.ret)) (.skip))) (.seq (.seq (.ops [m_ 71 5, o_ 72 (.bi .lenL [.t 71]), o_ 73 (.mov (i_ 0))]) (.block 0 [] (qkS))) (qkD)))))), none, none⟩
def qhL : Fn := ⟨2, [], false, .ops [⟨some 4, .mov (.t 0), none⟩, ⟨some 5, .mov (.t 1), none⟩, ⟨some 6, .build [(.i .i64 0), (.i .i64 0)] [(0, 1, (.t 4)), (1, 1, (.t 5))], none⟩, ⟨some 7, .build [(.i .i64 0), (.i .i64 0)] [(0, 2, (.t 6))], none⟩, ⟨some 8, .mkIfc 157 (.t 7), none⟩, ⟨none, .panic (.t 8), none⟩], none, none⟩
def jT : C := (.seq ((.seq (.opsD [(⟨some 10, .mov (.t 0), none⟩, false, []), (⟨some 11, .nilCheck (.t 10), none⟩, false, []), (⟨some 12, .fieldAddr (.t 11) 1 ⟨1, false⟩, none⟩, false, []), (⟨some 13, .load false none ⟨1, false⟩ (.t 12), none⟩, false, []), (⟨some 14, .mov (.t 0), none⟩, false, []), (⟨some 15, .nilCheck (.t 14), none⟩, false, []), (⟨some 16, .fieldAddr (.t 15) 0 ⟨1, false⟩, none⟩, false, []), (⟨some 17, .load false none ⟨1, false⟩ (.t 16), none⟩, false, []), (⟨some 18, .bi .lenS [.t 17], none⟩, false, []), (⟨some 19, .bin .lss .num (.t 13) (.t 18), none⟩, true, []), (⟨some 20, .mov (.t 19), none⟩, true, []), (⟨some 21, .mov (.t 1), some (20, true)⟩, false, []), (⟨some 22, .mov (.t 0), some (20, true)⟩, false, []), (⟨some 23, .nilCheck (.t 22), some (20, true)⟩, false, []), (⟨some 24, .fieldAddr (.t 23) 0 ⟨1, false⟩, some (20, true)⟩, false, []), (⟨some 25, .load false none ⟨1, false⟩ (.t 24), some (20, true)⟩, false, []), (⟨some 26, .mov (.t 0), some (20, true)⟩, false, []), (⟨some 27, .nilCheck (.t 26), some (20, true)⟩, false, []), (⟨some 28, .fieldAddr (.t 27) 1 ⟨1, false⟩, some (20, true)⟩, false, []), (⟨some 29, .load false none ⟨1, false⟩ (.t 28), some (20, true)⟩, false, []), (⟨some 30, .index (.t 25) (.t 29), some (20, true)⟩, false, []), (⟨some 31, .call (.t 21) [.t 30], some (20, true)⟩, true, []), (⟨some 32, .pick (.t 20) (.t 31) (.c (.b false)), none⟩, true, [])]) ((.cond (.t 32) (.skip) (.exit 0))))) ((.block 1 [0, 1, 5] (.ops [⟨some 33, .mov (.t 0), none⟩, ⟨some 34, .nilCheck (.t 33), none⟩, ⟨some 35, .fieldAddr (.t 34) 1 ⟨1, false⟩, none⟩, ⟨some 36, .load false none ⟨1, false⟩ (.t 35), none⟩, ⟨some 37, .bin .add .num (.t 36) (.c (.i .i64 1)), none⟩, ⟨some 38, .nilCheck (.t 33), none⟩, ⟨some 39, .fieldAddr (.t 38) 1 ⟨1, false⟩, none⟩, ⟨none, .store none ⟨1, false⟩ (.t 39) (.t 37), none⟩]))))
def jU : C := .loop [0, 1, 5] jT
noncomputable def qac (pg : Pg) (v0 v1 v5 : V) (H : List Obj) (lo : Nat) : Option (Ex × St) := exL pg jU ⟨[(0, v0), (1, v1), (5, v5)], H, lo⟩
theorem qcc {pg : Pg} {e : Env} {H : List Obj} {lo : Nat} : exL pg jU ⟨e, H, lo⟩ = qac pg (kH (get 0 e)) (kH (get 1 e)) (kH (get 5 e)) H lo := qhJ
theorem qcm {pg : Pg} {v0 v1 v5 : V} {H : List Obj} {lo : Nat} : qac pg v0 v1 v5 H lo = qbd pg (exL pg jT ⟨[(0, kH v0), (1, kH v1), (5, kH v5)], H, lo⟩) jU := by
  unfold qac jU; rw [qcM]; simp only [qj, qo, qC, qD, Nat.reduceEqDiff]
def qdg : C := (.seq (.opsD [(⟨some 40, .mov (.t 0), none⟩, false, []), (⟨some 41, .nilCheck (.t 40), none⟩, false, []), (⟨some 42, .fieldAddr (.t 41) 0 ⟨1, false⟩, none⟩, false, []), (⟨some 43, .load false none ⟨1, false⟩ (.t 42), none⟩, false, []), (⟨some 44, .mov (.t 5), none⟩, false, []), (⟨some 45, .mov (.t 0), none⟩, false, []), (⟨some 46, .nilCheck (.t 45), none⟩, false, []), (⟨some 47, .fieldAddr (.t 46) 1 ⟨1, false⟩, none⟩, false, []), (⟨some 48, .load false none ⟨1, false⟩ (.t 47), none⟩, false, []), (⟨some 49, .sliceS (.t 43) (some (.t 44)) (some (.t 48)), none⟩, true, []), (⟨some 4, .mov (.t 49), none⟩, true, [])]) (.ret))
def qa1 : Fn := ⟨2, [.t 4], true, (.seq (.ops [⟨some 4, .mov (.c (.s [])), none⟩]) ((.seq (.ops [⟨some 6, .mov (.t 0), none⟩, ⟨some 7, .nilCheck (.t 6), none⟩, ⟨some 8, .fieldAddr (.t 7) 1 ⟨1, false⟩, none⟩, ⟨some 9, .load false none ⟨1, false⟩ (.t 8), none⟩, ⟨some 5, .mov (.t 9), none⟩]) ((.seq ((.block 0 [0, 5] (jU))) (qdg)))))), none, none⟩
def qfw : Fn := ⟨1, [.t 2], true, (.seq (.ops [⟨some 2, .mov (.c (.b false)), none⟩]) ((.seq (.ops [⟨some 3, .mov (.t 0), none⟩, ⟨some 4, .call (.f 174) [.t 3], none⟩, ⟨some 5, .mov (.mv 4), none⟩, ⟨some 6, .mov (.t 0), some (5, false)⟩, ⟨some 7, .call (.f 176) [.t 6], some (5, false)⟩, ⟨some 8, .pick (.t 5) (.c (.b true)) (.t 7), none⟩, ⟨some 2, .mov (.t 8), none⟩]) (.ret)))), none, none⟩
def qjJ : Fn := ⟨0, [.t 0], true, (.seq (.ops [⟨some 0, .mov (.c .nil), none⟩]) ((.seq (.ops [⟨some 1, .call (.f 85) [(.c (.s [65, 82, 82, 65, 89, 32, 66, 69, 71, 73, 78, 32, 66, 89, 32, 67, 65, 83, 69, 32, 67, 79, 78, 83, 84, 32, 68, 73, 86, 32, 68, 79, 32, 69, 76, 83, 69, 32, 69, 76, 83, 73, 70, 32, 69, 78, 68, 32, 70, 65, 76, 83, 69, 32, 70, 79, 82, 32, 73, 70, 32, 73, 77, 80, 79, 82, 84, 32, 73, 78, 32, 73, 83, 32, 77, 79, 68, 32, 77, 79, 68, 85, 76, 69, 32, 78, 73, 76, 32, 79, 70, 32, 79, 82, 32, 80, 79, 73, 78, 84, 69, 82, 32, 80, 82, 79, 67, 69, 68, 85, 82, 69, 32, 82, 69, 67, 79, 82, 68, 32, 82, 69, 80, 69, 65, 84, 32, 82, 69, 84, 85, 82, 78, 32, 84, 72, 69, 78, 32, 84, 79, 32, 84, 82, 85, 69, 32, 84, 89, 80, 69, 32, 85, 78, 84, 73, 76, 32, 86, 65, 82, 32, 87, 72, 73, 76, 69]))], none⟩, ⟨some 0, .mov (.mv 1), none⟩]) (.ret)))), none, none⟩
def qje : Fn := ⟨1, [.t 2], true, (.seq (.ops [⟨some 2, .mov (.c (.b false)), none⟩]) ((.seq (.ops [⟨some 3, .mov (.t 0), none⟩, ⟨some 4, .call (.f 176) [.t 3], none⟩, ⟨some 5, .mov (.mv 4), none⟩, ⟨some 6, .mov (.t 0), some (5, false)⟩, ⟨some 7, .bin .geq .num (.t 6) (.c (.i .u8 65)), some (5, false)⟩, ⟨some 8, .mov (.t 7), some (5, false)⟩, ⟨some 9, .mov (.t 0), some (8, true)⟩, ⟨some 10, .bin .leq .num (.t 9) (.c (.i .u8 70)), some (8, true)⟩, ⟨some 11, .pick (.t 8) (.t 10) (.c (.b false)), some (5, false)⟩, ⟨some 12, .pick (.t 5) (.c (.b true)) (.t 11), none⟩, ⟨some 2, .mov (.t 12), none⟩]) (.ret)))), none, none⟩
def qam : Fn := ⟨3, [.t 6, (.t 7)], false, (.seq (.ops [⟨some 6, .mov (.c (.i .u64 0)), none⟩, ⟨some 7, .mov (.c .ni), none⟩]) ((.seq (.ops [⟨some 11, .mov (.t 0), none⟩, ⟨some 12, .mov (.t 1), none⟩, ⟨some 13, .mov (.t 2), none⟩, ⟨some 14, .call (.f 303) [.t 11, (.t 12), (.t 13)], none⟩, ⟨some 10, .mov (.t 14), none⟩, ⟨some 15, .extract (.t 10) 0, none⟩, ⟨some 16, .extract (.t 10) 1, none⟩, ⟨some 8, .mov (.t 15), none⟩, ⟨some 9, .mov (.t 16), none⟩]) ((.seq ((.seq (.ops [⟨some 17, .mov (.t 9), none⟩, ⟨some 18, .bin .neq .iface (.t 17) (.c .ni), none⟩]) ((.cond (.t 18) ((.seq (.ops [⟨some 19, .mov (.t 8), none⟩, ⟨some 20, .mov (.mv 0), none⟩, ⟨some 21, .mov (.mv 1), none⟩, ⟨some 22, .mov (.mv 2), none⟩, ⟨some 23, .mov (.mv 9), none⟩, ⟨some 24, .call (.f 304) [(.c (.s [80, 97, 114, 115, 101, 85, 105, 110, 116])), (.mv 20), (.mv 21), (.mv 22), (.mv 23)], none⟩, ⟨some 6, .mov (.t 19), none⟩, ⟨some 7, .mov (.mv 24), none⟩]) (.ret))) (.skip))))) ((.seq (.ops [⟨some 25, .mov (.t 8), none⟩, ⟨some 6, .mov (.t 25), none⟩, ⟨some 7, .mov (.c .ni), none⟩]) (.ret)))))))), none, none⟩
def qaJ : Fn := ⟨1, [.t 2], true, (.seq (.ops [⟨some 2, .mov (.c (.b false)), none⟩]) ((.seq (.ops [⟨some 3, .mov (.t 0), none⟩, ⟨some 4, .bin .geq .num (.t 3) (.c (.i .u8 32)), none⟩, ⟨some 5, .mov (.t 4), none⟩, ⟨some 6, .mov (.t 0), some (5, true)⟩, ⟨some 7, .bin .neq .num (.t 6) (.c (.i .u8 34)), some (5, true)⟩, ⟨some 8, .pick (.t 5) (.t 7) (.c (.b false)), none⟩, ⟨some 2, .mov (.t 8), none⟩]) (.ret)))), none, none⟩
def qe7 : C := (.seq (.seq (.ops [m_ 43 15, o_ 44 (.fieldAddr (.t 12) 5 l_), o_ 45 (.load false (some 12) l_ (.t 44)), o_ 46 (.bi .lenL [.t 45]), o_ 47 (.bin .lss .num (.t 43) (.t 46)), m_ 48 47, q_ 49 48 true (.mov (.t 14)), o_ 50 (.pick (.t 48) (.t 49) (.c (.b false)))]) (.cond (.t 50) (.skip) (.exit 0))) (.seq (.block 1 [4, 8, 12, 13, 14, 15] (.seq (.ops [o_ 53 (.fieldAddr (.t 12) 5 l_), o_ 54 (.load false (some 12) l_ (.t 53)), m_ 55 15, o_ 56 (.indexAddr (.t 54) (.t 55) 6 none), o_ 57 (.load false none (s_ 6) (.t 56)), o_ 16 (.alloc true [(.s []), (.b false), (.i .i64 0), (.i .i64 0), (.s []), .nil]), z_ (.store (some 16) (s_ 6) (.t 16) (.t 57))]) (.seq (.ops [o_ 58 (.fieldAddr (.t 16) 0 l_), o_ 59 (.load false (some 16) l_ (.t 58)), m_ 60 8, o_ 61 (.bin .eql .num (.t 59) (.t 60)), m_ 62 61, q_ 63 62 true (.fieldAddr (.t 16) 1 l_), q_ 64 62 true (.load false (some 16) l_ (.t 63)), q_ 65 62 true (.mov (.t 64)), q_ 66 65 false (.mov (.t 13)), q_ 67 65 false (.un .not (.t 66)), q_ 68 62 true (.pick (.t 65) (.c (.b true)) (.t 67)), o_ 69 (.pick (.t 62) (.t 68) (.c (.b false)))]) (.cond (.t 69) (.seq (.ops [o_ 70 (.fieldAddr (.t 16) 2 (s_ 4)), o_ 71 (.load false (some 16) (s_ 4) (.t 70)), m_ 72 13, z_ (.store (some 4) (s_ 4) (.t 4) (.t 71)), m_ 5 72, o_ 6 (.mov (.c (.b true)))]) (.ret)) (.skip))))) (.ops [m_ 51 15, o_ 52 (.bin .add .num (.t 51) (i_ 1)), m_ 15 52])))
def qeX : C := .loop [4, 8, 12, 13, 14, 15] qe7
def qe8 : C := (.seq (.ops [o_ 73 (.build [(.i .i64 0), (.i .i64 0), (.s []), .nil] []), m_ 74 13, z_ (.store (some 4) (s_ 4) (.t 4) (.t 73)), m_ 5 74, o_ 6 (.mov (.c (.b false)))]) (.ret))
def qcD : Fn := ⟨2, [(.cell 4 (s_ 4)), (.t 5), (.t 6)], false, (.seq (.ops [o_ 4 (.alloc true [(.i .i64 0), (.i .i64 0), (.s []), .nil]), o_ 5 (.mov (.c (.b false))), o_ 6 (.mov (.c (.b false)))]) (.seq (.ops [m_ 18 1, o_ 19 (.call (.f 189) [.t 18]), m_ 17 19, o_ 20 (.extract (.t 17) 0), o_ 21 (.extract (.t 17) 1), o_ 22 (.extract (.t 17) 2), m_ 7 20, m_ 8 21, m_ 9 22]) (.seq (.seq (.ops [m_ 23 9, o_ 24 (.un .not (.t 23))]) (.cond (.t 24) (.seq (.ops [m_ 26 0, o_ 27 (.nilCheck (.t 26)), o_ 28 (.fieldAddr (.t 27) 10 l_), o_ 29 (.load false none l_ (.t 28)), m_ 30 1, o_ 31 (.lookup 2 (.agg [(.i .i64 0), (.i .i64 0), (.s []), .nil]) (.t 29) (.t 30) true), m_ 25 31, o_ 32 (.extract (.t 25) 0), o_ 33 (.extract (.t 25) 1), o_ 10 (.alloc true [(.i .i64 0), (.i .i64 0), (.s []), .nil]), z_ (.store (some 10) (s_ 4) (.t 10) (.t 32)), m_ 11 33]) (.seq (.ops [o_ 34 (.load false (some 10) (s_ 4) (.t 10)), m_ 35 11, z_ (.store (some 4) (s_ 4) (.t 4) (.t 34)), o_ 5 (.mov (.c (.b false))), m_ 6 35]) (.ret))) (.skip))) (.seq (.ops [o_ 37 (.mov (.mv 0)), o_ 38 (.mov (.mv 7)), o_ 39 (.call (.f 190) [.mv 37, (.mv 38)]), m_ 36 39, o_ 40 (.extract (.t 36) 0), o_ 41 (.extract (.t 36) 1), o_ 42 (.extract (.t 36) 2), o_ 12 (.alloc true [(.s []), .nil, .nil, .nil, .nil, .nil, .nil, .nil]), z_ (.store (some 12) (s_ 8) (.t 12) (.t 40)), m_ 13 41, m_ 14 42]) (.seq (.seq (.ops [o_ 15 (.mov (i_ 0))]) (.block 0 [4, 13] (qeX))) (qe8)))))), none, none⟩
def qd3 : Fn := ⟨2, [.t 4], true, (.seq (.ops [o_ 3 (.box true (.t 1)), o_ 4 (.mov (.c (.b false)))]) (.seq (.seq (.ops [o_ 8 (.fieldAddr (.t 3) 0 l_), o_ 9 (.load false (some 3) l_ (.t 8))]) (.block 0 [3] (.seq (.ops [o_ 11 (.bin .eql .num (.t 9) (i_ 1)), m_ 10 11]) (.cond (.t 10) (.seq (.ops [o_ 13 (.mov (.mv 0)), o_ 14 (.fieldAddr (.t 3) 6 l_), o_ 15 (.load false (some 3) l_ (.t 14)), o_ 16 (.call (.f 266) [.mv 13, (.t 15)]), m_ 12 16, o_ 17 (.extract (.t 12) 0), o_ 18 (.extract (.t 12) 1), o_ 19 (.extract (.t 12) 2), o_ 5 (.alloc true [(.i .i64 0), (.i .i64 0), (.s []), .nil]), z_ (.store (some 5) (s_ 4) (.t 5) (.t 17)), m_ 6 18, m_ 7 19]) (.seq (.ops [m_ 20 7, m_ 21 20, q_ 22 21 true (.mov (.t 6)), q_ 23 21 true (.un .not (.t 22)), o_ 24 (.pick (.t 21) (.t 23) (.c (.b false))), m_ 4 24]) (.ret))) (.seq (.seq (.ops [o_ 26 (.bin .eql .num (.t 9) (i_ 2)), m_ 25 26]) (.cond (.t 25) (.skip) (.ops [o_ 27 (.bin .eql .num (.t 9) (i_ 3)), m_ 25 27]))) (.cond (.t 25) (.seq (.ops [o_ 28 (.fieldAddr (.t 3) 7 l_), o_ 29 (.load false (some 3) l_ (.t 28)), o_ 30 (.bi .lenL [.t 29]), o_ 31 (.bin .gtr .num (.t 30) (i_ 0)), m_ 32 31, q_ 33 32 true (.mov (.t 0)), q_ 34 32 true (.fieldAddr (.t 3) 7 l_), q_ 35 32 true (.load false (some 3) l_ (.t 34)), q_ 36 32 true (.indexAddr (.t 35) (i_ 0) 8 none), q_ 37 32 true (.load false none (s_ 8) (.t 36)), q_ 38 32 true (.call (.f 272) [.t 33, (.t 37)]), o_ 39 (.pick (.t 32) (.t 38) (.c (.b false))), m_ 4 39]) (.ret)) (.skip))))))) (.seq (.ops [o_ 40 (.fieldAddr (.t 3) 0 l_), o_ 41 (.load false (some 3) l_ (.t 40)), o_ 42 (.bin .eql .num (.t 41) (i_ 4)), m_ 4 42]) (.ret)))), none, none⟩
def qbx : C := (.seq (.ops [o_ 9 (.bin .lss .num (.t 8) (.t 7))]) (.seq (.cond (.t 9) (.skip) (.exit 0)) (.seq (.block 1 [0, 1, 7, 8] (.seq (.ops [m_ 10 8, m_ 5 10]) (.seq (.ops [m_ 11 1, m_ 12 0, m_ 13 5, o_ 14 (.indexAddr (.t 12) (.t 13) 4 none), o_ 15 (.load false none (s_ 4) (.t 14)), o_ 16 (.call (.t 11) [.t 15])]) (.cond (.t 16) (.seq (.ops [m_ 17 5, m_ 4 17]) (.ret)) (.skip))))) (.ops [o_ 18 (.bin .add .num (.t 8) (i_ 1)), m_ 8 18]))))
def qbI : C := .loop [0, 1, 7, 8] qbx
def qbB : C := (.seq (.ops [o_ 4 (.mov (i_ (-1)))]) (.ret))
def yM : Fn := ⟨2, [.t 4], true, (.seq (.ops [o_ 4 (.mov (i_ 0))]) (.seq (.seq (.ops [m_ 6 0, o_ 7 (.bi .lenL [.t 6]), o_ 8 (.mov (i_ 0))]) (.block 0 [] (qbI))) (qbB))), none, none⟩
def qiH : C := (.seq (.ops [o_ 52 (.bin .lss .num (.t 51) (.t 50))]) (.seq (.cond (.t 52) (.skip) (.exit 2)) (.seq (.block 3 [0, 1, 9, 42, 43, 44, 49, 50, 51] (.seq (.ops [o_ 53 (.indexAddr (.t 49) (.t 51) 6 none), o_ 54 (.load false none (s_ 6) (.t 53)), o_ 13 (.alloc true [(.s []), (.b false), (.i .i64 0), (.i .i64 0), (.s []), .nil]), z_ (.store (some 13) (s_ 6) (.t 13) (.t 54))]) (.seq (.ops [m_ 55 0, o_ 56 (.fieldAddr (.t 13) 2 (s_ 4)), o_ 57 (.load false (some 13) (s_ 4) (.t 56)), o_ 58 (.call (.f 242) [.t 55, (.t 57)]), o_ 14 (.mov (.mv 58))]) (.seq (.ops [m_ 59 9, m_ 60 14, o_ 61 (.bin .add .num (.t 59) (.t 60)), m_ 9 61]) (.seq (.ops [m_ 62 14, o_ 63 (.bin .lss .num (.t 62) (i_ 0)), m_ 64 63, q_ 65 64 false (.mov (.t 9)), q_ 66 64 false (.bin .gtr .num (.t 65) (i_ 16384)), o_ 67 (.pick (.t 64) (.c (.b true)) (.t 66))]) (.cond (.t 67) (.seq (.ops [o_ 4 (.mov (i_ (-1)))]) (.ret)) (.skip))))))) (.ops [o_ 68 (.bin .add .num (.t 51) (i_ 1)), m_ 51 68]))))
def qiF : C := .loop [0, 1, 9, 42, 43, 44, 49, 50, 51] qiH
def qiP : C := .ops [o_ 69 (.bin .add .num (.t 44) (i_ 1)), m_ 44 69]
def qiV : C := (.seq (.ops [o_ 45 (.bin .lss .num (.t 44) (.t 43))]) (.seq (.cond (.t 45) (.skip) (.exit 0)) (.seq (.block 1 [0, 1, 9, 42, 43, 44] (.seq (.ops [o_ 46 (.indexAddr (.t 42) (.t 44) 4 none), o_ 47 (.load false none (s_ 4) (.t 46)), o_ 11 (.alloc true [(.s []), (.b false), (.s []), .nil]), z_ (.store (some 11) (s_ 4) (.t 11) (.t 47))]) (.seq (.ops [o_ 48 (.fieldAddr (.t 11) 3 l_), o_ 49 (.load false (some 11) l_ (.t 48)), o_ 50 (.bi .lenL [.t 49]), o_ 51 (.mov (i_ 0))]) (.block 2 [0, 1, 9, 42, 43, 44] (qiF))))) (qiP))))
def qiL : C := .loop [0, 1, 9, 42, 43, 44] qiV
def qiy : C := (.seq (.ops [m_ 70 0, o_ 71 (.nilCheck (.t 70)), o_ 72 (.fieldAddr (.t 71) 1 l_), o_ 73 (.load false none l_ (.t 72)), m_ 74 1, m_ 75 9, z_ (.mapUpdate 2 (.t 73) (.t 74) (.t 75))]) (.seq (.ops [m_ 76 9, m_ 4 76]) (.ret)))
def qeG : Fn := ⟨2, [.t 4], true, (.seq (.ops [o_ 4 (.mov (i_ 0))]) (.seq (.seq (.ops [m_ 16 0, o_ 17 (.nilCheck (.t 16)), o_ 18 (.fieldAddr (.t 17) 1 l_), o_ 19 (.load false none l_ (.t 18)), m_ 20 1, o_ 21 (.lookup 2 (.i .i64 0) (.t 19) (.t 20) true), m_ 15 21, o_ 22 (.extract (.t 15) 0), o_ 23 (.extract (.t 15) 1), m_ 5 22, m_ 6 23]) (.seq (.ops [m_ 24 6]) (.cond (.t 24) (.seq (.ops [m_ 25 5, m_ 4 25]) (.ret)) (.skip)))) (.seq (.ops [m_ 26 0, o_ 27 (.nilCheck (.t 26)), o_ 28 (.fieldAddr (.t 27) 1 l_), o_ 29 (.load false none l_ (.t 28)), m_ 30 1, z_ (.mapUpdate 2 (.t 29) (.t 30) (i_ (-1)))]) (.seq (.ops [m_ 32 1, m_ 33 0, o_ 34 (.nilCheck (.t 33)), o_ 35 (.fieldAddr (.t 34) 0 l_), o_ 36 (.load false none l_ (.t 35)), o_ 37 (.call (.f 145) [.t 32, (.t 36)]), m_ 31 37, o_ 38 (.extract (.t 31) 0), o_ 39 (.extract (.t 31) 1), m_ 7 38, m_ 8 39]) (.seq (.seq (.ops [m_ 40 8, o_ 41 (.un .not (.t 40))]) (.cond (.t 41) (.seq (.ops [o_ 4 (.mov (i_ (-1)))]) (.ret)) (.skip))) (.seq (.ops [o_ 9 (.mov (i_ 0))]) (.seq (.seq (.ops [m_ 42 7, o_ 43 (.bi .lenL [.t 42]), o_ 44 (.mov (i_ 0))]) (.block 0 [0, 1, 9] (qiL))) (qiy)))))))), none, none⟩
def qjN : Fn := ⟨2, [.t 4], true, (.seq (.ops [o_ 4 (.mov (i_ 0))]) (.seq (.ops [o_ 5 (.mov (.mv 0)), o_ 6 (.mov (.mv 1)), o_ 7 (.call (.f 322) [.mv 5, (.mv 6)]), o_ 4 (.mov (.mv 7))]) (.ret))), none, none⟩
def zT : Fn := ⟨2, [.t 4], true, (.seq (.ops [⟨some 4, .mov (.c (.b false)), none⟩]) ((.seq (.ops [⟨some 5, .mov (.t 0), none⟩, ⟨some 6, .bi .lenS [.t 5], none⟩, ⟨some 7, .mov (.t 1), none⟩, ⟨some 8, .bi .lenS [.t 7], none⟩, ⟨some 9, .bin .geq .num (.t 6) (.t 8), none⟩, ⟨some 10, .mov (.t 9), none⟩, ⟨some 11, .mov (.t 0), some (10, true)⟩, ⟨some 12, .mov (.t 1), some (10, true)⟩, ⟨some 13, .bi .lenS [.t 12], some (10, true)⟩, ⟨some 14, .sliceS (.t 11) none (some (.t 13)), some (10, true)⟩, ⟨some 15, .mov (.t 1), some (10, true)⟩, ⟨some 16, .bin .eql .num (.t 14) (.t 15), some (10, true)⟩, ⟨some 17, .pick (.t 10) (.t 16) (.c (.b false)), none⟩, ⟨some 4, .mov (.t 17), none⟩]) (.ret)))), none, none⟩
def qmu : Fn := ⟨1, [.t 2, (.t 3)], false, (.seq (.ops [o_ 2 (.mov (.c .nil)), o_ 3 (.mov (.c (.b false)))]) (.seq (.seq (.ops [m_ 4 0]) (.block 0 [] (.seq (.seq (.ops [o_ 6 (.bin .eql .num (.t 4) (i_ 7)), m_ 5 6]) (.cond (.t 5) (.skip) (.ops [o_ 7 (.bin .eql .num (.t 4) (i_ 8)), m_ 5 7]))) (.cond (.t 5) (.seq (.ops [o_ 8 (.buildSlice (.i .i64 0) 2 [(0, (i_ 1)), (1, (i_ 1))]), o_ 2 (.mov (.mv 8)), o_ 3 (.mov (.c (.b true)))]) (.ret)) (.seq (.seq (.ops [o_ 10 (.bin .eql .num (.t 4) (i_ 9)), m_ 9 10]) (.cond (.t 9) (.skip) (.ops [o_ 11 (.bin .eql .num (.t 4) (i_ 10)), m_ 9 11]))) (.cond (.t 9) (.seq (.ops [o_ 12 (.buildSlice (.i .i64 0) 2 [(0, (i_ 4)), (1, (i_ 1))]), o_ 2 (.mov (.mv 12)), o_ 3 (.mov (.c (.b true)))]) (.ret)) (.seq (.ops [o_ 14 (.bin .eql .num (.t 4) (i_ 11)), m_ 13 14]) (.cond (.t 13) (.seq (.ops [o_ 15 (.buildSlice (.i .i64 0) 1 [(0, (i_ 9))]), o_ 2 (.mov (.mv 15)), o_ 3 (.mov (.c (.b true)))]) (.ret)) (.seq (.ops [o_ 17 (.bin .eql .num (.t 4) (i_ 13)), m_ 16 17]) (.cond (.t 16) (.seq (.ops [o_ 18 (.buildSlice (.i .i64 0) 1 [(0, (i_ 2))]), o_ 2 (.mov (.mv 18)), o_ 3 (.mov (.c (.b true)))]) (.ret)) (.seq (.ops [o_ 20 (.bin .eql .num (.t 4) (i_ 12)), m_ 19 20]) (.cond (.t 19) (.seq (.ops [o_ 21 (.buildSlice (.i .i64 0) 1 [(0, (i_ 3))]), o_ 2 (.mov (.mv 21)), o_ 3 (.mov (.c (.b false)))]) (.ret)) (.seq (.ops [o_ 23 (.bin .eql .num (.t 4) (i_ 14)), m_ 22 23]) (.cond (.t 22) (.seq (.ops [o_ 24 (.buildSlice (.i .i64 0) 1 [(0, (i_ 1))]), o_ 2 (.mov (.mv 24)), o_ 3 (.mov (.c (.b false)))]) (.ret)) (.seq (.ops [o_ 26 (.bin .eql .num (.t 4) (i_ 15)), m_ 25 26]) (.cond (.t 25) (.seq (.ops [o_ 27 (.buildSlice (.i .i64 0) 1 [(0, (i_ 2))]), o_ 2 (.mov (.mv 27)), o_ 3 (.mov (.c (.b false)))]) (.ret)) (.skip))))))))))))))))) (.seq (.ops [o_ 2 (.mov (.c .nil)), o_ 3 (.mov (.c (.b false)))]) (.ret)))), none, none⟩
def kE : C := (.seq (.ops [⟨some 102, .bin .lss .num (.t 101) (.t 100), none⟩]) ((.seq ((.cond (.t 102) (.skip) (.exit 3))) ((.seq ((.block 4 [1, 8, 9, 10, 11, 12, 13, 99, 100, 101] ((.seq (.ops [⟨some 103, .indexAddr (.t 99) (.t 101) 1 none, none⟩,
 ⟨some 104, .load false none ⟨1, false⟩ (.t 103), none⟩,
 ⟨some 15, .mov (.t 104), none⟩]) ((.seq (.ops [⟨some 16, .mov (.c (.i .u8 0)), none⟩]) ((.seq ((.block 5 [1, 8, 9, 10, 11, 12, 13, 16, 99, 100, 101] ((.seq (.ops [⟨some 107, .mov (.t 15), none⟩,
 ⟨some 108, .bin .eql .num (.t 107) (.c (.i .u8 95)), none⟩,
 ⟨some 109, .mov (.t 108), none⟩,
 ⟨some 110, .mov (.t 8), some (109, true)⟩,
 ⟨some 111, .pick (.t 109) (.t 110) (.c (.b false)), none⟩,
 ⟨some 106, .mov (.t 111), none⟩]) ((.cond (.t 106) ((.seq (.ops [⟨some 12, .mov (.c (.b true)), none⟩]) (.exit 4))) ((.seq (.ops [⟨some 113, .mov (.t 15), none⟩,
 ⟨some 114, .bin .leq .num (.c (.i .u8 48)) (.t 113), none⟩,
 ⟨some 115, .mov (.t 114), none⟩,
 ⟨some 116, .mov (.t 15), some (115, true)⟩,
 ⟨some 117, .bin .leq .num (.t 116) (.c (.i .u8 57)), some (115, true)⟩,
 ⟨some 118, .pick (.t 115) (.t 117) (.c (.b false)), none⟩,
 ⟨some 112, .mov (.t 118), none⟩]) ((.cond (.t 112) (.ops [⟨some 119, .mov (.t 15), none⟩,
 ⟨some 120, .bin .sub .num (.t 119) (.c (.i .u8 48)), none⟩,
 ⟨some 16, .mov (.t 120), none⟩]) ((.seq (.ops [⟨some 122, .mov (.t 15), none⟩,
 ⟨some 123, .call (.f 324) [.t 122], none⟩,
 ⟨some 124, .bin .leq .num (.c (.i .u8 97)) (.t 123), none⟩,
 ⟨some 125, .mov (.t 124), none⟩,
 ⟨some 126, .mov (.t 15), some (125, true)⟩,
 ⟨some 127, .call (.f 324) [.t 126], some (125, true)⟩,
 ⟨some 128, .bin .leq .num (.t 127) (.c (.i .u8 122)), some (125, true)⟩,
 ⟨some 129, .pick (.t 125) (.t 128) (.c (.b false)), none⟩,
 ⟨some 121, .mov (.t 129), none⟩]) ((.cond (.t 121) (.ops [⟨some 130, .mov (.mv 15), none⟩,
 ⟨some 131, .call (.f 324) [.mv 130], none⟩,
 ⟨some 132, .bin .sub .num (.t 131) (.c (.i .u8 97)), none⟩,
 ⟨some 133, .bin .add .num (.t 132) (.c (.i .u8 10)), none⟩,
 ⟨some 16, .mov (.t 133), none⟩]) ((.seq (.ops [⟨some 105, .mkIfc 323 (.c (.i .i64 2)), none⟩,
 ⟨some 6, .mov (.c (.i .u64 0)), none⟩,
 ⟨some 7, .mov (.t 105), none⟩]) (.ret))))))))))))))))) ((.seq ((.seq (.ops [⟨some 134, .mov (.t 16), none⟩,
 ⟨some 135, .mov (.t 1), none⟩,
 ⟨some 136, .conv .u8 (.t 135), none⟩,
 ⟨some 137, .bin .geq .num (.t 134) (.t 136), none⟩]) ((.cond (.t 137) ((.seq (.ops [⟨some 138, .mkIfc 323 (.c (.i .i64 2)), none⟩,
 ⟨some 6, .mov (.c (.i .u64 0)), none⟩,
 ⟨some 7, .mov (.t 138), none⟩]) (.ret))) (.skip))))) ((.seq ((.seq (.ops [⟨some 139, .mov (.t 13), none⟩,
 ⟨some 140, .mov (.t 10), none⟩,
 ⟨some 141, .bin .geq .num (.t 139) (.t 140), none⟩]) ((.cond (.t 141) ((.seq (.ops [⟨some 142, .mov (.t 11), none⟩,
 ⟨some 143, .mkIfc 323 (.c (.i .i64 1)), none⟩,
 ⟨some 6, .mov (.t 142), none⟩,
 ⟨some 7, .mov (.t 143), none⟩]) (.ret))) (.skip))))) ((.seq (.ops [⟨some 144, .mov (.t 13), none⟩,
 ⟨some 145, .mov (.t 1), none⟩,
 ⟨some 146, .conv .u64 (.t 145), none⟩,
 ⟨some 147, .bin .mul .num (.t 144) (.t 146), none⟩,
 ⟨some 13, .mov (.t 147), none⟩]) ((.seq (.ops [⟨some 148, .mov (.t 13), none⟩,
 ⟨some 149, .mov (.t 16), none⟩,
 ⟨some 150, .conv .u64 (.t 149), none⟩,
 ⟨some 151, .bin .add .num (.t 148) (.t 150), none⟩,
 ⟨some 17, .mov (.t 151), none⟩]) ((.seq ((.seq (.ops [⟨some 152, .mov (.t 17), none⟩,
 ⟨some 153, .mov (.t 13), none⟩,
 ⟨some 154, .bin .lss .num (.t 152) (.t 153), none⟩,
 ⟨some 155, .mov (.t 154), none⟩,
 ⟨some 156, .mov (.t 17), some (155, false)⟩,
 ⟨some 157, .mov (.t 11), some (155, false)⟩,
 ⟨some 158, .bin .gtr .num (.t 156) (.t 157), some (155, false)⟩,
 ⟨some 159, .pick (.t 155) (.c (.b true)) (.t 158), none⟩]) ((.cond (.t 159) ((.seq (.ops [⟨some 160, .mov (.t 11), none⟩,
 ⟨some 161, .mkIfc 323 (.c (.i .i64 1)), none⟩,
 ⟨some 6, .mov (.t 160), none⟩,
 ⟨some 7, .mov (.t 161), none⟩]) (.ret))) (.skip))))) (.ops [⟨some 162, .mov (.t 17), none⟩,
 ⟨some 13, .mov (.t 162), none⟩]))))))))))))))))))) (.ops [⟨some 163, .bin .add .num (.t 101) (.c (.i .i64 1)), none⟩,
 ⟨some 101, .mov (.t 163), none⟩]))))))
def z7 : C := .loop [1, 8, 9, 10, 11, 12, 13, 99, 100, 101] kE
noncomputable def z1 (pg : Pg) (v1 v8 v9 v10 v11 v12 v13 v99 v100 v101 : V) (H : List Obj) (lo : Nat) : Option (Ex × St) := exL pg z7 ⟨[(1, v1), (8, v8), (9, v9), (10, v10), (11, v11), (12, v12), (13, v13), (99, v99), (100, v100), (101, v101)], H, lo⟩
theorem zK {pg : Pg} {e : Env} {H : List Obj} {lo : Nat} : exL pg z7 ⟨e, H, lo⟩ = z1 pg (kH (get 1 e)) (kH (get 8 e)) (kH (get 9 e)) (kH (get 10 e)) (kH (get 11 e)) (kH (get 12 e)) (kH (get 13 e)) (kH (get 99 e)) (kH (get 100 e)) (kH (get 101 e)) H lo := qhJ
theorem qay {pg : Pg} {v1 v8 v9 v10 v11 v12 v13 v99 v100 v101 : V} {H : List Obj} {lo : Nat} : z1 pg v1 v8 v9 v10 v11 v12 v13 v99 v100 v101 H lo = qbd pg (exL pg kE ⟨[(1, kH v1), (8, kH v8), (9, kH v9), (10, kH v10), (11, kH v11), (12, kH v12), (13, kH v13), (99, kH v99), (100, kH v100), (101, kH v101)], H, lo⟩) z7 := by
  unfold z1 z7; rw [qcM]; simp only [qj, qo, qC, qD, Nat.reduceEqDiff]
def jx : C := (.seq ((.seq (.ops [⟨some 164, .mov (.t 12), none⟩, ⟨some 165, .mov (.t 164), none⟩, ⟨some 166, .mov (.t 9), some (165, true)⟩, ⟨some 167, .call (.f 325) [.t 166], some (165, true)⟩, ⟨some 168, .un .not (.t 167), some (165, true)⟩, ⟨some 169, .pick (.t 165) (.t 168) (.c (.b false)), none⟩]) ((.cond (.t 169) ((.seq (.ops [⟨some 170, .mkIfc 323 (.c (.i .i64 2)), none⟩, ⟨some 6, .mov (.c (.i .u64 0)), none⟩, ⟨some 7, .mov (.t 170), none⟩]) (.ret))) (.skip))))) ((.seq (.ops [⟨some 171, .mov (.t 13), none⟩, ⟨some 6, .mov (.t 171), none⟩, ⟨some 7, .mov (.c .ni), none⟩]) (.ret))))
def zR : Fn := ⟨3, [.t 6, (.t 7)], false, (.seq (.ops [⟨some 6, .mov (.c (.i .u64 0)), none⟩,
 ⟨some 7, .mov (.c .ni), none⟩]) ((.seq ((.seq (.ops [⟨some 18, .mov (.t 0), none⟩,
 ⟨some 19, .bin .eql .num (.t 18) (.c (.s [])), none⟩]) ((.cond (.t 19) ((.seq (.ops [⟨some 20, .mkIfc 323 (.c (.i .i64 2)), none⟩,
 ⟨some 6, .mov (.c (.i .u64 0)), none⟩,
 ⟨some 7, .mov (.t 20), none⟩]) (.ret))) (.skip))))) ((.seq (.ops [⟨some 21, .mov (.t 1), none⟩,
 ⟨some 22, .bin .eql .num (.t 21) (.c (.i .i64 0)), none⟩,
 ⟨some 8, .mov (.t 22), none⟩]) ((.seq (.ops [⟨some 23, .mov (.t 0), none⟩,
 ⟨some 9, .mov (.t 23), none⟩]) ((.seq ((.block 0 [0, 1, 2, 8, 9] ((.seq (.ops [⟨some 26, .mov (.t 1), none⟩,
 ⟨some 27, .bin .leq .num (.c (.i .i64 2)) (.t 26), none⟩,
 ⟨some 28, .mov (.t 27), none⟩,
 ⟨some 29, .mov (.t 1), some (28, true)⟩,
 ⟨some 30, .bin .leq .num (.t 29) (.c (.i .i64 36)), some (28, true)⟩,
 ⟨some 31, .pick (.t 28) (.t 30) (.c (.b false)), none⟩,
 ⟨some 25, .mov (.t 31), none⟩]) ((.cond (.t 25) (.skip) ((.seq (.ops [⟨some 33, .mov (.t 1), none⟩,
 ⟨some 34, .bin .eql .num (.t 33) (.c (.i .i64 0)), none⟩,
 ⟨some 32, .mov (.t 34), none⟩]) ((.cond (.t 32) ((.seq (.ops [⟨some 1, .mov (.c (.i .i64 10)), none⟩]) ((.seq (.ops [⟨some 35, .mov (.t 0), none⟩,
 ⟨some 36, .index (.t 35) (.c (.i .i64 0)), none⟩,
 ⟨some 37, .bin .eql .num (.t 36) (.c (.i .u8 48)), none⟩]) ((.cond (.t 37) ((.block 1 [0, 1, 2, 8, 9] ((.seq (.ops [⟨some 41, .mov (.t 0), none⟩,
 ⟨some 42, .bi .lenS [.t 41], none⟩,
 ⟨some 43, .bin .geq .num (.t 42) (.c (.i .i64 3)), none⟩,
 ⟨some 44, .mov (.t 43), none⟩,
 ⟨some 45, .mov (.t 0), some (44, true)⟩,
 ⟨some 46, .index (.t 45) (.c (.i .i64 1)), some (44, true)⟩,
 ⟨some 47, .call (.f 324) [.t 46], some (44, true)⟩,
 ⟨some 48, .bin .eql .num (.t 47) (.c (.i .u8 98)), some (44, true)⟩,
 ⟨some 49, .pick (.t 44) (.t 48) (.c (.b false)), none⟩,
 ⟨some 40, .mov (.t 49), none⟩]) ((.cond (.t 40) ((.seq (.ops [⟨some 1, .mov (.c (.i .i64 2)), none⟩]) (.ops [⟨some 50, .mov (.t 0), none⟩,
 ⟨some 51, .sliceS (.t 50) (some (.c (.i .i64 2))) none, none⟩,
 ⟨some 0, .mov (.t 51), none⟩]))) ((.seq (.ops [⟨some 53, .mov (.t 0), none⟩,
 ⟨some 54, .bi .lenS [.t 53], none⟩,
 ⟨some 55, .bin .geq .num (.t 54) (.c (.i .i64 3)), none⟩,
 ⟨some 56, .mov (.t 55), none⟩,
 ⟨some 57, .mov (.t 0), some (56, true)⟩,
 ⟨some 58, .index (.t 57) (.c (.i .i64 1)), some (56, true)⟩,
 ⟨some 59, .call (.f 324) [.t 58], some (56, true)⟩,
 ⟨some 60, .bin .eql .num (.t 59) (.c (.i .u8 111)), some (56, true)⟩,
 ⟨some 61, .pick (.t 56) (.t 60) (.c (.b false)), none⟩,
 ⟨some 52, .mov (.t 61), none⟩]) ((.cond (.t 52) ((.seq (.ops [⟨some 1, .mov (.c (.i .i64 8)), none⟩]) (.ops [⟨some 62, .mov (.t 0), none⟩,
 ⟨some 63, .sliceS (.t 62) (some (.c (.i .i64 2))) none, none⟩,
 ⟨some 0, .mov (.t 63), none⟩]))) ((.seq (.ops [⟨some 65, .mov (.t 0), none⟩,
 ⟨some 66, .bi .lenS [.t 65], none⟩,
 ⟨some 67, .bin .geq .num (.t 66) (.c (.i .i64 3)), none⟩,
 ⟨some 68, .mov (.t 67), none⟩,
 ⟨some 69, .mov (.t 0), some (68, true)⟩,
 ⟨some 70, .index (.t 69) (.c (.i .i64 1)), some (68, true)⟩,
 ⟨some 71, .call (.f 324) [.t 70], some (68, true)⟩,
 ⟨some 72, .bin .eql .num (.t 71) (.c (.i .u8 120)), some (68, true)⟩,
 ⟨some 73, .pick (.t 68) (.t 72) (.c (.b false)), none⟩,
 ⟨some 64, .mov (.t 73), none⟩]) ((.cond (.t 64) ((.seq (.ops [⟨some 1, .mov (.c (.i .i64 16)), none⟩]) (.ops [⟨some 74, .mov (.t 0), none⟩,
 ⟨some 75, .sliceS (.t 74) (some (.c (.i .i64 2))) none, none⟩,
 ⟨some 0, .mov (.t 75), none⟩]))) ((.seq (.ops [⟨some 1, .mov (.c (.i .i64 8)), none⟩]) (.ops [⟨some 38, .mov (.t 0), none⟩,
 ⟨some 39, .sliceS (.t 38) (some (.c (.i .i64 1))) none, none⟩,
 ⟨some 0, .mov (.t 39), none⟩]))))))))))))))))) (.skip))))))) ((.seq (.ops [⟨some 24, .mkIfc 323 (.c (.i .i64 3)), none⟩,
 ⟨some 6, .mov (.c (.i .u64 0)), none⟩,
 ⟨some 7, .mov (.t 24), none⟩]) (.ret))))))))))))) ((.seq ((.seq (.ops [⟨some 76, .mov (.t 2), none⟩,
 ⟨some 77, .bin .eql .num (.t 76) (.c (.i .i64 0)), none⟩]) ((.cond (.t 77) (.ops [⟨some 2, .mov (.c (.i .i64 64)), none⟩]) ((.seq (.ops [⟨some 78, .mov (.t 2), none⟩,
 ⟨some 79, .bin .lss .num (.t 78) (.c (.i .i64 0)), none⟩,
 ⟨some 80, .mov (.t 79), none⟩,
 ⟨some 81, .mov (.t 2), some (80, false)⟩,
 ⟨some 82, .bin .gtr .num (.t 81) (.c (.i .i64 64)), some (80, false)⟩,
 ⟨some 83, .pick (.t 80) (.c (.b true)) (.t 82), none⟩]) ((.cond (.t 83) ((.seq (.ops [⟨some 84, .mkIfc 323 (.c (.i .i64 4)), none⟩,
 ⟨some 6, .mov (.c (.i .u64 0)), none⟩,
 ⟨some 7, .mov (.t 84), none⟩]) (.ret))) (.skip))))))))) ((.seq (.ops [⟨some 10, .mov (.c (.i .u64 0)), none⟩]) ((.seq ((.seq (.ops [⟨some 85, .mov (.t 1), none⟩]) ((.block 2 [0, 1, 2, 8, 9, 10] ((.seq (.ops [⟨some 91, .bin .eql .num (.t 85) (.c (.i .i64 10)), none⟩,
 ⟨some 90, .mov (.t 91), none⟩]) ((.cond (.t 90) (.ops [⟨some 10, .mov (.c (.i .u64 1844674407370955162)), none⟩]) ((.seq (.ops [⟨some 93, .bin .eql .num (.t 85) (.c (.i .i64 16)), none⟩,
 ⟨some 92, .mov (.t 93), none⟩]) ((.cond (.t 92) (.ops [⟨some 10, .mov (.c (.i .u64 1152921504606846976)), none⟩]) (.ops [⟨some 86, .mov (.t 1), none⟩,
 ⟨some 87, .conv .u64 (.t 86), none⟩,
 ⟨some 88, .bin .quo .num (.c (.i .u64 18446744073709551615)) (.t 87), none⟩,
 ⟨some 89, .bin .add .num (.t 88) (.c (.i .u64 1)), none⟩,
 ⟨some 10, .mov (.t 89), none⟩]))))))))))))) ((.seq (.ops [⟨some 94, .mov (.t 2), none⟩,
 ⟨some 95, .conv .u64 (.t 94), none⟩,
 ⟨some 96, .bin .shl .num (.c (.i .u64 1)) (.t 95), none⟩,
 ⟨some 97, .bin .sub .num (.t 96) (.c (.i .u64 1)), none⟩,
 ⟨some 11, .mov (.t 97), none⟩]) ((.seq (.ops [⟨some 12, .mov (.c (.b false)), none⟩]) ((.seq (.ops [⟨some 13, .mov (.c (.i .u64 0)), none⟩]) ((.seq ((.seq (.ops [⟨some 98, .mov (.t 0), none⟩,
 ⟨some 99, .bytes (.t 98), none⟩,
 ⟨some 100, .bi .lenL [.t 99], none⟩,
 ⟨some 101, .mov (.c (.i .i64 0)), none⟩]) ((.block 3 [9, 12, 13] (z7))))) (jx)))))))))))))))))))))))), none, none⟩
def qdV : C := (.seq (.seq (.ops [m_ 57 8, m_ 58 9, o_ 59 (.bin .lss .num (.t 57) (.t 58))]) (.cond (.t 59) (.skip) (.exit 1))) (.block 2 [0, 1, 5, 6, 7, 8, 9, 10] (.seq (.seq (.ops [m_ 60 0, m_ 61 8, o_ 62 (.index (.t 60) (.t 61)), m_ 63 6, o_ 64 (.bin .neq .num (.t 62) (.t 63))]) (.cond (.t 64) (.seq (.ops [m_ 65 0, m_ 66 8, o_ 67 (.bin .add .num (.t 66) (i_ 1)), m_ 68 9, o_ 69 (.sliceS (.t 65) (some (.t 67)) (some (.t 68))), m_ 70 6, o_ 71 (.call (.f 302) [.t 69, (.t 70)]), o_ 11 (.mov (.mv 71))]) (.seq (.seq (.ops [m_ 72 11, o_ 73 (.bin .lss .num (.t 72) (i_ 0))]) (.cond (.t 73) (.seq (.ops [o_ 4 (.mov (i_ (-1)))]) (.ret)) (.skip))) (.ops [m_ 74 8, m_ 75 11, o_ 76 (.bin .add .num (.t 75) (i_ 1)), o_ 77 (.bin .add .num (.t 74) (.t 76)), m_ 8 77]))) (.skip))) (.seq (.seq (.ops [m_ 78 0, m_ 79 8, o_ 80 (.bin .add .num (.t 79) (i_ 1)), o_ 81 (.index (.t 78) (.t 80)), m_ 82 7, o_ 83 (.bin .eql .num (.t 81) (.t 82)), m_ 84 83, q_ 85 84 true (.mov (.t 0)), q_ 86 84 true (.mov (.t 8)), q_ 87 84 true (.mov (.t 8)), q_ 88 84 true (.mov (.t 5)), q_ 89 84 true (.bin .add .num (.t 87) (.t 88)), q_ 90 84 true (.sliceS (.t 85) (some (.t 86)) (some (.t 89))), q_ 91 84 true (.mov (.t 1)), q_ 92 84 true (.bin .eql .num (.t 90) (.t 91)), o_ 93 (.pick (.t 84) (.t 92) (.c (.b false)))]) (.cond (.t 93) (.seq (.ops [m_ 94 8, m_ 4 94]) (.ret)) (.skip))) (.seq (.ops [m_ 95 8, o_ 96 (.bin .add .num (.t 95) (i_ 1)), m_ 8 96]) (.seq (.ops [m_ 97 10, o_ 98 (.bin .add .num (.t 97) (i_ 1)), m_ 10 98]) (.seq (.ops [m_ 99 5, o_ 100 (.stuck), o_ 101 (.bin .leq .num (.t 99) (.t 100)), m_ 102 101, q_ 103 102 true (.mov (.t 10)), q_ 104 102 true (.mov (.t 8)), q_ 105 102 true (.call (.f 340) [.t 104]), q_ 106 102 true (.bin .gtr .num (.t 103) (.t 105)), o_ 107 (.pick (.t 102) (.t 106) (.c (.b false)))]) (.cond (.t 107) (.seq (.ops [m_ 108 0, m_ 109 8, o_ 110 (.sliceS (.t 108) (some (.t 109)) none), o_ 111 (.mov (.mv 1)), o_ 112 (.call (.f 339) [.t 110, (.mv 111)]), m_ 12 112]) (.seq (.seq (.ops [m_ 113 12, o_ 114 (.bin .geq .num (.t 113) (i_ 0))]) (.cond (.t 114) (.seq (.ops [m_ 115 12, m_ 116 8, o_ 117 (.bin .add .num (.t 115) (.t 116)), m_ 4 117]) (.ret)) (.skip))) (.seq (.ops [o_ 4 (.mov (i_ (-1)))]) (.ret)))) (.seq (.ops [m_ 118 5, o_ 119 (.stuck), o_ 120 (.bin .gtr .num (.t 118) (.t 119)), m_ 121 120, q_ 122 121 true (.mov (.t 10)), q_ 123 121 true (.mov (.t 8)), q_ 124 121 true (.bin .shr .num (.t 123) (.c (.i .u64 4))), q_ 125 121 true (.bin .add .num (i_ 4) (.t 124)), q_ 126 121 true (.bin .geq .num (.t 122) (.t 125)), o_ 127 (.pick (.t 121) (.t 126) (.c (.b false))), m_ 128 127, q_ 129 128 true (.mov (.t 8)), q_ 130 128 true (.mov (.t 9)), q_ 131 128 true (.bin .lss .num (.t 129) (.t 130)), o_ 132 (.pick (.t 128) (.t 131) (.c (.b false)))]) (.cond (.t 132) (.seq (.ops [m_ 133 0, m_ 134 8, o_ 135 (.sliceS (.t 133) (some (.t 134)) none), o_ 136 (.mov (.mv 1)), o_ 137 (.call (.f 341) [.t 135, (.mv 136)]), o_ 13 (.mov (.mv 137))]) (.seq (.seq (.ops [m_ 138 13, o_ 139 (.bin .lss .num (.t 138) (i_ 0))]) (.cond (.t 139) (.seq (.ops [o_ 4 (.mov (i_ (-1)))]) (.ret)) (.skip))) (.seq (.ops [m_ 140 8, m_ 141 13, o_ 142 (.bin .add .num (.t 140) (.t 141)), m_ 4 142]) (.ret)))) (.skip)))))))))))
def qdU : C := .loop [0, 1, 5, 6, 7, 8, 9, 10] qdV
def qdX : C := (.seq (.ops [o_ 4 (.mov (i_ (-1)))]) (.ret))
def qbM : Fn := ⟨2, [.t 4], true, (.seq (.ops [o_ 4 (.mov (i_ 0))]) (.seq (.ops [m_ 14 1, o_ 15 (.bi .lenS [.t 14]), m_ 5 15]) (.seq (.block 0 [0, 1, 5] (.seq (.ops [m_ 17 5, o_ 18 (.bin .eql .num (.t 17) (i_ 0)), m_ 19 18, q_ 20 19 false (.mov (.t 1)), q_ 21 19 false (.mov (.t 0)), q_ 22 19 false (.bin .eql .num (.t 20) (.t 21)), o_ 23 (.pick (.t 19) (.c (.b true)) (.t 22)), m_ 16 23]) (.cond (.t 16) (.seq (.ops [o_ 4 (.mov (i_ 0))]) (.ret)) (.seq (.ops [m_ 25 5, o_ 26 (.bin .eql .num (.t 25) (i_ 1)), m_ 24 26]) (.cond (.t 24) (.seq (.ops [o_ 27 (.mov (.mv 0)), m_ 28 1, o_ 29 (.index (.t 28) (i_ 0)), o_ 30 (.call (.f 302) [.mv 27, (.t 29)]), o_ 4 (.mov (.mv 30))]) (.ret)) (.seq (.ops [m_ 32 5, m_ 33 0, o_ 34 (.bi .lenS [.t 33]), o_ 35 (.bin .geq .num (.t 32) (.t 34)), m_ 31 35]) (.cond (.t 31) (.seq (.ops [o_ 4 (.mov (i_ (-1)))]) (.ret)) (.seq (.ops [m_ 37 5, o_ 38 (.stuck), o_ 39 (.bin .leq .num (.t 37) (.t 38)), m_ 40 39, q_ 41 40 true (.mov (.t 0)), q_ 42 40 true (.bi .lenS [.t 41]), q_ 43 40 true (.bin .leq .num (.t 42) (i_ 64)), o_ 44 (.pick (.t 40) (.t 43) (.c (.b false))), m_ 36 44]) (.cond (.t 36) (.seq (.ops [o_ 45 (.mov (.mv 0)), o_ 46 (.mov (.mv 1)), o_ 47 (.call (.f 339) [.mv 45, (.mv 46)]), m_ 4 47]) (.ret)) (.skip)))))))))) (.seq (.ops [m_ 48 1, o_ 49 (.index (.t 48) (i_ 0)), m_ 6 49]) (.seq (.ops [m_ 50 1, o_ 51 (.index (.t 50) (i_ 1)), m_ 7 51]) (.seq (.ops [o_ 8 (.mov (i_ 0))]) (.seq (.ops [m_ 52 0, o_ 53 (.bi .lenS [.t 52]), m_ 54 5, o_ 55 (.bin .sub .num (.t 53) (.t 54)), o_ 56 (.bin .add .num (.t 55) (i_ 1)), m_ 9 56]) (.seq (.ops [o_ 10 (.mov (i_ 0))]) (.seq (.block 1 [] (qdU)) (qdX)))))))))), none, none⟩
def yQ : Fn := ⟨1, [.t 2], true, (.seq (.ops [⟨some 2, .mov (.c (.i .u8 0)), none⟩]) ((.seq (.ops [⟨some 3, .mov (.t 0), none⟩, ⟨some 4, .bin .or .num (.t 3) (.c (.i .u8 32)), none⟩, ⟨some 2, .mov (.t 4), none⟩]) (.ret)))), none, none⟩
def prog (n : Nat) : Option Fn :=
  bif qFx n 7 then some qS else
  bif qFx n 8 then some qgt else
  bif qFx n 11 then some qjF else
  bif qFx n 14 then some jC else
  bif qFx n 15 then some jA else
  bif qFx n 16 then some qf0 else
  bif qFx n 20 then some qhO else
  bif qFx n 21 then some qlc else
  bif qFx n 22 then some qnV else
  bif qFx n 23 then some qkL else
  bif qFx n 24 then some qdl else
  bif qFx n 25 then some qcC else
  bif qFx n 26 then some qci else
  bif qFx n 28 then some qdR else
  bif qFx n 33 then some f_scan_All else
  bif qFx n 34 then some qcB else
  bif qFx n 35 then some qa0 else
  bif qFx n 36 then some qaF else
  bif qFx n 37 then some qf5 else
  bif qFx n 38 then some qfj else
  bif qFx n 39 then some qhU else
  bif qFx n 40 then some qdq else
  bif qFx n 41 then some qdT else
  bif qFx n 43 then some qec else
  bif qFx n 49 then some qoI else
  bif qFx n 50 then some qo3 else
  bif qFx n 51 then some qiW else
  bif qFx n 52 then some qoB else
  bif qFx n 53 then some qiR else
  bif qFx n 54 then some yX else
  bif qFx n 55 then some qlk else
  bif qFx n 56 then some jX else
  bif qFx n 58 then some qla else
  bif qFx n 59 then some yE else
  bif qFx n 61 then some yb else
  bif qFx n 64 then some qao else
  bif qFx n 65 then some qlg else
  bif qFx n 66 then some qcE else
  bif qFx n 67 then some qfP else
  bif qFx n 68 then some qd7 else
  bif qFx n 70 then some qdZ else
  bif qFx n 71 then some qdy else
  bif qFx n 72 then some qjD else
  bif qFx n 75 then some qk8 else
  bif qFx n 77 then some qdA else
  bif qFx n 82 then some f_scan_All_1 else
  bif qFx n 83 then some f_scan_scanner_next else
  bif qFx n 84 then some zi else
  bif qFx n 85 then some qiT else
  bif qFx n 86 then some qaL else
  bif qFx n 87 then some qiU else
  bif qFx n 88 then some qdu else
  bif qFx n 89 then some qhN else
  bif qFx n 90 then some qdE else
  bif qFx n 91 then some qdh else
  bif qFx n 93 then some qhF else
  bif qFx n 94 then some qiO else
  bif qFx n 95 then some qd2 else
  bif qFx n 96 then some qfl else
  bif qFx n 98 then some qjK else
  bif qFx n 99 then some qfg else
  bif qFx n 100 then some qdC else
  bif qFx n 101 then some qfX else
  bif qFx n 103 then some qdJ else
  bif qFx n 105 then some qf2 else
  bif qFx n 106 then some qee else
  bif qFx n 108 then some qd5 else
  bif qFx n 125 then some yx else
  bif qFx n 126 then some qgn else
  bif qFx n 127 then some qiC else
  bif qFx n 128 then some j8 else
  bif qFx n 129 then some qf8 else
  bif qFx n 130 then some jL else
  bif qFx n 132 then some qat else
  bif qFx n 133 then some yn else
  bif qFx n 134 then some qnE else
  bif qFx n 135 then some qi3 else
  bif qFx n 136 then some y8 else
  bif qFx n 137 then some yN else
  bif qFx n 142 then some qfU else
  bif qFx n 143 then some qai else
  bif qFx n 144 then some yY else
  bif qFx n 145 then some qmy else
  bif qFx n 147 then some qml else
  bif qFx n 148 then some qhW else
  bif qFx n 149 then some qmp else
  bif qFx n 150 then some qmn else
  bif qFx n 151 then some qlm else
  bif qFx n 153 then some qd9 else
  bif qFx n 154 then some qdp else
  bif qFx n 156 then some qdx else
  bif qFx n 160 then some qjL else
  bif qFx n 162 then some qmw else
  bif qFx n 164 then some qjG else
  bif qFx n 165 then some qgz else
  bif qFx n 166 then some qdm else
  bif qFx n 171 then some qcp else
  bif qFx n 173 then some qaj else
  bif qFx n 174 then some qet else
  bif qFx n 175 then some yi else
  bif qFx n 176 then some qfx else
  bif qFx n 177 then some zM else
  bif qFx n 178 then some qbw else
  bif qFx n 179 then some yl else
  bif qFx n 180 then some je else
  bif qFx n 181 then some jy else
  bif qFx n 184 then some qdL else
  bif qFx n 185 then some qf6 else
  bif qFx n 186 then some qdo else
  bif qFx n 188 then some qfh else
  bif qFx n 189 then some qgB else
  bif qFx n 190 then some qdF else
  bif qFx n 191 then some qge else
  bif qFx n 192 then some qf4 else
  bif qFx n 193 then some qd8 else
  bif qFx n 196 then some qfM else
  bif qFx n 197 then some qc2 else
  bif qFx n 200 then some qed else
  bif qFx n 201 then some qd6 else
  bif qFx n 202 then some qd0 else
  bif qFx n 204 then some qgm else
  bif qFx n 230 then some qae else
  bif qFx n 231 then some yf else
  bif qFx n 233 then some yO else
  bif qFx n 234 then some jY else
  bif qFx n 237 then some jZ else
  bif qFx n 238 then some qeS else
  bif qFx n 242 then some qfk else
  bif qFx n 244 then some qgE else
  bif qFx n 252 then some qjI else
  bif qFx n 253 then some jd else
  bif qFx n 254 then some jc else
  bif qFx n 255 then some qbe else
  bif qFx n 256 then some qhX else
  bif qFx n 258 then some qhL else
  bif qFx n 259 then some qa1 else
  bif qFx n 260 then some qfw else
  bif qFx n 261 then some qjJ else
  bif qFx n 262 then some qje else
  bif qFx n 263 then some qam else
  bif qFx n 264 then some qaJ else
  bif qFx n 266 then some qcD else
  bif qFx n 272 then some qd3 else
  bif qFx n 292 then some yM else
  bif qFx n 293 then some qeG else
  bif qFx n 294 then some qjN else
  bif qFx n 299 then some zT else
  bif qFx n 301 then some qmu else
  bif qFx n 303 then some zR else
  bif qFx n 322 then some qbM else
  bif qFx n 324 then some yQ else none
end W

/-
  More equations: nil slices, shifts, bits, bytes.
-/
set_option linter.unusedSimpArgs false
set_option linter.unusedVariables false
namespace W
open Go (IntKind BinOp UnOp)
theorem qn4 {xs : List D} : qpe true (.osl xs) = some (.osl xs) := (rfl)
theorem qvd {own : Bool} {xs : List V} (h : own = true) : qpe own (.tup xs) = some (.tup xs) := by subst h; rfl
theorem ko {n : Nat} : isC (.t n) = false := (rfl)
theorem kM {x : D} : isC (.c x) = true := (rfl)
theorem qz0 {n : Nat} : isC (.mv n) = false := (rfl)
theorem qBG {n : Nat} : isC (.f n) = false := (rfl)
theorem qo6 : qaM .eql .slice true (.d .nil) (.d .nil) = some (.d (.b true)) := (rfl)
theorem qq1 {xs : List D} : qaM .eql .slice true (.d (.sl xs)) (.d .nil) = some (.d (.b false)) := (rfl)
theorem qoR : qaM .neq .slice true (.d .nil) (.d .nil) = some (.d (.b false)) := (rfl)
theorem qpB {xs : List D} : qaM .neq .slice true (.d (.sl xs)) (.d .nil) = some (.d (.b true)) := (rfl)
theorem qzn {i : Nat} : qaM .eql .map true (.map i) (.d .nm) = some (.d (.b false)) := (rfl)
theorem qwN {c : Bool} {k k' : IntKind} {m n : Int} (h : (0 ≤ n) = True) : qaM .shl .num c (.d (.i k m)) (.d (.i k' n)) = some (.d (.i k (wr k (m * 2 ^ (min n.toNat k.bits))))) := by
  have h : 0 ≤ n := by rw [h]; trivial
  simp [qaM, qdv, qiQ, qhQ, h]
theorem qw2 {c : Bool} {k k' : IntKind} {m n : Int} (h : (0 ≤ n) = True) : qaM .shr .num c (.d (.i k m)) (.d (.i k' n)) = some (.d (.i k (m.fdiv (2 ^ (min n.toNat k.bits))))) := by
  have h : 0 ≤ n := by rw [h]; trivial
  simp [qaM, qdv, qiQ, qhQ, h]
def orI (k : IntKind) (a b : Int) : Int := k.wrap ((BitVec.ofInt k.bits a) ||| (BitVec.ofInt k.bits b)).toNat
def qeZ (k : IntKind) (a b : Int) : Int := k.wrap ((BitVec.ofInt k.bits a) &&& (BitVec.ofInt k.bits b)).toNat
def qFj (k : IntKind) (a b : Int) : Int := k.wrap ((BitVec.ofInt k.bits a) ^^^ (BitVec.ofInt k.bits b)).toNat
theorem qvK {c : Bool} {k : IntKind} {m n : Int} : qaM .or .num c (.d (.i k m)) (.d (.i k n)) = some (.d (.i k (orI k m n))) := by rw [qhK rfl]; rfl
theorem qev {c : Bool} {k : IntKind} {m n : Int} : qaM .and .num c (.d (.i k m)) (.d (.i k n)) = some (.d (.i k (qeZ k m n))) := by rw [qhK rfl]; rfl
theorem qxi {c : Bool} {k : IntKind} {m n : Int} : qaM .xor .num c (.d (.i k m)) (.d (.i k n)) = some (.d (.i k (qFj k m n))) := by rw [qhK rfl]; rfl
def qd1 (s : Nat) (v : V) : V := match v with | .lp t o => bif qFx t s then .undef else .lp t o | v => v
theorem ke {s : Nat} : qeo s [] = [] := (rfl)
theorem qU {s n : Nat} {v : V} {e : Env} : qeo s ((n, v) :: e) = (n, qd1 s v) :: qeo s e := (rfl)
theorem yu {s : Nat} {x : D} : qd1 s (.d x) = .d x := (rfl)
theorem qbX {s : Nat} {x : List D} : qd1 s (.osl x) = .osl x := (rfl)
theorem k9 {s i o : Nat} : qd1 s (.ptr i o) = .ptr i o := (rfl)
theorem qsb {s i : Nat} : qd1 s (.map i) = .map i := (rfl)
theorem jE {s : Nat} {x : List V} : qd1 s (.box x) = .box x := (rfl)
theorem qu6 {s : Nat} {x : D} : qd1 s (.cp x) = .cp x := (rfl)
theorem qbU {s : Nat} {x : List V} : qd1 s (.agg x) = .agg x := (rfl)
theorem qaQ {s : Nat} {x : List V} : qd1 s (.tup x) = .tup x := (rfl)
theorem quT {s i : Nat} {x y : List V} : qd1 s (.fn i x y) = .fn i x y := (rfl)
theorem qow {s i : Nat} {x : V} : qd1 s (.ifc i x) = .ifc i x := (rfl)
theorem qo5 {s : Nat} : qd1 s .undef = .undef := (rfl)
theorem qtU {s t o : Nat} : qd1 s (.lp t o) = bif qFx t s then .undef else .lp t o := (rfl)
theorem qtH {s a b c d : Nat} : qd1 s (.rs a b c d) = .rs a b c d := (rfl)
theorem qrI {α : Type} {s : Nat} {e : α → D} {L : List α} : qd1 s (slV e L) = slV e L := by cases L <;> rfl
theorem kD {cs vs : List V} (h : (vs.length = cs.length) = True) : yz cs 0 vs = some vs := by
  have h : vs.length = cs.length := by rw [h]; trivial
  simp [yz, h]
theorem qmO {cs : List V} {o : Nat} {v w : V} (h : (o + 1 < cs.length) = True) : yz cs o [v, w] = some ((cs.set o v).set (o + 1) w) := by
  have h : o + 1 < cs.length := by rw [h]; trivial
  have : o + [v, w].length ≤ cs.length := by simp; omega
  rw [yz, if_pos this]
  congr 1
  apply List.ext_getElem?
  intro j
  simp only [List.getElem?_append, List.length_append, List.length_take, qFF, qFG, List.getElem?_drop, List.getElem?_set, List.length_set, List.getElem?_take]
  rcases Nat.lt_trichotomy j o with hj | hj | hj
  · rw [if_pos (by omega), if_pos (by omega), if_pos (by omega), if_neg (by omega), if_neg (by omega)]
  · subst hj
    rw [if_pos (by omega), if_neg (by omega), if_neg (by omega), if_pos rfl, if_pos (by omega)]
    have : j - min j cs.length = 0 := by omega
    simp [this]
  · by_cases hj2 : j = o + 1
    · subst hj2
      rw [if_pos (by omega), if_neg (by omega), if_pos rfl, if_pos (by omega)]
      have : o + 1 - min o cs.length = 1 := by omega
      simp [this]
    · rw [if_neg (by omega), if_neg (by omega), if_neg (by omega)]
      congr 1; omega
def cpV (r : Option D) : Option V := match r with | some y => bif y.one then some (.cp y) else none | none => none
theorem qlD {cs : List D} {off : Nat} : faV (.cp (.agg cs)) off ⟨1, false⟩ = cpV (cs[off]?) := by
  simp only [faV, D.part, cpV]
  cases h : cs[off]? with
  | none => simp [h]
  | some y => cases hy : y.one <;> simp [h, hy]
theorem qrt {k : IntKind} {n : Int} : cpV (some (.i k n)) = some (.cp (.i k n)) := (rfl)
theorem qt3 {x : List Nat} : cpV (some (.s x)) = some (.cp (.s x)) := (rfl)
theorem qBM {x : Bool} : cpV (some (.b x)) = some (.cp (.b x)) := (rfl)
theorem qAo {x : List D} : cpV (some (.sl x)) = some (.cp (.sl x)) := (rfl)
theorem qxs : cpV (some .nil) = some (.cp .nil) := (rfl)
theorem qwV {α : Type} {e : α → D} {L : List α} : cpV (some (slD e L)) = some (.cp (slD e L)) := by cases L <;> rfl
def qBn (l : L) (st : St) : V → Option V
  | .box cs => V.part 0 l cs
  | .ptr id off => yI l st (.ptr id off)
  | _ => none
theorem zn {own : Bool} {st : St} {n : Nat} {l : L} : qfo own st (.cell n l) = qBn l st (get n st.env) := by
  simp only [qfo, qBn]
  cases get n st.env <;> rfl
theorem yB {l : L} {st : St} {cs : List V} : qBn l st (.box cs) = qv0 l 0 (.box cs) := (rfl)
theorem qkH {l : L} {st : St} {i o : Nat} : qBn l st (.ptr i o) = qd4 none l st (.ptr i o) := (rfl)
theorem qqV {b : Bool} {cs : List D} : qsu (.alloc b cs) = b := (rfl)
theorem quj {b : Bool} {x : O} : qsu (.box b x) = b := (rfl)
def qCc (r : Bool) (n : Nat) (cs : List V) (st : St) : Option St := bif r then some { st with env := (n, .box cs) :: st.env } else none
theorem qxq {no : List Nat} {n : Nat} {cs : List V} {st : St} : qfp true no (some n) (.box cs) st = qCc (qbm n st.env) n cs st := by
  simp only [qfp, qCc, Bool.true_and]
theorem qAc {n : Nat} {cs : List V} {st : St} : qCc true n cs st = some ⟨(n, .box cs) :: st.env, st.H, st.lo⟩ := (rfl)
def lpD (r : Bool) (n m o : Nat) (st : St) : Option St := bif r then none else some { st with env := (n, .lp m o) :: st.env }
theorem qhI {bx : Bool} {no : List Nat} {n m o : Nat} {st : St} : qfp bx no (some n) (.lp m o) st = lpD (qel m no) n m o st := (rfl)
theorem qoD {n m o : Nat} {st : St} : lpD false n m o st = some ⟨(n, .lp m o) :: st.env, st.H, st.lo⟩ := (rfl)
theorem qct {n : Nat} : qel n [] = false := (rfl)
theorem qo4 {n m : Nat} {l : List Nat} : qel n (m :: l) = (qFx n m || qel n l) := (rfl)
theorem qtZ {i o n c : Nat} : qea (.rs i o n c) = .rs i o n c := (rfl)
theorem qiE {i o : Nat} : qea (.ptr i o) = .ptr i o := (rfl)
theorem qrR {i : Nat} : qea (.map i) = .map i := (rfl)
theorem quL {x : D} : qea (.cp x) = .cp x := (rfl)
theorem qux {i o : Nat} : qea (.lp i o) = .lp i o := (rfl)
theorem quz {i : Nat} {u w : List V} : qea (.fn i u w) = .fn i u w := (rfl)
theorem qot {t : Nat} {w : V} : qea (.ifc t w) = .ifc t w := (rfl)
theorem qbT {w : List V} : qea (.agg w) = .agg w := (rfl)
theorem qsd {w : List V} : qea (.tup w) = .tup w := (rfl)
theorem qwY {bx : Bool} {no : List Nat} {n a b c d : Nat} {st : St} : qfp bx no (some n) (.rs a b c d) st = some ⟨(n, .rs a b c d) :: st.env, st.H, st.lo⟩ := by cases bx <;> rfl
theorem qtW {α : Type} {bx : Bool} {no : List Nat} {n : Nat} {e : α → D} {L : List α} {st : St} : qfp bx no (some n) (slV e L) st = some ⟨(n, slV e L) :: st.env, st.H, st.lo⟩ := by cases L <;> rfl
def noL (n : Nat) (v : V) : Bool := match v with | .lp m _ => !Nat.beq m n | _ => true
theorem quu {n : Nat} : qbm n [] = true := (rfl)
theorem qyM {n k : Nat} {v : V} {e : Env} : qbm n ((k, v) :: e) = (noL n v && qbm n e) := by cases v <;> rfl
theorem qBH {n : Nat} {x : D} : noL n (.d x) = true := (rfl)
theorem qwI {n : Nat} {x : List D} : noL n (.osl x) = true := (rfl)
theorem qxx {n i o : Nat} : noL n (.ptr i o) = true := (rfl)
theorem qw0 {n i : Nat} : noL n (.map i) = true := (rfl)
theorem qxg {n : Nat} {x : List V} : noL n (.box x) = true := (rfl)
theorem qAv {n : Nat} {x : D} : noL n (.cp x) = true := (rfl)
theorem qxC {n : Nat} {x : List V} : noL n (.agg x) = true := (rfl)
theorem qwO {n : Nat} {x : List V} : noL n (.tup x) = true := (rfl)
theorem qzj {n i : Nat} {x y : List V} : noL n (.fn i x y) = true := (rfl)
theorem qwH {n i : Nat} {x : V} : noL n (.ifc i x) = true := (rfl)
theorem qrL {n : Nat} : noL n .undef = true := (rfl)
theorem qyY {n a b c d : Nat} : noL n (.rs a b c d) = true := (rfl)
theorem qAq {n m o : Nat} : noL n (.lp m o) = !Nat.beq m n := (rfl)
theorem qxm {α : Type} {n : Nat} {e : α → D} {L : List α} : noL n (slV e L) = true := by cases L <;> rfl
theorem qqG {k : D} {v : V} : qh4 k v [] = some [(k, v)] := (rfl)
theorem qrm {o o' : Obj} : kh [o] 0 o' = [o'] := (rfl)
def e8 (n : Nat) : D := .i .u8 (n : Int)
end W

/- Walking on: interfaces, panics, function values, deferred closures. -/
set_option linter.unusedSimpArgs false
set_option linter.unusedVariables false
namespace W
open Go (IntKind BinOp UnOp)
variable {pg : Pg} {st : St} {call : Call}
def qz9 (t : Nat) (v : V) (st : St) : Option Or := if v.ok then some ⟨false, true, .ifc t v, st⟩ else none
theorem qco {t : Nat} {x : O} : kc call (.mkIfc t x) st = qz9 t (rd st.env x) st := (rfl)
theorem qgc {t : Nat} {x : D} : qz9 t (.d x) st = some ⟨false, true, .ifc t (.d x), st⟩ := (rfl)
def qEu (v : V) (st : St) : Option Or := match v with | .ifc t y => some ⟨true, true, .ifc t y, st⟩ | _ => none
theorem qld {x : O} : kc call (.panic x) st = qEu (rd st.env x) st := (rfl)
theorem qqb {t : Nat} {y : V} : qEu (.ifc t y) st = some ⟨true, true, .ifc t y, st⟩ := (rfl)
theorem qjn {t : Nat} {x : V} : qaM .neq .iface true (.ifc t x) (.d .ni) = some (.d (.b true)) := (rfl)
theorem qwq {t : Nat} {x : V} : qaM .eql .iface true (.ifc t x) (.d .ni) = some (.d (.b false)) := (rfl)
theorem qm3 : qaM .neq .iface true (.d .ni) (.d .ni) = some (.d (.b false)) := (rfl)
theorem qAm : qaM .eql .iface true (.d .ni) (.d .ni) = some (.d (.b true)) := (rfl)
noncomputable def qzX (pg : Pg) (v : V) (args : List O) (st : St) : Option Or :=
  match v with
  | .fn i first cap =>
    let vs := first ++ args.map (rd st.env) ++ cap
    if V.allLeave vs then (match kn pg i vs st.H with
      | some r => some ⟨r.pan, r.same, r.v, { env := spentAll args st.env, H := r.H, lo := min st.lo r.lo }⟩
      | none => none) else none
  | _ => none
theorem qpz {n : Nat} {args : List O} : qfN (kn pg) (.t n) args st = qzX pg (rd st.env (.t n)) args st := (rfl)
theorem qnL {i : Nat} {args : List O} (hl : V.allLeave (args.map (rd st.env)) = true) : qzX pg (.fn i [] []) args st = qnO (kn pg i (args.map (rd st.env)) st.H) args st := by
  have : ([] : List V) ++ args.map (rd st.env) ++ [] = args.map (rd st.env) := by simp
  simp only [qzX, this, hl, if_true, qnO]
  all_goals rfl
theorem qoS {t : Nat} {x : D} : V.leaves (.ifc t (.d x)) = true := (rfl)
theorem qo0 {t : Nat} : V.leaves (.ifc t .undef) = true := (rfl)
def qzJ (f : Nat) (a b : List V) (st : St) : Option Or := if V.ok.oks a && V.ok.oks b then some ⟨false, true, .fn f a b, st⟩ else none
theorem qmS {f : Nat} {a b : List O} : kc call (.mkFn f a b) st = qzJ f (a.map (rd st.env)) (b.map (rd st.env)) st := (rfl)
theorem qpR {f : Nat} {a b : List V} (h : (V.ok.oks a && V.ok.oks b) = true) : qzJ f a b st = some ⟨false, true, .fn f a b, st⟩ := by simp [qzJ, h]
theorem qxA {f : Nat} {a b : List V} : copy (.fn f a b) = .fn f a b := (rfl)
theorem qpA {s t : Nat} {x : D} : qd1 s (.ifc t (.d x)) = .ifc t (.d x) := (rfl)
theorem qqH {s t : Nat} : qd1 s (.ifc t .undef) = .ifc t .undef := (rfl)
theorem qui {n t : Nat} {x : D} : noL n (.ifc t (.d x)) = true := (rfl)
theorem qtY {n t : Nat} : noL n (.ifc t .undef) = true := (rfl)
theorem qpp {bx : Bool} {no : List Nat} {n f : Nat} {a b : List V} : qfp bx no (some n) (.fn f a b) st = some ⟨(n, .fn f a b) :: st.env, st.H, st.lo⟩ := by cases bx <;> rfl
theorem qu9 {bx : Bool} {no : List Nat} {n f : Nat} {a : V} : qfp bx no (some n) (.ifc f a) st = some ⟨(n, .ifc f a) :: st.env, st.H, st.lo⟩ := by cases bx <;> rfl
theorem qgv {H : List Obj} {pan : Bool} {v : V} {e : Env} {lo id : Nat} {o : Obj} (hv : v.leaves = true) (hr : v.ref = 0) (hs : ∀ G, settle H.length G v = v) (hh : kh H id o = H ∨ lo ≤ id) (hid : id < H.length) :
    ∃ sm, leave H pan v ⟨e, kh H id o, lo⟩ = some ⟨pan, sm, v, kh H id o, lo⟩ := by
  by_cases hl : H.length ≤ lo
  · have he : kh H id o = H := by
      rcases hh with h | h
      · exact h
      · omega
    rw [he]
    exact ⟨true, zY hv (by omega) hl (hs _)⟩
  · exact ⟨false, qx4 hv (.inr (by simp only; omega)) (hs _)⟩
theorem qi5 {t : Nat} {x : V} : copy (.ifc t x) = .ifc t x := (rfl)
theorem qrw {t : Nat} {x : V} : qaN (.ifc t x) = .ifc t x := (rfl)
theorem qpL : V.ok .undef = true := (rfl)
def qBk (r : Option (List D)) : Option V := match r with | some xs => if D.wfs xs then some (.fsl xs) else none | none => none
theorem yp {call : Call} {st : St} {zero : D} {n : Nat} {ps : List (Nat × O)} : kc call (.buildFull zero n ps) st = okS (qBk (qeb zero.cells.length (List.replicate n zero) (ps.map fun (j, x) => (j, rd st.env x)))) st := by
  show qaG zero n ps st = _
  unfold qaG qBk
  cases qeb zero.cells.length (List.replicate n zero) (ps.map fun (j, x) => (j, rd st.env x)) with
  | none => rfl
  | some xs => simp only; split <;> rfl
theorem qdb {xs : List D} (h : D.wfs xs = true) : qBk (some xs) = some (.fsl xs) := by simp [qBk, h]
def qEO (r : Option (List V)) : Option V := match r with | some cs => some (.agg cs) | none => none
theorem qaV {call : Call} {st : St} {zero : List D} {ps : List (Nat × Nat × O)} : kc call (.buildV zero ps) st = okS (qEO (qli (zero.map .d) (ps.map fun (o, s, x) => (o, s, rd st.env x)))) st := by
  show qcW zero ps st = _
  unfold qcW qli
  cases qbf (ps.map fun (o, s, x) => (o, s, rd st.env x)) with
  | false => rfl
  | true => simp only [qFO, cond_false, cond_true]; cases fill (zero.map .d) (ps.map fun (o, s, x) => (o, s, rd st.env x)) <;> rfl
theorem qc6 {cs : List V} : qEO (some cs) = some (.agg cs) := (rfl)
theorem qdj {n : Nat} {xs : List D} : qdw n (.fsl xs) = .fsl xs := (rfl)
theorem qlI {xs : List D} : qea (.fsl xs) = .fsl xs := (rfl)
theorem qhY {st : St} {n : Nat} {xs : List D} : put (some n) (.fsl xs) st = ⟨(n, .fsl xs) :: st.env, st.H, st.lo⟩ := (rfl)
theorem qdk {xs : List D} : V.cells (.fsl xs) = [.fsl xs] := (rfl)
theorem qeB {x : List D} : V.one (.fsl x) = true := (rfl)
theorem qni {x : List D} {l : List V} : qbQ (.fsl x :: l) = qsa (.sl x) (qbQ l) := (rfl)
theorem qlH {x : List D} : qaN (.fsl x) = .fsl x := (rfl)
theorem qdd {s : Nat} {x : List D} : qd1 s (.fsl x) = .fsl x := (rfl)
theorem qpv {z b : Nat} {xs ys : List D} (hx : jF z xs = true) (h : jF z ys = true) (hr : roomy b (xs.length + ys.length) = true) : qar z b (.fsl xs) (.d (.sl ys)) = some (.osl (xs ++ ys)) := by
  simp [qar, hx, h, hr]
def mvB (st : St) (s : Nat) (o : Nat) (r : V) : Option Or := match r with
  | .box cs => mvC st s o cs (cs[o]?)
  | _ => none
 where mvC (st : St) (s o : Nat) (cs : List V) : Option V → Option Or
  | some v => some ⟨false, true, v, { st with env := (s, .box (cs.set o .undef)) :: st.env }⟩
  | none => none
theorem qpt {st : St} {s o : Nat} {cs : List V} : mvB st s o (.box cs) = mvB.mvC st s o cs (cs[o]?) := (rfl)
theorem qne {st : St} {s o : Nat} {cs : List V} {v : V} : mvB.mvC st s o cs (some v) = some ⟨false, true, v, { st with env := (s, .box (cs.set o .undef)) :: st.env }⟩ := (rfl)
def qpy (sl : Nat) (st : St) (r : V) : Option Or := match r with
  | .lp s o => bif qFx sl s then mvB st s o (get s st.env) else none
  | _ => none
theorem qew {call : Call} {st : St} {s : Nat} {a : O} : kc call (.load true (some s) ⟨1, false⟩ a) st = qpy s st (rd st.env a) := by
  show qcr true (some s) ⟨1, false⟩ a st = _
  unfold qcr qpy
  cases rd st.env a with
  | lp s' o =>
    simp only [jv]
    cases qFx s s' with
    | false => rfl
    | true =>
      simp only [qFO, cond_false, cond_true, qoe, mvB]
      cases get s' st.env with
      | box cs => simp only; cases hq : cs[o]? <;> rfl
      | _ => rfl
  | _ => rfl
theorem qjy {st : St} {s o : Nat} : qpy s st (.lp s o) = mvB st s o (get s st.env) := by simp [qpy]
end W

/-
  The same evaluator, in forms that the kernel reckons fast.
-/
set_option linter.unusedSimpArgs false
set_option linter.unusedVariables false
namespace W
open Go (IntKind BinOp UnOp)
noncomputable def fget (n : Nat) (e : Env) : V := List.rec (motive := fun _ => V) .undef (fun p _ ih => Bool.rec ih p.2 (qFx n p.1)) e
theorem qny (n : Nat) (e : Env) : fget n e = get n e := by
  induction e with
  | nil => rfl
  | cons p e ih =>
    obtain ⟨m, v⟩ := p
    show Bool.rec (fget n e) v (qFx n m) = bif qFx n m then v else get n e
    rw [ih]
    cases qFx n m <;> rfl
noncomputable def fnth {α : Type} (l : List α) (n : Nat) : Option α :=
  List.rec (motive := fun _ => Nat → Option α) (fun _ => none) (fun x _ ih n => Nat.rec (motive := fun _ => Option α) (some x) (fun m _ => ih m) n) l n
theorem qnX {α : Type} (l : List α) (n : Nat) : fnth l n = l[n]? := by
  induction l generalizing n with
  | nil => rfl
  | cons x l ih =>
    cases n with
    | zero => rfl
    | succ n => exact ih n
noncomputable def frd (e : Env) (o : O) : V := O.rec (motive := fun _ => V) (fun n => qdw n (fget n e)) (fun x => .d x) (fun i => .fn i [] []) (fun n => qea (fget n e)) (fun _ x => .cp x) o
theorem qe9 (e : Env) (o : O) : frd e o = rd e o := by cases o <;> simp only [frd, qny] <;> rfl
noncomputable def qaA {α : Type} (a : Nat) (k : Nat → α) : α := Nat.rec (motive := fun _ => α) (k 0) (fun m _ => k (Nat.succ m)) a
noncomputable def qqR {α : Type} (n : Int) (k : Int → α) : α := Int.rec (motive := fun _ => α) (fun a => qaA a fun a => k (.ofNat a)) (fun a => qaA a fun a => k (.negSucc a)) n
noncomputable def qp9 {α : Type} (b : Bool) (k : Bool → α) : α := Bool.rec (motive := fun _ => α) (k false) (k true) b
theorem qeh {α : Type} (a : Nat) (k : Nat → α) : qaA a k = k a := by cases a <;> rfl
theorem qoi {α : Type} (n : Int) (k : Int → α) : qqR n k = k n := by
  cases n with
  | ofNat a => exact qeh a fun a => k (.ofNat a)
  | negSucc a => exact qeh a fun a => k (.negSucc a)
theorem qou {α : Type} (b : Bool) (k : Bool → α) : qp9 b k = k b := by cases b <;> rfl
noncomputable def qvD {α : Type} (l : List Nat) (k : List Nat → α) : α :=
  List.rec (motive := fun _ => (List Nat → α) → α) (fun k => k []) (fun x _ ih k => qaA x fun x => ih fun r => k (x :: r)) l k
theorem qxM {α : Type} (l : List Nat) (k : List Nat → α) : qvD l k = k l := by
  induction l generalizing k with
  | nil => rfl
  | cons x l ih => exact (qeh x fun x => qvD l fun r => k (x :: r)).trans (ih fun r => k (x :: r))
noncomputable def qbj {β α : Type} (f : β → (β → α) → α) (l : List β) (k : List β → α) : α :=
  List.rec (motive := fun _ => (List β → α) → α) (fun k => k []) (fun x _ ih k => f x fun x => ih fun r => k (x :: r)) l k
theorem qaw {β α : Type} {f : β → (β → α) → α} (hf : ∀ x k, f x k = k x) (l : List β) (k : List β → α) : qbj f l k = k l := by
  induction l generalizing k with
  | nil => rfl
  | cons x l ih => exact (hf x fun x => qbj f l fun r => k (x :: r)).trans (ih fun r => k (x :: r))
noncomputable def qjs {α : Type} (x : D) (k : D → α) : α :=
  D.casesOn (motive_1 := fun _ => α) x (fun z => qp9 z fun z => k (.b z)) (fun kk n => qqR n fun n => k (.i kk n)) (fun t => k (.s t)) (k .nil) (fun xs => k (.sl xs)) (fun cs => k (.agg cs)) (k .np) (k .nf) (k .ni) (k .nm)
theorem qek {α : Type} (x : D) (k : D → α) : qjs x k = k x := by
  cases x with
  | b z => exact qou z fun z => k (.b z)
  | i kk n => exact qoi n fun n => k (.i kk n)
  | _ => rfl
noncomputable def qAw {α : Type} (x : D) (k : D → α) : α :=
  D.casesOn (motive_1 := fun _ => α) x (fun z => qp9 z fun z => k (.b z)) (fun kk n => qqR n fun n => k (.i kk n)) (fun t => qvD t fun t => k (.s t)) (k .nil) (fun xs => qbj qjs xs fun xs => k (.sl xs)) (fun cs => qbj qjs cs fun cs => k (.agg cs)) (k .np) (k .nf) (k .ni) (k .nm)
theorem qyn {α : Type} (x : D) (k : D → α) : qAw x k = k x := by
  cases x with
  | b z => exact qou z fun z => k (.b z)
  | i kk n => exact qoi n fun n => k (.i kk n)
  | s t => exact qxM t fun t => k (.s t)
  | sl xs => exact qaw qek xs fun xs => k (.sl xs)
  | agg xs => exact qaw qek xs fun xs => k (.agg xs)
  | _ => rfl
noncomputable def qaq {α : Type} (v : V) (k : V → α) : α :=
  V.casesOn (motive_1 := fun _ => α) v (fun x => qjs x fun x => k (.d x)) (fun xs => k (.osl xs)) (fun xs => k (.fsl xs)) (fun i o => qaA i fun i => qaA o fun o => k (.ptr i o)) (fun i o => qaA i fun i => qaA o fun o => k (.lp i o)) (fun cs => k (.box cs)) (fun x => k (.cp x))
    (fun i o n c => k (.rs i o n c)) (fun i => qaA i fun i => k (.map i)) (fun f a b => k (.fn f a b)) (fun t x => k (.ifc t x)) (fun cs => k (.agg cs)) (fun vs => k (.tup vs)) (k .undef)
theorem qaB {α : Type} (v : V) (k : V → α) : qaq v k = k v := by
  cases v with
  | d x => exact qek x fun x => k (.d x)
  | _ => simp only [qaq, qeh]
noncomputable def qwk {α : Type} (v : V) (k : V → α) : α :=
  V.casesOn (motive_1 := fun _ => α) v (fun x => qAw x fun x => k (.d x)) (fun xs => qbj qjs xs fun xs => k (.osl xs)) (fun xs => qbj qjs xs fun xs => k (.fsl xs)) (fun i o => qaA i fun i => qaA o fun o => k (.ptr i o)) (fun i o => qaA i fun i => qaA o fun o => k (.lp i o)) (fun cs => qbj qaq cs fun cs => k (.box cs)) (fun x => qjs x fun x => k (.cp x))
    (fun i o n c => qaA i fun i => qaA o fun o => qaA n fun n => qaA c fun c => k (.rs i o n c)) (fun i => qaA i fun i => k (.map i)) (fun f a b => qaA f fun f => k (.fn f a b)) (fun t x => k (.ifc t x)) (fun cs => qbj qaq cs fun cs => k (.agg cs)) (fun vs => qbj qaq vs fun vs => k (.tup vs)) (k .undef)
theorem qxU {α : Type} (v : V) (k : V → α) : qwk v k = k v := by
  cases v with
  | d x => exact qyn x fun x => k (.d x)
  | osl xs => exact qaw qek xs fun xs => k (.osl xs)
  | fsl xs => exact qaw qek xs fun xs => k (.fsl xs)
  | box cs => exact qaw qaB cs fun cs => k (.box cs)
  | cp x => exact qek x fun x => k (.cp x)
  | agg cs => exact qaw qaB cs fun cs => k (.agg cs)
  | tup cs => exact qaw qaB cs fun cs => k (.tup cs)
  | _ => simp only [qwk, qeh]
noncomputable def qzf {α : Type} (o : Obj) (k : Obj → α) : α :=
  Obj.casesOn (motive := fun _ => α) o (fun cs => qbj qaq cs fun cs => k (.cells cs)) (fun es => qbj (fun p k => qaq p.2 fun v => k (p.1, v)) es fun es => k (.map es))
theorem qxT {α : Type} (o : Obj) (k : Obj → α) : qzf o k = k o := by
  cases o with
  | cells cs => exact qaw qaB cs fun cs => k (.cells cs)
  | map es => exact qaw (fun p k => qaB p.2 fun v => k (p.1, v)) es fun es => k (.map es)
noncomputable def qog {α : Type} (H : List Obj) (k : List Obj → α) : α := qbj (fun o k => qzf o k) H k
theorem qrE {α : Type} (H : List Obj) (k : List Obj → α) : qog H k = k H := qaw qxT _ _
noncomputable def qAr (l : L) (off : Nat) (cs : List V) : Option V := Bool.rec (motive := fun _ => Option V) ((fnth cs off).map qaN) (V.part off l cs) l.agg
noncomputable def qs5 (l : L) (st : St) (v : V) : Option V :=
  match v with
  | .lp s off => match fget s st.env with
    | .box cs => qAr l off cs
    | _ => none
  | .ptr id off => match fnth st.H id with
    | some (.cells cs) => qAr l off cs
    | _ => none
  | v => yI l st v
theorem qCe (l : L) (off : Nat) (cs : List V) : qAr l off cs = V.part off l cs := by
  obtain ⟨n, agg⟩ := l
  cases agg with
  | true => rfl
  | false => show (fnth cs off).map qaN = _; rw [qnX]; simp [V.part]
theorem qwb : qs5 = yI := by
  funext l st v
  cases v <;> simp only [qs5, qCe, qny, qnX] <;> rfl
noncomputable def qEp (x : O) (st : St) : Option Or := ok (frd st.env x) { st with env := spent x st.env }
noncomputable def qBL (c : O) (a : O) (b : O) (st : St) : Option Or :=
  match frd st.env c with
    | .d (.b z) => ok (Bool.rec (motive := fun _ => V) (frd st.env b) (frd st.env a) z) st
    | _ => none
noncomputable def qBO (mv : Bool) (sl : Option Nat) (l : L) (a : O) (st : St) : Option Or :=
  Bool.rec (motive := fun _ => Option Or) (bif !jv sl (frd st.env a) then none else (match qs5 l st (frd st.env a) with | some v => ok v st | none => none)) (qcr true sl l a st) mv
noncomputable def qrr (x : O) (st : St) : Option Or :=
  match frd st.env x with
    | .ptr id off => ok (.ptr id off) st
    | .lp s off => ok (.lp s off) st
    | .cp y => ok (.cp y) st
    | _ => none
noncomputable def qEi (op : BinOp) (kd : Kd) (x : O) (y : O) (st : St) : Option Or :=
  match qaM op kd (isC x || isC y) (frd st.env x) (frd st.env y) with
    | some v => ok v st
    | none => none
noncomputable def qqZ (x : O) (off : Nat) (l : L) (st : St) : Option Or :=
  match frd st.env x with
    | .ptr id o => ok (.ptr id (o + off)) st
    | .lp s o => ok (.lp s (o + off)) st
    | _ => yJ x off l st
noncomputable def qqj (x : O) (i : O) (size : Nat) (arr : Option Nat) (st : St) : Option Or :=
  match frd st.env i with
    | .d (.i _ n) => match arr with
      | some len => bif leI 0 n && !leI len n then (match frd st.env x with
        | .ptr id o => ok (.ptr id (o + n.toNat * size)) st
        | .lp s o => ok (.lp s (o + n.toNat * size)) st
        | .cp (.agg cs) => bif qFx size 1 then (match fnth cs n.toNat with
          | some y => if y.one then ok (.cp y) st else none
          | none => none) else none
        | _ => none) else none
      | none => bif leI 0 n then (match frd st.env x with
        | .d (.sl xs) => match fnth xs n.toNat with
          | some y => bif qFx y.cells.length size then ok (.cp y) st else none
          | none => none
        | .rs id o len _ => bif !leI len n && qFx size 1 then ok (.ptr id (o + n.toNat)) st else none
        | _ => none) else none
    | _ => none
noncomputable def qy1 (x : O) (i : O) (st : St) : Option Or :=
  match frd st.env x, frd st.env i with
    | .d (.s t), .d (.i _ n) => bif leI 0 n then (match fnth t n.toNat with
        | some y => ok (.d (.i .u8 y)) st
        | none => none) else none
    | _, _ => none
noncomputable def qt4 (x : O) (i : Nat) (st : St) : Option Or :=
  match x with
    | .t n => match fget n st.env with
      | .tup vs => match fnth vs i with
        | some v => ok (copy v) st
        | none => none
      | _ => none
    | _ => none
noncomputable def qv4 {α : Type} (l : List α) : Nat := List.rec (motive := fun _ => Nat) 0 (fun _ _ ih => Nat.succ ih) l
theorem qsw {α : Type} (l : List α) : qv4 l = l.length := by
  induction l with
  | nil => rfl
  | cons x l ih => simp only [qFF, ← ih]; rfl
noncomputable def qBJ (x : O) (st : St) : Option Or :=
  match frd st.env x with
    | .d (.s t) => ok (.d (.i .i64 (qv4 t))) st
    | _ => none
noncomputable def qBE (x : O) (st : St) : Option Or :=
  match frd st.env x with
    | .d .nil => ok (.d (.i .i64 0)) st
    | .d (.sl xs) => ok (.d (.i .i64 (qv4 xs))) st
    | .rs _ _ n _ => ok (.d (.i .i64 n)) st
    | _ => none
noncomputable def fBi (b : Bi) (args : List O) (st : St) : Option Or :=
  match b, args with
    | .lenS, [x] => qBJ x st
    | .lenL, [x] => qBE x st
    | b, l => eBi b l st
noncomputable def qe2 (call : Call) (k : OpK) (st : St) : Option Or :=
  match k with
  | .mov x => qEp x st
  | .pick c a b => qBL c a b st
  | .load mv sl l a => qBO mv sl l a st
  | .nilCheck x => qrr x st
  | .bin op kd x y => qEi op kd x y st
  | .fieldAddr x off l => qqZ x off l st
  | .indexAddr x i size arr => qqj x i size arr st
  | .index x i => qy1 x i st
  | .extract x i => qt4 x i st
  | .bi b args => fBi b args st
  | k => kc call k st
theorem qyH : qe2 = kc := by
  funext call k st
  cases k with
  | mov x => simp only [qe2, qEp, qe9]; rfl
  | pick c a b =>
    simp only [qe2, qBL, qe9, kc, qjM]
    cases rd st.env c with
    | d w => cases w with
      | b z => cases z <;> rfl
      | _ => rfl
    | _ => rfl
  | load mv sl l a => cases mv <;> simp only [qe2, qBO, qe9, qwb] <;> rfl
  | nilCheck x => simp only [qe2, qrr, qe9]; rfl
  | bin op kd x y => simp only [qe2, qEi, qe9]; rfl
  | fieldAddr x off l =>
    simp only [qe2, qqZ, qe9, kc]
    split <;> rename_i h <;> (try simp only [yJ, h])
  | indexAddr x i size arr => simp only [qe2, qqj, qe9, qnX]; rfl
  | index x i => simp only [qe2, qy1, qe9, qnX]; rfl
  | extract x i => simp only [qe2, qt4, qny, qnX]; rfl
  | bi b args =>
    simp only [qe2, fBi, kc]
    split
    · rename_i x; simp only [qBJ, qe9, qsw]; rfl
    · rename_i x
      simp only [qBE, qe9, qsw]
      show _ = qhH x st
      unfold qhH
      cases rd st.env x with
      | d w => cases w <;> rfl
      | _ => rfl
    · rfl
  | _ => rfl
noncomputable def makes (k : OpK) : Bool :=
  match k with
  | .mov _ => false
  | .load _ _ _ _ => false
  | .extract _ _ => false
  | .pick _ _ _ => false
  | .nilCheck _ => false
  | .store _ _ _ _ => false
  | .call _ _ => false
  | .indexAddr _ _ _ _ => false
  | .fieldAddr _ _ _ => false
  | .field _ _ _ => false
  | _ => true
noncomputable def qvY {α : Type} (m : Bool) (v : V) (k : V → α) : α := Bool.rec (motive := fun _ => α) (qaq v k) (qwk v k) m
theorem qyK {α : Type} (m : Bool) (v : V) (k : V → α) : qvY m v k = k v := by
  cases m
  · exact qaB v k
  · exact qxU v k
noncomputable def frestrict (live : List Nat) (e : Env) (k : Env → Option (Ex × St)) : Option (Ex × St) :=
  List.rec (motive := fun _ => (Env → Option (Ex × St)) → Option (Ex × St)) (fun k => k []) (fun n _ ih k => qaq (match fget n e with | .lp _ _ => .undef | v => v) fun v => ih fun r => k ((n, v) :: r)) live k
theorem qjr (live : List Nat) (e : Env) (k : Env → Option (Ex × St)) : frestrict live e k = k (restrict live e) := by
  induction live generalizing k with
  | nil => rfl
  | cons n l ih =>
    show qaq (match fget n e with | .lp _ _ => .undef | v => v) (fun v => frestrict l e fun r => k ((n, v) :: r)) = _
    rw [qaB, ih, qny]
    rfl
end W

/-
  Code turned into closures, which the kernel works out once.
-/
set_option linter.unusedSimpArgs false
set_option linter.unusedVariables false
namespace W
open Go (IntKind BinOp UnOp)
abbrev R := Option (Ex × St)
abbrev KF := Call → Nat → Env → List Obj → Nat → R
inductive K where
  | mk (f : KF)
noncomputable def K.run (k : K) : KF := K.rec (motive := fun _ => KF) (fun f => f) k
inductive KO where
  | mk (f : Env → V)
noncomputable def KO.run (k : KO) : Env → V := KO.rec (motive := fun _ => Env → V) (fun f => f) k
noncomputable def qcX (o : O) : KO := O.rec (motive := fun _ => KO) (fun n => .mk fun e => qdw n (fget n e)) (fun x => .mk fun _ => .d x) (fun i => .mk fun _ => .fn i [] []) (fun n => .mk fun e => qea (fget n e)) (fun _ x => .mk fun _ => .cp x) o
theorem qs6 (o : O) (e : Env) : (qcX o).run e = rd e o := by cases o <;> simp only [qcX, KO.run, qny] <;> rfl
noncomputable def iadd (a b : Int) : Int := Int.rec (motive := fun _ => Int) (fun m => Int.rec (motive := fun _ => Int) (fun n => .ofNat (Nat.add m n)) (fun n => a + b) b) (fun _ => a + b) a
theorem qBf (a b : Int) : iadd a b = a + b := by cases a <;> cases b <;> rfl
noncomputable def isub (a b : Int) : Int := Int.rec (motive := fun _ => Int) (fun m => Int.rec (motive := fun _ => Int) (fun n => Bool.rec (motive := fun _ => Int) (a - b) (.ofNat (Nat.sub m n)) (Nat.ble n m)) (fun n => a - b) b) (fun _ => a - b) a
theorem qBc (a b : Int) : isub a b = a - b := by
  cases a with
  | ofNat m => cases b with
    | ofNat n =>
      show Bool.rec (motive := fun _ => Int) (Int.ofNat m - Int.ofNat n) (Int.ofNat (Nat.sub m n)) (Nat.ble n m) = _
      cases h : Nat.ble n m with
      | false => rfl
      | true =>
        have := Nat.le_of_ble_eq_true h
        show Int.ofNat (m - n) = Int.ofNat m - Int.ofNat n
        simp only [Int.ofNat_eq_natCast]; omega
    | negSucc n => rfl
  | negSucc m => rfl
noncomputable def ile (a b : Int) : Bool := Int.rec (motive := fun _ => Bool) (fun m => Int.rec (motive := fun _ => Bool) (fun n => Nat.ble m n) (fun _ => false) b) (fun m => Int.rec (motive := fun _ => Bool) (fun _ => true) (fun n => Nat.ble n m) b) a
theorem qsJ (a b : Int) : ile a b = leI a b := by cases a <;> cases b <;> rfl
noncomputable def ieq (a b : Int) : Bool := Int.rec (motive := fun _ => Bool) (fun m => Int.rec (motive := fun _ => Bool) (fun n => qFx m n) (fun _ => false) b) (fun m => Int.rec (motive := fun _ => Bool) (fun _ => false) (fun n => qFx m n) b) a
theorem qAe (a b : Int) : ieq a b = eqI a b := by cases a <;> cases b <;> rfl
noncomputable def kcode (k : IntKind) : Nat := IntKind.rec (motive := fun _ => Nat) 0 1 2 3 4 5 6 7 k
theorem qvg (a b : IntKind) : qFx (kcode a) (kcode b) = eqK a b := by cases a <;> cases b <;> rfl
noncomputable def iwr (k : IntKind) (z : Int) : Int := Int.rec (motive := fun _ => Int) (fun a => Bool.rec (motive := fun _ => Int) (wr k (.ofNat a)) (.ofNat a) (Nat.ble a (qmz k))) (fun a => wr k (.negSucc a)) z
theorem qCH (k : IntKind) (z : Int) : iwr k z = wr k z := by
  cases z with
  | ofNat a =>
    show Bool.rec (motive := fun _ => Int) (wr k (.ofNat a)) (.ofNat a) (Nat.ble a (qmz k)) = _
    cases h : Nat.ble a (qmz k) with
    | false => rfl
    | true => simp only [wr, h, cond_true]
  | negSucc a => rfl
noncomputable def asI (v : V) (f : IntKind → Int → R) : R :=
  V.casesOn (motive_1 := fun _ => R) v (fun x => D.casesOn (motive_1 := fun _ => R) x (fun _ => none) f (fun _ => none) none (fun _ => none) (fun _ => none) none none none none)
    (fun _ => none) (fun _ => none) (fun _ _ => none) (fun _ _ => none) (fun _ => none) (fun _ => none) (fun _ _ _ _ => none) (fun _ => none) (fun _ _ _ => none) (fun _ _ => none) (fun _ => none) (fun _ => none) none
theorem qm6 {v : V} {f : IntKind → Int → R} {x : Ex × St} (h : asI v f = some x) : ∃ k n, v = .d (.i k n) ∧ f k n = some x := by
  cases v with
  | d w => cases w with
    | i k n => exact ⟨k, n, rfl, h⟩
    | _ => cases h
  | _ => cases h
noncomputable def qy5 (dst : Option Nat) (v : V) (k : K) : KF := fun call n e H lo => Option.rec (motive := fun _ => R) (k.run call n e H lo) (fun d => k.run call n ((d, v) :: e) H lo) dst
noncomputable def qsA (dst : Option Nat) (v : V) (k : K) : KF := fun call n e H lo => match put dst v ⟨e, H, lo⟩ with | ⟨e, H, lo⟩ => k.run call n e H lo
def qBt (pg : Pg) (r : R) (k : K) (call : Call) (n : Nat) (x : Ex × St) : Prop := (∃ s, r = some (.nrm, s) ∧ k.run call n s.env s.H s.lo = some x) ∨ (r = some x ∧ x.1 ≠ .nrm)
def qoN (r : Option Or) (dst : Option Nat) (k : K) (call : Call) (n : Nat) (x : Ex × St) : Prop :=
  ∃ q, r = some q ∧ ((q.pan = false ∧ ∃ st, put dst q.v q.st = st ∧ k.run call n st.env st.H st.lo = some x) ∨ (q.pan = true ∧ x = (.pan q.v, q.st)))
def V.plain : V → Prop
  | .box _ => False
  | _ => True
theorem qqa {dst : Option Nat} {v : V} {k : K} {call : Call} {n : Nat} {e : Env} {H : List Obj} {lo : Nat} {x : Ex × St} (hv : v.plain) (h : qy5 dst v k call n e H lo = some x) : qoN (some ⟨false, true, v, ⟨e, H, lo⟩⟩) dst k call n x := by
  refine ⟨_, rfl, .inl ⟨rfl, _, rfl, ?_⟩⟩
  cases dst with
  | none => exact h
  | some d => cases v <;> first | exact h | exact hv.elim
theorem qmI {dst : Option Nat} {v : V} {same : Bool} {k : K} {call : Call} {n : Nat} {e : Env} {H : List Obj} {lo : Nat} {x : Ex × St} (h : qsA dst v k call n e H lo = some x) : qoN (some ⟨false, same, v, ⟨e, H, lo⟩⟩) dst k call n x := by
  refine ⟨_, rfl, .inl ⟨rfl, _, rfl, ?_⟩⟩
  exact h
noncomputable def qph (dst : Option Nat) (op : OpK) (k : K) : KF := fun call n e H lo =>
  match qe2 call op ⟨e, H, lo⟩ with
  | some ⟨pan, same, v, ⟨e', H', lo'⟩⟩ => Bool.rec (motive := fun _ => R)
      (qvY (makes op) v fun v => Bool.rec (motive := fun _ => R) (qog H' fun H' => qaA lo' fun lo' => qsA dst v k call n e' H' lo') (qsA dst v k call n e' H' lo') same)
      (some (.pan v, ⟨e', H', lo'⟩)) pan
  | none => none
theorem qbc {dst : Option Nat} {op : OpK} {k : K} {call : Call} {n : Nat} {e : Env} {H : List Obj} {lo : Nat} {x : Ex × St} (h : qph dst op k call n e H lo = some x) : qoN (kc call op ⟨e, H, lo⟩) dst k call n x := by
  unfold qph at h
  rw [qyH] at h
  split at h
  · rename_i pan same v e' H' lo' hq
    rw [hq]
    cases pan with
    | false =>
      have h : (qvY (makes op) v fun v => Bool.rec (motive := fun _ => R) (qog H' fun H' => qaA lo' fun lo' => qsA dst v k call n e' H' lo') (qsA dst v k call n e' H' lo') same) = some x := h
      rw [qyK] at h
      have h2 : qsA dst v k call n e' H' lo' = some x := by
        cases same with
        | false => simpa only [qrE, qeh] using h
        | true => exact h
      exact qmI h2
    | true =>
      have h : some (Ex.pan v, (⟨e', H', lo'⟩ : St)) = some x := h
      cases h
      exact ⟨_, rfl, .inr ⟨rfl, rfl⟩⟩
  · cases h
noncomputable def qu2 (dst : Option Nat) (f : Int → Int → Bool) (a b : KO) (k : K) : KF := fun call n e H lo =>
  asI (a.run e) fun ka x => asI (b.run e) fun kb y => Bool.rec (motive := fun _ => R) none (qp9 (f x y) fun z => qy5 dst (.d (.b z)) k call n e H lo) (qFx (kcode ka) (kcode kb))
noncomputable def qAX (dst : Option Nat) (f : Int → Int → Int) (a b : KO) (k : K) : KF := fun call n e H lo =>
  asI (a.run e) fun ka x => asI (b.run e) fun kb y => Bool.rec (motive := fun _ => R) none (qqR (iwr ka (f x y)) fun z => qy5 dst (.d (.i ka z)) k call n e H lo) (qFx (kcode ka) (kcode kb))
theorem qep {dst : Option Nat} {f : Int → Int → Bool} {op : BinOp} {x y : O} {k : K} {call : Call} {n : Nat} {e : Env} {H : List Obj} {lo : Nat} {z : Ex × St} (hop : qdv op = false) (hf : ∀ kk a b, qgi op kk a b = some (.b (f a b))) (h : qu2 dst f (qcX x) (qcX y) k call n e H lo = some z) :
    qoN (kc call (.bin op .num x y) ⟨e, H, lo⟩) dst k call n z := by
  unfold qu2 at h
  obtain ⟨ka, a, ha, h⟩ := qm6 h
  obtain ⟨kb, b, hb, h⟩ := qm6 h
  rw [qvg] at h
  rw [qs6] at ha hb
  cases hk : eqK ka kb with
  | false => rw [hk] at h; cases h
  | true =>
    rw [hk] at h
    have h : (qp9 (f a b) fun z => qy5 dst (.d (.b z)) k call n e H lo) = some z := h
    rw [qou] at h
    have he : kc call (.bin op .num x y) ⟨e, H, lo⟩ = some ⟨false, true, .d (.b (f a b)), ⟨e, H, lo⟩⟩ := by
      simp only [kc, qpd, ha, hb, qaM, hop, hk, cond_true, cond_false, hf, qFv, ok]
    rw [he]
    exact qqa trivial h
theorem qpW {dst : Option Nat} {f : Int → Int → Int} {op : BinOp} {x y : O} {k : K} {call : Call} {n : Nat} {e : Env} {H : List Obj} {lo : Nat} {z : Ex × St} (hop : qdv op = false) (hf : ∀ kk a b, qgi op kk a b = some (.i kk (wr kk (f a b)))) (h : qAX dst f (qcX x) (qcX y) k call n e H lo = some z) :
    qoN (kc call (.bin op .num x y) ⟨e, H, lo⟩) dst k call n z := by
  unfold qAX at h
  obtain ⟨ka, a, ha, h⟩ := qm6 h
  obtain ⟨kb, b, hb, h⟩ := qm6 h
  rw [qvg] at h
  rw [qs6] at ha hb
  cases hk : eqK ka kb with
  | false => rw [hk] at h; cases h
  | true =>
    rw [hk] at h
    have h : (qqR (iwr ka (f a b)) fun z => qy5 dst (.d (.i ka z)) k call n e H lo) = some z := h
    rw [qoi, qCH] at h
    have he : kc call (.bin op .num x y) ⟨e, H, lo⟩ = some ⟨false, true, .d (.i ka (wr ka (f a b))), ⟨e, H, lo⟩⟩ := by
      simp only [kc, qpd, ha, hb, qaM, hop, hk, cond_true, cond_false, hf, qFv, ok]
    rw [he]
    exact qqa trivial h
def isMvO : O → Bool
  | .mv _ => true
  | _ => false
noncomputable def qB8 (dst : Option Nat) (a : KO) (k : K) : KF := fun call n e H lo => qaq (a.run e) fun v => qsA dst v k call n e H lo
theorem qvE {dst : Option Nat} {x : O} {k : K} {call : Call} {n : Nat} {e : Env} {H : List Obj} {lo : Nat} {z : Ex × St} (hx : isMvO x = false) (h : qB8 dst (qcX x) k call n e H lo = some z) : qoN (kc call (.mov x) ⟨e, H, lo⟩) dst k call n z := by
  unfold qB8 at h
  rw [qaB, qs6] at h
  have he : kc call (.mov x) ⟨e, H, lo⟩ = some ⟨false, true, rd e x, ⟨e, H, lo⟩⟩ := by
    cases x <;> first | rfl | cases hx
  rw [he]
  exact qmI h
noncomputable def inot (b : Bool) : Bool := Bool.rec (motive := fun _ => Bool) true false b
theorem qs9 (b : Bool) : inot b = !b := by cases b <;> rfl
noncomputable def qzo (v : V) : Bool :=
  V.casesOn (motive_1 := fun _ => Bool) v (fun x => D.casesOn (motive_1 := fun _ => Bool) x (fun _ => false) (fun _ _ => false) (fun _ => true) false (fun _ => false) (fun _ => false) false false false false)
    (fun _ => false) (fun _ => false) (fun _ _ => false) (fun _ _ => false) (fun _ => false) (fun _ => false) (fun _ _ _ _ => false) (fun _ => false) (fun _ _ _ => false) (fun _ _ => false) (fun _ => false) (fun _ => false) false
noncomputable def qsF (x : KO) (f g : KF) : KF := fun call n e H lo => Bool.rec (motive := fun _ => R) (f call n e H lo) (g call n e H lo) (qzo (x.run e))
theorem qjC {x : KO} {f g : KF} {call : Call} {n : Nat} {e : Env} {H : List Obj} {lo : Nat} {z : Ex × St} (h : qsF x f g call n e H lo = some z) : f call n e H lo = some z ∨ g call n e H lo = some z := by
  unfold qsF at h
  cases hb : qzo (x.run e) with
  | false => rw [hb] at h; exact .inl h
  | true => rw [hb] at h; exact .inr h
noncomputable def qCD (dst : Option Nat) (op : BinOp) (kd : Kd) (x y : O) (k : K) : K :=
  match op, kd with
  | .add, .num => .mk (qsF (qcX x) (qAX dst iadd (qcX x) (qcX y) k) (qph dst (.bin .add .num x y) k))
  | .sub, .num => .mk (qAX dst isub (qcX x) (qcX y) k)
  | .lss, .num => .mk (qsF (qcX x) (qu2 dst (fun a b => inot (ile b a)) (qcX x) (qcX y) k) (qph dst (.bin .lss .num x y) k))
  | .leq, .num => .mk (qsF (qcX x) (qu2 dst ile (qcX x) (qcX y) k) (qph dst (.bin .leq .num x y) k))
  | .gtr, .num => .mk (qsF (qcX x) (qu2 dst (fun a b => inot (ile a b)) (qcX x) (qcX y) k) (qph dst (.bin .gtr .num x y) k))
  | .geq, .num => .mk (qsF (qcX x) (qu2 dst (fun a b => ile b a) (qcX x) (qcX y) k) (qph dst (.bin .geq .num x y) k))
  | .eql, .num => .mk (qsF (qcX x) (qu2 dst ieq (qcX x) (qcX y) k) (qph dst (.bin .eql .num x y) k))
  | .neq, .num => .mk (qsF (qcX x) (qu2 dst (fun a b => inot (ieq a b)) (qcX x) (qcX y) k) (qph dst (.bin .neq .num x y) k))
  | op, kd => .mk (qph dst (.bin op kd x y) k)
theorem qvU {dst : Option Nat} {op : BinOp} {kd : Kd} {x y : O} {k : K} {call : Call} {n : Nat} {e : Env} {H : List Obj} {lo : Nat} {z : Ex × St} (h : (qCD dst op kd x y k).run call n e H lo = some z) : qoN (kc call (.bin op kd x y) ⟨e, H, lo⟩) dst k call n z := by
  unfold qCD at h
  split at h
  · rcases qjC h with h | h
    · exact qpW (op := .add) rfl (fun kk a b => by rw [qBf]; rfl) h
    · exact qbc h
  · exact qpW (op := .sub) rfl (fun kk a b => by rw [qBc]; rfl) h
  · rcases qjC h with h | h
    · exact qep (op := .lss) rfl (fun kk a b => by rw [qs9, qsJ]; rfl) h
    · exact qbc h
  · rcases qjC h with h | h
    · exact qep (op := .leq) rfl (fun kk a b => by rw [qsJ]; rfl) h
    · exact qbc h
  · rcases qjC h with h | h
    · exact qep (op := .gtr) rfl (fun kk a b => by rw [qs9, qsJ]; rfl) h
    · exact qbc h
  · rcases qjC h with h | h
    · exact qep (op := .geq) rfl (fun kk a b => by rw [qsJ]; rfl) h
    · exact qbc h
  · rcases qjC h with h | h
    · exact qep (op := .eql) rfl (fun kk a b => by rw [qAe]; rfl) h
    · exact qbc h
  · rcases qjC h with h | h
    · exact qep (op := .neq) rfl (fun kk a b => by rw [qs9, qAe]; rfl) h
    · exact qbc h
  · exact qbc h
noncomputable def qyf (dst : Option Nat) (op : OpK) (k : K) : K :=
  match op with
  | .mov x => Bool.rec (motive := fun _ => K) (.mk (qB8 dst (qcX x) k)) (.mk (qph dst (.mov x) k)) (isMvO x)
  | .bin op kd x y => qCD dst op kd x y k
  | op => .mk (qph dst op k)
theorem qvP {dst : Option Nat} {op : OpK} {k : K} {call : Call} {n : Nat} {e : Env} {H : List Obj} {lo : Nat} {z : Ex × St} (h : (qyf dst op k).run call n e H lo = some z) : qoN (kc call op ⟨e, H, lo⟩) dst k call n z := by
  unfold qyf at h
  split at h
  · rename_i x
    cases hx : isMvO x with
    | false => rw [hx] at h; exact qvE hx h
    | true => rw [hx] at h; exact qbc h
  · exact qvU h
  · exact qbc h
noncomputable def qAk (o : Op) (k : K) : K :=
  match o.g with
  | none => qyf o.dst o.k k
  | some g => .mk fun call n e H lo => match wanted (some g) e with
    | some true => (qyf o.dst o.k k).run call n e H lo
    | some false => qsA o.dst (.tup []) k call n e H lo
    | none => none
noncomputable def qol (l : List Op) (k : K) : K := List.rec (motive := fun _ => K) k (fun o _ ih => qAk o ih) l
theorem qk0 {pg : Pg} {call : Call} (hc : qgw call (kn pg)) {n : Nat} {k : K} : ∀ (l : List Op) {e : Env} {H : List Obj} {lo : Nat} {x : Ex × St}, (qol l k).run call n e H lo = some x → qBt pg (zr (kn pg) l ⟨e, H, lo⟩) k call n x
  | [], e, H, lo, x, h => .inl ⟨⟨e, H, lo⟩, rfl, h⟩
  | o :: l, e, H, lo, x, h => by
    have h : (qAk o (qol l k)).run call n e H lo = some x := h
    have key : wanted o.g e = some true → (qyf o.dst o.k (qol l k)).run call n e H lo = some x → qBt pg (zr (kn pg) (o :: l) ⟨e, H, lo⟩) k call n x := by
      intro hw h
      obtain ⟨q, hq, hq2⟩ := qvP h
      have hq' := qks hc hq
      simp only [zr, hw, hq']
      rcases hq2 with ⟨hp, st, hst, hrun⟩ | ⟨hp, rfl⟩
      · rw [hp, hst]
        exact qk0 hc l hrun
      · rw [hp]
        exact .inr ⟨rfl, by simp⟩
    unfold qAk at h
    split at h
    · rename_i hg
      exact key (by rw [hg]; rfl) h
    · rename_i g hg
      have h : (match wanted (some g) e with
        | some true => (qyf o.dst o.k (qol l k)).run call n e H lo
        | some false => qsA o.dst (.tup []) (qol l k) call n e H lo
        | none => none) = some x := h
      split at h
      · rename_i hw; exact key (by rw [hg]; exact hw) h
      · rename_i hw
        have hw' : wanted o.g e = some false := by rw [hg]; exact hw
        obtain ⟨q, hq, hq2⟩ := qmI (same := true) h
        cases hq
        rcases hq2 with ⟨_, st, hst, hrun⟩ | ⟨hp, _⟩
        · simp only [zr, hw']
          rw [hst]
          exact qk0 hc l hrun
        · cases hp
      · cases h
noncomputable def qgX : K := .mk fun _ _ e H lo => some (.nrm, ⟨e, H, lo⟩)
noncomputable def qBF (id : Nat) (live : List Nat) (k : K) (call : Call) (n : Nat) (r : R) : R :=
  match r with
  | some (.nrm, ⟨e, H, lo⟩) => frestrict live e fun e => k.run call n e H lo
  | some (.exit j, ⟨e, H, lo⟩) => Bool.rec (motive := fun _ => R) (some (.exit j, ⟨e, H, lo⟩)) (frestrict live e fun e => k.run call n e H lo) (qFx j id)
  | r => r
noncomputable def qxk (live : List Nat) (a : K) (call : Call) (n : Nat) : Env → List Obj → Nat → R :=
  Nat.rec (motive := fun _ => Env → List Obj → Nat → R) (fun _ _ _ => none) (fun m ih e H lo => frestrict live e fun e => match a.run call m e H lo with
    | some (.nrm, ⟨e, H, lo⟩) => ih e H lo
    | r => r) n
noncomputable def qmH (c : C) : K → K :=
  C.rec (motive := fun _ => K → K) (fun k => k) (fun l k => qol l k) (fun l k => .mk fun call n e H lo => match zZ call l ⟨e, H, lo⟩ with
      | some (.nrm, ⟨e, H, lo⟩) => qbj (fun p k => qaq p.2 fun v => k (p.1, v)) e fun e => qog H fun H => k.run call n e H lo
      | r => r)
    (fun _ _ da db k => da (db k)) (fun o _ _ da db k => .mk fun call n e H lo => match frd e o with
      | .d (.b z) => Bool.rec (motive := fun _ => R) ((db k).run call n e H lo) ((da k).run call n e H lo) z
      | _ => none)
    (fun id live _ da k => .mk fun call n e H lo => qBF id live k call n ((da qgX).run call n e H lo))
    (fun live _ da _ => .mk fun call n e H lo => qxk live (da qgX) call n e H lo)
    (fun id _ => .mk fun _ _ e H lo => some (.exit id, ⟨e, H, lo⟩)) (fun _ => .mk fun _ _ e H lo => some (.ret, ⟨e, H, lo⟩)) (fun _ => .mk fun _ _ _ _ _ => none)
    (fun k l f p0 p1 live _ _ da db kk => .mk fun call n e H lo => match frd e f with
      | .fn k' [] [c] => Bool.rec (motive := fun _ => R) none (match qdc c H lo with
        | some m => qbj (fun p k => qaq p.2 fun v => k (p.1, v)) (qbK live e) fun base => qaA m fun m => match rounds (fun st => (da qgX).run call n st.env st.H st.lo) (fun st => (db qgX).run call n st.env st.H st.lo) l c p0 p1 base m H lo with
          | some (.nrm, ⟨e, H, lo⟩) => kk.run call n e H lo
          | r => r
        | none => none) (qFx k' k && c.ok)
      | _ => none) c
theorem qoz {pg : Pg} {r : R} {call : Call} {n : Nat} {x : Ex × St} (h : qBt pg r qgX call n x) : r = some x := by
  rcases h with ⟨s, h1, h2⟩ | ⟨h1, _⟩
  · have h2 : some (Ex.nrm, (⟨s.env, s.H, s.lo⟩ : St)) = some x := h2
    cases h2
    exact h1
  · exact h1
theorem qyt {pg : Pg} {live : List Nat} {a : C} {st : St} : exL pg (.loop live a) st = (match exL pg a { st with env := restrict live st.env } with | some (.nrm, st') => exL pg (.loop live a) st' | r => r) := by rw [qbE]; rfl
theorem qql {pg : Pg} {live : List Nat} {a : C} {da : K} {call : Call} (ih : ∀ (n : Nat) (e : Env) (H : List Obj) (lo : Nat) (x : Ex × St), da.run call n e H lo = some x → exL pg a ⟨e, H, lo⟩ = some x) :
    ∀ (n : Nat) {e : Env} {H : List Obj} {lo : Nat} {x : Ex × St}, qxk live da call n e H lo = some x → exL pg (.loop live a) ⟨e, H, lo⟩ = some x ∧ x.1 ≠ .nrm
  | 0, e, H, lo, x, h => by cases h
  | n + 1, e, H, lo, x, h => by
    have h : (frestrict live e fun e => match da.run call n e H lo with
      | some (.nrm, ⟨e, H, lo⟩) => qxk live da call n e H lo
      | r => r) = some x := h
    rw [qjr] at h
    rw [qyt]
    cases hq : da.run call n (restrict live e) H lo with
    | none => rw [hq] at h; cases h
    | some y =>
      have hy := ih n _ _ _ _ hq
      obtain ⟨ex, st⟩ := y
      rw [hq] at h
      show (match exL pg a ⟨restrict live e, H, lo⟩ with | some (.nrm, st') => exL pg (.loop live a) st' | r => r) = some x ∧ _
      rw [hy]
      cases ex with
      | nrm => exact qql ih n h
      | exit id => cases h; exact ⟨rfl, by simp⟩
      | ret => cases h; exact ⟨rfl, by simp⟩
      | pan v => cases h; exact ⟨rfl, by simp⟩
theorem qbW {pg : Pg} {call : Call} (hc : qgw call (kn pg)) : ∀ (c : C) (k : K) (n : Nat) (e : Env) (H : List Obj) (lo : Nat) (x : Ex × St), (qmH c k).run call n e H lo = some x → qBt pg (exL pg c ⟨e, H, lo⟩) k call n x
  | .skip, k, n, e, H, lo, x, h => .inl ⟨⟨e, H, lo⟩, by rw [qbE]; rfl, h⟩
  | .ops l, k, n, e, H, lo, x, h => by
    have := qk0 hc l h
    rwa [show exL pg (.ops l) ⟨e, H, lo⟩ = zr (kn pg) l ⟨e, H, lo⟩ by rw [qbE]; rfl]
  | .opsD l, k, n, e, H, lo, x, h => by
    have h : (match zZ call l ⟨e, H, lo⟩ with
      | some (.nrm, ⟨e, H, lo⟩) => qbj (fun p k => qaq p.2 fun v => k (p.1, v)) e fun e => qog H fun H => k.run call n e H lo
      | r => r) = some x := h
    rw [show exL pg (.opsD l) ⟨e, H, lo⟩ = zZ (kn pg) l ⟨e, H, lo⟩ by rw [qbE]; rfl]
    cases hq : zZ call l ⟨e, H, lo⟩ with
    | none => rw [hq] at h; cases h
    | some y =>
      rw [qgb hc l hq]
      rw [hq] at h
      obtain ⟨ex, e', H', lo'⟩ := y
      cases ex with
      | nrm =>
        have h : (qbj (fun (p : Nat × V) k => qaq p.2 fun v => k (p.1, v)) e' fun e => qog H' fun H => k.run call n e H lo') = some x := h
        rw [qaw (fun p k => qaB p.2 fun v => k (p.1, v)), qrE] at h
        exact .inl ⟨_, rfl, h⟩
      | exit id => cases h; exact .inr ⟨rfl, by simp⟩
      | ret => cases h; exact .inr ⟨rfl, by simp⟩
      | pan v => cases h; exact .inr ⟨rfl, by simp⟩
  | .seq a b, k, n, e, H, lo, x, h => by
    have ha := qbW hc a (qmH b k) n e H lo x h
    rw [show exL pg (.seq a b) ⟨e, H, lo⟩ = (match exL pg a ⟨e, H, lo⟩ with | some (.nrm, st') => exL pg b st' | r => r) by rw [qbE]; rfl]
    rcases ha with ⟨s, h1, h2⟩ | ⟨h1, h2⟩
    · rw [h1]
      exact qbW hc b k n s.env s.H s.lo x h2
    · rw [h1]
      obtain ⟨ex, st⟩ := x
      cases ex with
      | nrm => exact absurd rfl h2
      | _ => exact .inr ⟨rfl, h2⟩
  | .cond o a b, k, n, e, H, lo, x, h => by
    have h : (match frd e o with
      | .d (.b z) => Bool.rec (motive := fun _ => R) ((qmH b k).run call n e H lo) ((qmH a k).run call n e H lo) z
      | _ => none) = some x := h
    rw [qe9] at h
    rw [show exL pg (.cond o a b) ⟨e, H, lo⟩ = (match rd e o with | .d (.b true) => exL pg a ⟨e, H, lo⟩ | .d (.b false) => exL pg b ⟨e, H, lo⟩ | _ => none) by rw [qbE]; rfl]
    split at h
    · rename_i z hz
      rw [hz]
      cases z with
      | true => exact qbW hc a k n e H lo x h
      | false => exact qbW hc b k n e H lo x h
    · cases h
  | .block id live a, k, n, e, H, lo, x, h => by
    have h : qBF id live k call n ((qmH a qgX).run call n e H lo) = some x := h
    rw [show exL pg (.block id live a) ⟨e, H, lo⟩ = (match exL pg a ⟨e, H, lo⟩ with
      | some (.nrm, st') => some (.nrm, { st' with env := restrict live st'.env })
      | some (.exit j, st') => bif qFx j id then some (.nrm, { st' with env := restrict live st'.env }) else some (.exit j, st')
      | r => r) by rw [qbE]; rfl]
    cases hq : (qmH a qgX).run call n e H lo with
    | none => rw [hq] at h; cases h
    | some y =>
      have hy := qoz (qbW hc a qgX n e H lo y hq)
      rw [hq] at h
      rw [hy]
      obtain ⟨ex, e', H', lo'⟩ := y
      cases ex with
      | nrm =>
        have h : (frestrict live e' fun e => k.run call n e H' lo') = some x := h
        rw [qjr] at h
        exact .inl ⟨_, rfl, h⟩
      | exit j =>
        have h : Bool.rec (motive := fun _ => R) (some (.exit j, ⟨e', H', lo'⟩)) (frestrict live e' fun e => k.run call n e H' lo') (qFx j id) = some x := h
        cases hb : qFx j id with
        | true =>
          rw [hb] at h
          have h : (frestrict live e' fun e => k.run call n e H' lo') = some x := h
          rw [qjr] at h
          exact .inl ⟨⟨restrict live e', H', lo'⟩, by simp only [hb, cond_true], h⟩
        | false =>
          rw [hb] at h
          have h : some (Ex.exit j, (⟨e', H', lo'⟩ : St)) = some x := h
          cases h
          exact .inr ⟨by simp only [hb, cond_false], by simp⟩
      | ret => cases h; exact .inr ⟨rfl, by simp⟩
      | pan v => cases h; exact .inr ⟨rfl, by simp⟩
  | .loop live a, k, n, e, H, lo, x, h => by
    have h : qxk live (qmH a qgX) call n e H lo = some x := h
    exact .inr (qql (fun n e H lo x h => qoz (qbW hc a qgX n e H lo x h)) n h)
  | .exit id, k, n, e, H, lo, x, h => by
    have h : some (Ex.exit id, (⟨e, H, lo⟩ : St)) = some x := h
    cases h
    exact .inr ⟨by rw [qbE]; rfl, by simp⟩
  | .ret, k, n, e, H, lo, x, h => by
    have h : some (Ex.ret, (⟨e, H, lo⟩ : St)) = some x := h
    cases h
    exact .inr ⟨by rw [qbE]; rfl, by simp⟩
  | .stuck, k, n, e, H, lo, x, h => by
    have h : none = some x := h
    cases h
  | .rangeB k l f p0 p1 live a b, kk, n, e, H, lo, x, h => by
    have h : (match frd e f with
      | .fn k' [] [c] => Bool.rec (motive := fun _ => R) none (match qdc c H lo with
        | some m => qbj (fun (p : Nat × V) k => qaq p.2 fun v => k (p.1, v)) (qbK live e) fun base => qaA m fun m => match rounds (fun st => (qmH a qgX).run call n st.env st.H st.lo) (fun st => (qmH b qgX).run call n st.env st.H st.lo) l c p0 p1 base m H lo with
          | some (.nrm, ⟨e, H, lo⟩) => kk.run call n e H lo
          | r => r
        | none => none) (qFx k' k && c.ok)
      | _ => none) = some x := h
    rw [qe9] at h
    rw [show exL pg (.rangeB k l f p0 p1 live a b) ⟨e, H, lo⟩ = (match rd e f with
      | .fn k' [] [c] => bif qFx k' k && c.ok then (match qdc c H lo with
        | some n => rounds (exL pg a) (exL pg b) l c p0 p1 (qbK live e) n H lo
        | none => none) else none
      | _ => none) by rw [qbE]; rfl]
    split at h
    · rename_i k' c hf
      (try simp only [hf])
      cases hb : (qFx k' k && c.ok) with
      | false => rw [hb] at h; cases h
      | true =>
        rw [hb] at h
        (try simp only [cond_true, hb])
        split at h
        · rename_i m hm
          (try simp only [hm])
          rw [qaw (fun p k => qaB p.2 fun v => k (p.1, v)), qeh] at h
          have le : ∀ y, rounds (fun st => (qmH a qgX).run call n st.env st.H st.lo) (fun st => (qmH b qgX).run call n st.env st.H st.lo) l c p0 p1 (qbK live e) m H lo = some y → rounds (exL pg a) (exL pg b) l c p0 p1 (qbK live e) m H lo = some y := fun y hy =>
            qlA (fun st z hz => qoz (qbW hc a qgX n st.env st.H st.lo z hz)) (fun st z hz => qoz (qbW hc b qgX n st.env st.H st.lo z hz)) m hy
          cases hq : rounds (fun st => (qmH a qgX).run call n st.env st.H st.lo) (fun st => (qmH b qgX).run call n st.env st.H st.lo) l c p0 p1 (qbK live e) m H lo with
          | none => rw [hq] at h; cases h
          | some y =>
            rw [hq] at h
            rw [le y hq]
            obtain ⟨ex, e', H', lo'⟩ := y
            cases ex with
            | nrm => exact .inl ⟨_, rfl, h⟩
            | exit id => cases h; exact .inr ⟨rfl, by simp⟩
            | ret => cases h; exact .inr ⟨rfl, by simp⟩
            | pan v => cases h; exact .inr ⟨rfl, by simp⟩
        · cases h
    · cases h
noncomputable def qA0 (fn : Fn) : K := qmH fn.body qgX
noncomputable def exJ (call : Call) (n : Nat) : C → St → Option (Ex × St) := fun c st => (qmH c qgX).run call n st.env st.H st.lo
noncomputable def qCf (pg : Pg) (call : Call) (n : Nat) (H : List Obj) (fn : Fn) (r : R) : Option Cr :=
  match r with
  | some (.nrm, st) => match fn.dfr with
    | none => yT fn H st
    | some (t, rest) => deferred pg (exJ call n) fn H t rest st
  | some (.ret, st) => yT fn H st
  | some (.pan v, st) => leave H true v st
  | _ => none
def isNone {α : Type} : Option α → Bool
  | none => true
  | some _ => false
theorem qyJ {α : Type} {o : Option α} (h : isNone o = true) : o = none := by cases o <;> first | rfl | cases h
noncomputable def qeM (pg : Pg) (n : Nat) : Call :=
  Nat.rec (motive := fun _ => Call) (fun _ _ _ => none) (fun m ih f vs H => match pg.fn f with
    | none => pg.ext f vs H
    | some fn => Bool.rec (motive := fun _ => Option Cr) none (qbj qaq vs fun vs => qCf pg ih m H fn ((qA0 fn).run ih m (jq 0 vs) H (qv4 H))) (qFx fn.np (qv4 vs) && isNone fn.rcv)) n
theorem qCS {pg : Pg} {call : Call} (hc : qgw call (kn pg)) (n : Nat) : qtc (exJ call n) (exL pg) := fun c st x h => qoz (qbW hc c qgX n st.env st.H st.lo x h)
theorem qq0 (pg : Pg) : ∀ n, qgw (qeM pg n) (kn pg)
  | 0 => fun i vs H r h => by cases h
  | n + 1 => fun i vs H r h => by
    have h : (match pg.fn i with
      | none => pg.ext i vs H
      | some fn => Bool.rec (motive := fun _ => Option Cr) none (qbj qaq vs fun vs => qCf pg (qeM pg n) n H fn ((qA0 fn).run (qeM pg n) n (jq 0 vs) H (qv4 H))) (qFx fn.np (qv4 vs) && isNone fn.rcv)) = some r := h
    rw [qiD]
    unfold zG
    cases hf : pg.fn i with
    | none => rw [hf] at h; exact h
    | some fn =>
      rw [hf] at h
      simp only [qsw] at h
      cases hb : (qFx fn.np vs.length && isNone fn.rcv) with
      | false => rw [hb] at h; cases h
      | true =>
        rw [hb] at h
        simp only [qFt] at hb
        have h : (qbj qaq vs fun vs => qCf pg (qeM pg n) n H fn ((qA0 fn).run (qeM pg n) n (jq 0 vs) H H.length)) = some r := h
        rw [qaw qaB] at h
        have hcond : fn.np = vs.length ∧ fn.rcv = none := ⟨qFK hb.1, qyJ hb.2⟩
        simp only [if_pos hcond]
        cases hq : (qA0 fn).run (qeM pg n) n (jq 0 vs) H H.length with
        | none => rw [hq] at h; cases h
        | some y =>
          have hy := qoz (qbW (qq0 pg n) fn.body qgX n _ _ _ _ hq)
          rw [hq] at h
          rw [hy]
          obtain ⟨ex, st⟩ := y
          cases ex with
          | nrm =>
            have h : (match fn.dfr with
              | none => yT fn H st
              | some (t, rest) => deferred pg (exJ (qeM pg n) n) fn H t rest st) = some r := h
            show (match fn.dfr with
              | none => yT fn H st
              | some (t, rest) => deferred pg (exL pg) fn H t rest st) = some r
            cases hd : fn.dfr with
            | none => rw [hd] at h; exact h
            | some q =>
              obtain ⟨t, rest⟩ := q
              rw [hd] at h
              exact qku (qCS (qq0 pg n) n) h
          | _ => exact h
theorem qsc {pg : Pg} {n f : Nat} {vs : List V} {H : List Obj} {r : Cr} (h : qeM pg n f vs H = some r) : kn pg f vs H = some r := qq0 pg n _ _ _ _ h
end W

/-
  What a value of the small semantics stands for in the model's memory; that this stays as memory grows.
-/
namespace W
open Go (World Value Addr IntKind Program TypeId FuncId)
inductive Loc where
  | slot (n : Nat)
  | bblk (n : Nat)
  | bcell (n i : Nat)
  | oblk (id : Nat)
  | ocell (id i : Nat)
  | out
  deriving DecidableEq
structure Gh where
  n : Nat
  φ : Nat → Nat
  pub : Nat → Nat
  own : Nat → Option Loc
mutual
inductive RepD (pub : Nat → Nat) (w : World) : D → Value → Prop
  | b (x : Bool) : RepD pub w (.b x) (.bool x)
  | i (k : IntKind) (n : Int) : RepD pub w (.i k n) (.int k n)
  | s (t : List Nat) (x : ByteArray) (h : x.data.toList.map (·.toNat) = t) : RepD pub w (.s t) (.string x)
  | nil : RepD pub w .nil (.slice none 0 0)
  | sl0 (a : Addr) (cap : Nat) : RepD pub w (.sl []) (.slice (some a) 0 cap)
  | sl (xs : List D) (b off cap sz : Nat) (vs : List Value) (hne : xs ≠ []) (hsz : ∀ x ∈ xs, x.cells.length = sz)
      (hr : RepDL pub w (xs.flatMap D.cells) vs) (hc : ∀ j v, vs[j]? = some v → w.cell? ⟨b, off + j, none⟩ = some v)
      (hp : off + vs.length ≤ pub b) (hcap : xs.length ≤ cap) (hone : ∀ u ∈ vs, u.oneCell' = true) : RepD pub w (.sl xs) (.slice (some ⟨b, off, none⟩) xs.length cap)
  | agg (cs : List D) (vs : Array Value) (h : RepDL pub w cs vs.toList) : RepD pub w (.agg cs) (.agg vs)
  | np : RepD pub w .np (.pointer none)
  | nf : RepD pub w .nf .nilFunc
  | ni : RepD pub w .ni .nilIface
  | nm : RepD pub w .nm (.map none)
inductive RepDL (pub : Nat → Nat) (w : World) : List D → List Value → Prop
  | nil : RepDL pub w [] []
  | cons (x : D) (v : Value) (l : List D) (vs : List Value) (h : RepD pub w x v) (hl : RepDL pub w l vs) : RepDL pub w (x :: l) (v :: vs)
end
mutual
theorem RepD.mono {pub pub' : Nat → Nat} {w w' : World} (hp : ∀ b, pub b ≤ pub' b) (hc : ∀ b o, o < pub b → w'.cell? ⟨b, o, none⟩ = w.cell? ⟨b, o, none⟩) :
    ∀ {x : D} {v : Value}, RepD pub w x v → RepD pub' w' x v
  | _, _, .b x => .b x
  | _, _, .i k n => .i k n
  | _, _, .s t x h => .s t x h
  | _, _, .nil => .nil
  | _, _, .sl0 a cap => .sl0 a cap
  | _, _, .sl xs b off cap sz vs hne hsz hr hcc hpp hcap hone => .sl xs b off cap sz vs hne hsz (RepDL.mono hp hc hr)
      (fun j v hj => by
        have hlt : j < vs.length := (List.getElem?_eq_some_iff.1 hj).1
        rw [hc b (off + j) (by omega)]; exact hcc j v hj) (Nat.le_trans hpp (hp b)) hcap hone
  | _, _, .agg cs vs h => .agg cs vs (RepDL.mono hp hc h)
  | _, _, .np => .np
  | _, _, .nf => .nf
  | _, _, .ni => .ni
  | _, _, .nm => .nm
theorem RepDL.mono {pub pub' : Nat → Nat} {w w' : World} (hp : ∀ b, pub b ≤ pub' b) (hc : ∀ b o, o < pub b → w'.cell? ⟨b, o, none⟩ = w.cell? ⟨b, o, none⟩) :
    ∀ {l : List D} {vs : List Value}, RepDL pub w l vs → RepDL pub' w' l vs
  | _, _, .nil => .nil
  | _, _, .cons x v l vs h hl => .cons x v l vs (RepD.mono hp hc h) (RepDL.mono hp hc hl)
end
theorem RepDL.length {pub : Nat → Nat} {w : World} : ∀ {l : List D} {vs : List Value}, RepDL pub w l vs → l.length = vs.length
  | _, _, .nil => rfl
  | _, _, .cons _ _ _ _ _ hl => by simp [RepDL.length hl]
theorem RepDL.append {pub : Nat → Nat} {w : World} : ∀ {l : List D} {vs : List Value} {l' : List D} {vs' : List Value}, RepDL pub w l vs → RepDL pub w l' vs' → RepDL pub w (l ++ l') (vs ++ vs')
  | _, _, _, _, .nil, h' => h'
  | _, _, _, _, .cons x v l vs h hl, h' => .cons x v _ _ h (RepDL.append hl h')
theorem RepDL.get {pub : Nat → Nat} {w : World} : ∀ {l : List D} {vs : List Value}, RepDL pub w l vs → ∀ (i : Nat) (x : D), l[i]? = some x → ∃ v, vs[i]? = some v ∧ RepD pub w x v
  | _, _, .nil, i, x, h => by simp at h
  | _, _, .cons y v l vs hy hl, 0, x, h => ⟨v, rfl, by simp at h; exact h ▸ hy⟩
  | _, _, .cons y v l vs hy hl, i + 1, x, h => by simpa using RepDL.get hl i x (by simpa using h)
theorem RepDL.take {pub : Nat → Nat} {w : World} : ∀ {l : List D} {vs : List Value}, RepDL pub w l vs → ∀ n, RepDL pub w (l.take n) (vs.take n)
  | _, _, .nil, n => by simpa using RepDL.nil
  | _, _, .cons x v l vs h hl, 0 => RepDL.nil
  | _, _, .cons x v l vs h hl, n + 1 => .cons x v _ _ h (RepDL.take hl n)
theorem RepDL.drop {pub : Nat → Nat} {w : World} : ∀ {l : List D} {vs : List Value}, RepDL pub w l vs → ∀ n, RepDL pub w (l.drop n) (vs.drop n)
  | _, _, .nil, n => by simpa using RepDL.nil
  | _, _, .cons x v l vs h hl, 0 => .cons x v _ _ h hl
  | _, _, .cons x v l vs h hl, n + 1 => RepDL.drop hl n
theorem RepD.cells {pub : Nat → Nat} {w : World} {x : D} {v : Value} (h : RepD pub w x v) : RepDL pub w x.cells v.cells.toList := by
  cases h with
  | agg cs vs h => exact h
  | b x => exact .cons _ _ _ _ (.b x) .nil
  | i k n => exact .cons _ _ _ _ (.i k n) .nil
  | s t x h => exact .cons _ _ _ _ (.s t x h) .nil
  | nil => exact .cons _ _ _ _ .nil .nil
  | sl0 a cap => exact .cons _ _ _ _ (.sl0 a cap) .nil
  | sl xs b off cap sz vs hne hsz hr hc hp hcap hone => exact .cons _ _ _ _ (.sl xs b off cap sz vs hne hsz hr hc hp hcap hone) .nil
  | np => exact .cons _ _ _ _ .np .nil
  | nf => exact .cons _ _ _ _ .nf .nil
  | ni => exact .cons _ _ _ _ .ni .nil
  | nm => exact .cons _ _ _ _ .nm .nil
mutual
inductive RepS (M : Maps) (g : Gh) (w : World) : V → Value → Prop
  | d (x : D) (c : Value) (h : RepD g.pub w x c) : RepS M g w (.d x) c
  | fsl (xs : List D) (ad : Addr) (h : RepD g.pub w (.sl xs) (.slice (some ad) xs.length xs.length)) : RepS M g w (.fsl xs) (.slice (some ad) xs.length xs.length)
  | ptr (id off : Nat) (h : id < g.n) : RepS M g w (.ptr id off) (.pointer (some ⟨g.φ id, off, none⟩))
  | rs (id off len cap cap' : Nat) (h : id < g.n) (hc : len ≤ cap) (hc' : cap ≤ cap') : RepS M g w (.rs id off len cap) (.slice (some ⟨g.φ id, off, none⟩) len cap')
  | map (id : Nat) (h : id < g.n) : RepS M g w (.map id) (.map (some (g.φ id)))
  | fn (f f' : Nat) (first cap : List V) (fv cv : Array Value) (h : look M.fm f' = some f) (h1 : RepSL M g w first fv.toList) (h2 : RepSL M g w cap cv.toList) :
      RepS M g w (.fn f first cap) (.func (.func f') fv cv)
  | ifc (t t' : Nat) (x : V) (c : Value) (h : look M.tm t' = some t) (hx : RepS M g w x c) : RepS M g w (.ifc t x) (.iface t' c)
  | agg (cs : List V) (vs : Array Value) (h : RepSL M g w cs vs.toList) : RepS M g w (.agg cs) (.agg vs)
  | tup (cs : List V) (vs : Array Value) (h : RepSL M g w cs vs.toList) : RepS M g w (.tup cs) (.tuple vs)
  | undef (c : Value) : RepS M g w .undef c
inductive RepSL (M : Maps) (g : Gh) (w : World) : List V → List Value → Prop
  | nil : RepSL M g w [] []
  | cons (x : V) (v : Value) (l : List V) (vs : List Value) (h : RepS M g w x v) (hl : RepSL M g w l vs) : RepSL M g w (x :: l) (v :: vs)
end
structure Grow (g : Gh) (w : World) (g' : Gh) (w' : World) : Prop where
  size : w.heap.size ≤ w'.heap.size
  pub : ∀ b, g.pub b ≤ g'.pub b
  cell : ∀ b o, o < g.pub b → w'.cell? ⟨b, o, none⟩ = w.cell? ⟨b, o, none⟩
theorem Grow.refl (g : Gh) (w : World) : Grow g w g w := ⟨qFw _, fun _ => qFw _, fun _ _ _ => rfl⟩
theorem Grow.trans {g g' g'' : Gh} {w w' w'' : World} (h : Grow g w g' w') (h' : Grow g' w' g'' w'') : Grow g w g'' w'' :=
  ⟨Nat.le_trans h.size h'.size, fun b => Nat.le_trans (h.pub b) (h'.pub b), fun b o ho => (h'.cell b o (Nat.lt_of_lt_of_le ho (h.pub b))).trans (h.cell b o ho)⟩
mutual
theorem RepS.mono {M : Maps} {g g' : Gh} {w w' : World} (hg : Grow g w g' w') {n : Nat} (hn : n ≤ g'.n) (hφ : ∀ id, id < n → g'.φ id = g.φ id) :
    ∀ {x : V} {v : Value}, RepS M g w x v → x.ref ≤ n → RepS M g' w' x v
  | _, _, .d x c h, _ => .d x c (h.mono hg.pub hg.cell)
  | _, _, .fsl xs ad h, _ => .fsl xs ad (h.mono hg.pub hg.cell)
  | _, _, .ptr id off h, hr => by
      simp only [V.ref] at hr
      rw [← hφ id (by omega)]; exact .ptr id off (by omega)
  | _, _, .rs id off len cap cap' h hc hc', hr => by
      simp only [V.ref] at hr
      rw [← hφ id (by omega)]; exact .rs id off len cap cap' (by omega) hc hc'
  | _, _, .map id h, hr => by
      simp only [V.ref] at hr
      rw [← hφ id (by omega)]; exact .map id (by omega)
  | _, _, .fn f f' first cap fv cv h h1 h2, hr => by
      simp only [V.ref] at hr
      exact .fn f f' first cap fv cv h (RepSL.mono hg hn hφ h1 (by omega)) (RepSL.mono hg hn hφ h2 (by omega))
  | _, _, .ifc t t' x c h hx, hr => .ifc t t' x c h (RepS.mono hg hn hφ hx (by simpa [V.ref] using hr))
  | _, _, .agg cs vs h, hr => .agg cs vs (RepSL.mono hg hn hφ h (by simpa [V.ref] using hr))
  | _, _, .tup cs vs h, hr => .tup cs vs (RepSL.mono hg hn hφ h (by simpa [V.ref] using hr))
  | _, _, .undef c, _ => .undef c
theorem RepSL.mono {M : Maps} {g g' : Gh} {w w' : World} (hg : Grow g w g' w') {n : Nat} (hn : n ≤ g'.n) (hφ : ∀ id, id < n → g'.φ id = g.φ id) :
    ∀ {l : List V} {vs : List Value}, RepSL M g w l vs → V.ref.refs l ≤ n → RepSL M g' w' l vs
  | _, _, .nil, _ => .nil
  | _, _, .cons x v l vs h hl, hr => by
      simp only [V.ref.refs] at hr
      exact .cons x v l vs (RepS.mono hg hn hφ h (by omega)) (RepSL.mono hg hn hφ hl (by omega))
end
mutual
theorem RepS.ref {M : Maps} {g : Gh} {w : World} : ∀ {x : V} {v : Value}, RepS M g w x v → x.ref ≤ g.n
  | _, _, .d x c h => by simp [V.ref]
  | _, _, .fsl xs ad h => by simp [V.ref]
  | _, _, .ptr id off h => by simp only [V.ref]; omega
  | _, _, .rs id off len cap cap' h hc hc' => by simp only [V.ref]; omega
  | _, _, .map id h => by simp only [V.ref]; omega
  | _, _, .fn f f' first cap fv cv h h1 h2 => by
      simp only [V.ref]; have := RepSL.ref h1; have := RepSL.ref h2; omega
  | _, _, .ifc t t' x c h hx => by simp only [V.ref]; exact RepS.ref hx
  | _, _, .agg cs vs h => by simp only [V.ref]; exact RepSL.ref h
  | _, _, .tup cs vs h => by simp only [V.ref]; exact RepSL.ref h
  | _, _, .undef c => by simp [V.ref]
theorem RepSL.ref {M : Maps} {g : Gh} {w : World} : ∀ {l : List V} {vs : List Value}, RepSL M g w l vs → V.ref.refs l ≤ g.n
  | _, _, .nil => by simp [V.ref.refs]
  | _, _, .cons x v l vs h hl => by simp only [V.ref.refs]; have := RepS.ref h; have := RepSL.ref hl; omega
end
theorem RepSL.length {M : Maps} {g : Gh} {w : World} : ∀ {l : List V} {vs : List Value}, RepSL M g w l vs → l.length = vs.length
  | _, _, .nil => rfl
  | _, _, .cons _ _ _ _ _ hl => by simp [RepSL.length hl]
theorem RepSL.append {M : Maps} {g : Gh} {w : World} : ∀ {l : List V} {vs : List Value} {l' : List V} {vs' : List Value}, RepSL M g w l vs → RepSL M g w l' vs' → RepSL M g w (l ++ l') (vs ++ vs')
  | _, _, _, _, .nil, h' => h'
  | _, _, _, _, .cons x v l vs h hl, h' => .cons x v _ _ h (RepSL.append hl h')
theorem RepSL.get {M : Maps} {g : Gh} {w : World} : ∀ {l : List V} {vs : List Value}, RepSL M g w l vs → ∀ (i : Nat) (x : V), l[i]? = some x → ∃ v, vs[i]? = some v ∧ RepS M g w x v
  | _, _, .nil, i, x, h => by simp at h
  | _, _, .cons y v l vs hy hl, 0, x, h => ⟨v, rfl, by simp at h; exact h ▸ hy⟩
  | _, _, .cons y v l vs hy hl, i + 1, x, h => by simpa using RepSL.get hl i x (by simpa using h)
theorem RepSL.ofD {M : Maps} {g : Gh} {w : World} : ∀ {l : List D} {vs : List Value}, RepDL g.pub w l vs → RepSL M g w (l.map .d) vs
  | _, _, .nil => .nil
  | _, _, .cons x v l vs h hl => .cons _ _ _ _ (.d x v h) (RepSL.ofD hl)
end W

