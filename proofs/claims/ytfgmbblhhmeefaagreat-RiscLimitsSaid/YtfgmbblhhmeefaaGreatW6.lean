/-
  RiscLimits: what code refuses to be made: of expressions that need too many registers, of too many words, of too great a heap.: part 6 of what the proof rests on (a value semantics for a part of the language, sound against the model; the walks).
-/
import Derived.Test.YtfgmbblhhmeefaaGreatRows
import Derived.WalkKit
import Derived.ProofKit
import Derived.OpenShut
import Derived.JoinedOf
import Derived.Handed
import Derived.Test.YtfgmbblhhmeefaaGreatW5
set_option linter.unusedVariables false
open Nat renaming beq→qHm,le_refl→qHq,eq_of_beq_eq_true→qHr,zero_add→qHB,le_of_ble_eq_true→qHF
open Bool renaming cond_eq_ite→qHn,and_eq_true→qHo,false_eq_true→qHu,and_self→qHw,not_true→qHC
open Option renaming bind_eq_some_iff→qHp,bind_eq_bind→qHs,pure_def→qHy,map_some→qHz
open List renaming length_cons→qHt,length_nil→qHv,map_cons→qHx,cons_append→qHA,getElem?_cons_zero→qHD,nil_append→qHE,map_nil→qHG,length_append→qHH,set_cons_zero→qHI
namespace W
def qkn:Fn:=⟨1,[.t 2],true,(k_ [o_ 1 (.box true (.t 0)),o_ 2 (.mov (.c (.b false)))] (.seq (k_ [a_ 3 1 3,d_ 4 1 3,c_ 5 257 [.t 4],u_ 6 5,m_ 7 6,q_ 8 7 false (.fieldAddr (.t 1) 4 l_),q_ 9 7 false (.load false (some 1) l_ (.t 8)),q_ 10 7 false (.call (.f 257) [.t 9]),q_ 11 7 false (.un .not (.t 10)),o_ 12 (.pick (.t 7) (.c (.b true)) (.t 11)),m_ 13 12,q_ 14 13 false (.fieldAddr (.t 1) 5 l_),q_ 15 13 false (.load false (some 1) l_ (.t 14)),q_ 16 13 false (.call (.f 257) [.t 15]),q_ 17 13 false (.un .not (.t 16)),o_ 18 (.pick (.t 13) (.c (.b true)) (.t 17)),m_ 19 18,q_ 20 19 false (.fieldAddr (.t 1) 6 l_),q_ 21 19 false (.load false (some 1) l_ (.t 20)),q_ 22 19 false (.call (.f 257) [.t 21]),q_ 23 19 false (.un .not (.t 22)),o_ 24 (.pick (.t 19) (.c (.b true)) (.t 23))] (.cond (.t 24) (k_ [o_ 2 (.mov (.c (.b false)))] (.ret)) (.skip))) (.seq (k_ [a_ 25 1 0,d_ 26 1 25] (.block 0 [] (k_ [g_ 28 .eql 26 0,m_ 27 28] (.cond (.t 27) (k_ [a_ 29 1 7,d_ 30 1 29,o_ 31 (.bin .eql .num (.t 30) (.c (.i .i32 0))),m_ 2 31] (.ret)) (k_ [g_ 33 .eql 26 1,m_ 32 33] (.cond (.t 32) (k_ [a_ 34 1 5,d_ 35 1 34,g_ 36 .eql 35 0,m_ 37 36,q_ 38 37 true (.fieldAddr (.t 1) 7 l_),q_ 39 37 true (.load false (some 1) l_ (.t 38)),q_ 40 37 true (.bin .geq .num (.t 39) (.c (.i .i32 0))),o_ 41 (.pick (.t 37) (.t 40) (.c (.b false))),m_ 42 41,q_ 43 42 true (.fieldAddr (.t 1) 7 l_),q_ 44 42 true (.load false (some 1) l_ (.t 43)),q_ 45 42 true (.bin .lss .num (.t 44) (.c (.i .i32 65536))),o_ 46 (.pick (.t 42) (.t 45) (.c (.b false))),m_ 2 46] (.ret)) (k_ [g_ 48 .eql 26 2,m_ 47 48] (.cond (.t 47) (k_ [a_ 49 1 5,d_ 50 1 49,g_ 51 .eql 50 0,m_ 52 51,q_ 53 52 true (.fieldAddr (.t 1) 6 l_),q_ 54 52 true (.load false (some 1) l_ (.t 53)),q_ 55 52 true (.bin .eql .num (.t 54) (i_ 0)),o_ 56 (.pick (.t 52) (.t 55) (.c (.b false))),m_ 57 56,q_ 58 57 true (.fieldAddr (.t 1) 7 l_),q_ 59 57 true (.load false (some 1) l_ (.t 58)),q_ 60 57 true (.call (.f 258) [.t 59,(.c (.i .u64 20))]),o_ 61 (.pick (.t 57) (.t 60) (.c (.b false))),m_ 2 61] (.ret)) (k_ [g_ 63 .eql 26 3,m_ 62 63] (.cond (.t 62) (.seq (k_ [a_ 64 1 4,d_ 65 1 64,g_ 66 .neq 65 0,m_ 67 66,q_ 68 67 false (.fieldAddr (.t 1) 6 l_),q_ 69 67 false (.load false (some 1) l_ (.t 68)),q_ 70 67 false (.bin .neq .num (.t 69) (i_ 0)),o_ 71 (.pick (.t 67) (.c (.b true)) (.t 70))] (.cond (.t 71) (k_ [o_ 2 (.mov (.c (.b false)))] (.ret)) (.skip))) (.seq (k_ [a_ 72 1 1,d_ 73 1 72] (.cond (.t 73) (k_ [a_ 74 1 5,d_ 75 1 74,g_ 76 .eql 75 0,m_ 77 76,q_ 78 77 true (.fieldAddr (.t 1) 7 l_),q_ 79 77 true (.load false (some 1) l_ (.t 78)),q_ 80 77 true (.call (.f 258) [.t 79,(.c (.i .u64 24))]),o_ 81 (.pick (.t 77) (.t 80) (.c (.b false))),m_ 2 81] (.ret)) (.skip))) (k_ [a_ 82 1 7,d_ 83 1 82,o_ 84 (.bin .geq .num (.t 83) (.c (.i .i32 0))),m_ 85 84,q_ 86 85 true (.fieldAddr (.t 1) 7 l_),q_ 87 85 true (.load false (some 1) l_ (.t 86)),q_ 88 85 true (.bin .lss .num (.t 87) (.c (.i .i32 16))),o_ 89 (.pick (.t 85) (.t 88) (.c (.b false))),m_ 2 89] (.ret)))) (.skip))))))))))) (k_ [o_ 2 (.mov (.c (.b false)))] (.ret))))),none,none⟩
def qnw:Fn:=⟨1,[.t 2],true,(k_ [o_ 2 (.mov (.c (.i .u32 0)))] (.seq (k_ [m_ 3 0] (.cond (.t 3) (k_ [o_ 2 (.mov (.c (.i .u32 1)))] (.ret)) (.skip))) (k_ [o_ 2 (.mov (.c (.i .u32 0)))] (.ret)))),none,none⟩
def qkj:Fn:=⟨2,[.t 4],true,(k_ [o_ 4 (.mov (i_ 0))] (k_ [m_ 5 0,m_ 6 1,e_ 7 .shr 5 6,o_ 8 (.bin .and .num (.t 7) (.c (.i .u32 15))),o_ 9 (.conv .i64 (.t 8)),v_ 4 9] (.ret))),none,none⟩
def qjh:Fn:=⟨2,[.t 4],true,(k_ [o_ 4 (.mov (.c (.i .i32 0)))] (k_ [m_ 5 0,m_ 6 1,o_ 7 (.bin .sub .num (.c (.i .u64 32)) (.t 6)),e_ 8 .shl 5 7,o_ 9 (.conv .i32 (.t 8)),m_ 10 1,o_ 11 (.bin .sub .num (.c (.i .u64 32)) (.t 10)),e_ 12 .shr 9 11,m_ 4 12] (.ret))),none,none⟩
def qmh:Fn:=⟨2,[.t 4],true,(k_ [o_ 4 (.mov (.c (.i .i32 0)))] (k_ [m_ 5 0,v_ 6 1,c_ 7 259 [.mv 6],e_ 8 .shl 5 7,m_ 4 8] (.ret))),none,none⟩
def qa9:Fn:=⟨4,[.t 8],true,(k_ [o_ 5 (.box true (.t 1)),o_ 8 (.mov (.c (.i .u32 0)))] (k_ [m_ 13 0,o_ 14 (.load false (some 5) (s_ 8) (.t 5)),c_ 15 261 [.t 13,.t 14],v_ 9 15] (k_ [o_ 10 (.mov (.c (.i .u32 0))),o_ 11 (.mov (.c (.i .u32 0)))] (k_ [m_ 16 2,o_ 17 (.conv .i32 (.t 16)),o_ 18 (.conv .i64 (.t 17)),m_ 19 3,o_ 20 (.conv .i32 (.t 19)),o_ 21 (.conv .i64 (.t 20)),e_ 22 .add 18 21,m_ 23 9,o_ 24 (.conv .i64 (.t 23)),e_ 25 .add 22 24,m_ 12 25] (.seq (k_ [a_ 26 5 6,d_ 27 5 26,g_ 28 .eql 27 8] (.cond (.t 28) (.ops [v_ 30 2,v_ 31 3,v_ 32 9,c_ 33 262 [.mv 30,.mv 31,.mv 32],m_ 29 33,r_ 34 29 0,r_ 35 29 1,m_ 10 34,m_ 11 35]) (k_ [m_ 37 2,m_ 38 3,m_ 39 9,c_ 40 263 [.t 37,.t 38,.t 39],m_ 36 40,r_ 41 36 0,r_ 42 36 1,m_ 10 41,m_ 11 42] (.ops [m_ 43 2,o_ 44 (.conv .i32 (.t 43)),o_ 45 (.conv .i64 (.t 44)),m_ 46 3,o_ 47 (.conv .i32 (.t 46)),o_ 48 (.conv .i64 (.t 47)),e_ 49 .sub 45 48,m_ 50 9,o_ 51 (.conv .i64 (.t 50)),e_ 52 .sub 49 51,m_ 12 52])))) (k_ [m_ 53 0,m_ 54 0,m_ 55 11,o_ 56 (.bin .eql .num (.t 55) (.c (.i .u32 1))),m_ 57 12,m_ 58 12,o_ 59 (.conv .i32 (.t 58)),o_ 60 (.conv .i64 (.t 59)),e_ 61 .neq 57 60,o_ 62 (.nilCheck (.t 53)),a_ 63 62 22,z_ (.store none l_ (.t 63) (.t 56)),o_ 64 (.nilCheck (.t 54)),a_ 65 64 23,z_ (.store none l_ (.t 65) (.t 61))] (k_ [m_ 66 10,m_ 8 66] (.ret)))))))),none,none⟩
def qme:Fn:=⟨2,[.t 4,(.t 5)],false,(k_ [o_ 4 (.mov (.c (.i .i32 0))),o_ 5 (.mov (.c (.b false)))] (.seq (k_ [m_ 7 1,o_ 8 (.bin .lss .num (.t 7) (.c (.i .i32 1)))] (.cond (.t 8) (k_ [o_ 4 (.mov (.c (.i .i32 0))),o_ 5 (.mov (.c (.b false)))] (.ret)) (.skip))) (k_ [m_ 9 0,m_ 10 1,e_ 11 .quo 9 10,m_ 6 11] (.seq (k_ [m_ 12 0,m_ 13 1,e_ 14 .rem 12 13,o_ 15 (.bin .lss .num (.t 14) (.c (.i .i32 0)))] (.cond (.t 15) (.ops [m_ 16 6,o_ 17 (.bin .sub .num (.t 16) (.c (.i .i32 1))),m_ 6 17]) (.skip))) (k_ [m_ 18 6,m_ 4 18,o_ 5 (.mov (.c (.b true)))] (.ret)))))),none,none⟩
def ql0:Fn:=⟨2,[.t 4,(.t 5)],false,(k_ [o_ 4 (.mov (.c (.i .i32 0))),o_ 5 (.mov (.c (.b false)))] (.seq (k_ [m_ 7 1,o_ 8 (.bin .lss .num (.t 7) (.c (.i .i32 1)))] (.cond (.t 8) (k_ [o_ 4 (.mov (.c (.i .i32 0))),o_ 5 (.mov (.c (.b false)))] (.ret)) (.skip))) (k_ [m_ 9 0,m_ 10 1,e_ 11 .rem 9 10,m_ 6 11] (.seq (k_ [m_ 12 6,o_ 13 (.bin .lss .num (.t 12) (.c (.i .i32 0)))] (.cond (.t 13) (.ops [m_ 14 6,m_ 15 1,e_ 16 .add 14 15,m_ 6 16]) (.skip))) (k_ [m_ 17 6,m_ 4 17,o_ 5 (.mov (.c (.b true)))] (.ret)))))),none,none⟩
def qaD:Fn:=⟨3,[],false,(k_ [m_ 6 0,m_ 7 1,m_ 8 2,o_ 9 (.nilCheck (.t 6)),o_ 10 (.fieldAddr (.t 9) 3 (s_ 16)),o_ 11 (.indexAddr (.t 10) (.t 7) 1 (some 16)),z_ (.store none l_ (.t 11) (.t 8))] (.ops [m_ 12 0,m_ 13 0,m_ 14 2,o_ 15 (.conv .i32 (.t 14)),o_ 16 (.bin .lss .num (.t 15) (.c (.i .i32 0))),m_ 17 2,o_ 18 (.bin .eql .num (.t 17) (.c (.i .u32 0))),o_ 19 (.nilCheck (.t 12)),a_ 20 19 20,z_ (.store none l_ (.t 20) (.t 16)),o_ 21 (.nilCheck (.t 13)),a_ 22 21 21,z_ (.store none l_ (.t 22) (.t 18))])),none,none⟩
def qai:Fn:=⟨2,[.t 4],true,(k_ [o_ 4 (.mov (.c (.b false)))] (k_ [o_ 5 (.mov (.c (.b false)))] (.seq (k_ [m_ 6 1,g_ 7 .rem 6 8] (.block 0 [1,5] (k_ [g_ 9 .eql 7 0,m_ 8 9] (.cond (.t 8) (.ops [m_ 10 0,o_ 11 (.nilCheck (.t 10)),a_ 12 11 20,h_ 13 12,m_ 5 13]) (k_ [g_ 15 .eql 7 1,m_ 14 15] (.cond (.t 14) (.ops [m_ 16 0,o_ 17 (.nilCheck (.t 16)),a_ 18 17 21,h_ 19 18,m_ 5 19]) (k_ [g_ 21 .eql 7 2,m_ 20 21] (.cond (.t 20) (.ops [m_ 22 0,o_ 23 (.nilCheck (.t 22)),a_ 24 23 22,h_ 25 24,m_ 5 25]) (k_ [g_ 27 .eql 7 3,m_ 26 27] (.cond (.t 26) (.ops [m_ 28 0,o_ 29 (.nilCheck (.t 28)),a_ 30 29 23,h_ 31 30,m_ 5 31]) (k_ [g_ 33 .eql 7 4,m_ 32 33] (.cond (.t 32) (.ops [m_ 34 0,o_ 35 (.nilCheck (.t 34)),a_ 36 35 22,h_ 37 36,m_ 38 37,q_ 39 38 false (.mov (.t 0)),q_ 40 38 false (.nilCheck (.t 39)),q_ 41 38 false (.fieldAddr (.t 40) 21 l_),q_ 42 38 false (.load false none l_ (.t 41)),o_ 43 (.pick (.t 38) (.c (.b true)) (.t 42)),m_ 5 43]) (k_ [g_ 45 .eql 7 5,m_ 44 45] (.cond (.t 44) (.opsD [(m_ 46 0,false,[]),(o_ 47 (.nilCheck (.t 46)),false,[]),(a_ 48 47 20,false,[]),(h_ 49 48,false,[]),(m_ 50 0,false,[]),(o_ 51 (.nilCheck (.t 50)),false,[]),(a_ 52 51 23,false,[]),(h_ 53 52,false,[]),(o_ 54 (.bin .neq .bool (.t 49) (.t 53)),true,[]),(m_ 5 54,true,[])]) (k_ [g_ 56 .eql 7 6,m_ 55 56] (.cond (.t 55) (.opsD [(m_ 57 0,false,[]),(o_ 58 (.nilCheck (.t 57)),false,[]),(a_ 59 58 20,false,[]),(h_ 60 59,false,[]),(m_ 61 0,false,[]),(o_ 62 (.nilCheck (.t 61)),false,[]),(a_ 63 62 23,false,[]),(h_ 64 63,false,[]),(o_ 65 (.bin .neq .bool (.t 60) (.t 64)),true,[]),(m_ 66 65,true,[]),(q_ 67 66 false (.mov (.t 0)),true,[]),(q_ 68 66 false (.nilCheck (.t 67)),true,[]),(q_ 69 66 false (.fieldAddr (.t 68) 21 l_),true,[]),(q_ 70 66 false (.load false none l_ (.t 69)),true,[]),(o_ 71 (.pick (.t 66) (.c (.b true)) (.t 70)),true,[]),(m_ 5 71,true,[])]) (.ops [o_ 5 (.mov (.c (.b true)))]))))))))))))))))) (k_ [m_ 72 5,m_ 73 1,g_ 74 .lss 73 8,o_ 75 (.bin .eql .bool (.t 72) (.t 74)),m_ 4 75] (.ret))))),none,none⟩
def qcn:C:=(.block 1 [0,2,3] (k_ [o_ 4 (.mov (i_ (-1))),o_ 5 (.mov (.c (.b true)))] (k_ [o_ 10 (.fieldAddr (.t 3) 1 (s_ 4)),a_ 11 10 0,d_ 12 3 11,m_ 6 12] (.seq (.block 2 [0,2,3,4,5,6] (k_ [m_ 14 0,o_ 15 (.call (.f 35) [.t 14,(.c (.s [42]))]),v_ 13 15] (.cond (.t 13) (.ops [m_ 16 6,c_ 17 201 [.t 16],o_ 4 (.mov (i_ 11)),v_ 5 17]) (k_ [m_ 19 0,o_ 20 (.call (.f 35) [.t 19,(.c (.s [47]))]),v_ 18 20] (.cond (.t 18) (.ops [m_ 21 6,g_ 22 .eql 21 4,o_ 4 (.mov (i_ 12)),m_ 5 22]) (k_ [m_ 24 0,o_ 25 (.call (.f 29) [.t 24,(.c (.s [68,73,86]))]),v_ 23 25] (.cond (.t 23) (.ops [m_ 26 6,g_ 27 .eql 26 1,o_ 4 (.mov (i_ 12)),m_ 5 27]) (k_ [m_ 29 0,o_ 30 (.call (.f 29) [.t 29,(.c (.s [77,79,68]))]),v_ 28 30] (.cond (.t 28) (.ops [m_ 31 6,g_ 32 .eql 31 1,o_ 4 (.mov (i_ 13)),m_ 5 32]) (k_ [m_ 34 0,o_ 35 (.call (.f 35) [.t 34,(.c (.s [38]))]),v_ 33 35] (.cond (.t 33) (.ops [m_ 36 6,g_ 37 .eql 36 3,o_ 4 (.mov (i_ 15)),m_ 5 37]) (.skip)))))))))))) (.seq (k_ [m_ 38 4,g_ 39 .lss 38 0] (.cond (.t 39) (k_ [o_ 40 (.load false (some 3) (s_ 8) (.t 3)),z_ (.store (some 2) (s_ 8) (.t 2) (.t 40))] (.ret)) (.skip))) (k_ [m_ 41 0,c_ 42 264 [.t 41],o_ 7 (.alloc true [(.i .i64 0),(.i .i64 0),(.i .i64 0),(.s []),.nil,(.i .i32 0),(.s []),.nil]),z_ (.store (some 7) (s_ 8) (.t 7) (.mv 42))] (k_ [m_ 43 0,m_ 44 5,m_ 45 44,q_ 46 45 true (.fieldAddr (.t 7) 1 (s_ 4)),q_ 47 45 true (.fieldAddr (.t 46) 0 l_),q_ 48 45 true (.load false (some 7) l_ (.t 47)),q_ 49 45 true (.mov (.t 6)),q_ 50 45 true (.bin .eql .num (.t 48) (.t 49)),o_ 51 (.pick (.t 45) (.t 50) (.c (.b false))),c_ 52 75 [.t 43,.t 51]] (.ops [m_ 53 0,m_ 54 4,o_ 55 (.fieldAddr (.t 3) 1 (s_ 4)),o_ 56 (.load false (some 3) (s_ 4) (.t 55)),o_ 57 (.load false (some 3) (s_ 8) (.t 3)),o_ 58 (.load false (some 7) (s_ 8) (.t 7)),o_ 59 (.buildSlice (.agg [(.i .i64 0),(.i .i64 0),(.i .i64 0),(.s []),.nil,(.i .i32 0),(.s []),.nil]) 2 [(0,(.t 57)),(1,(.t 58))]),o_ 60 (.build [(.i .i64 0),(.i .i64 0),(.i .i64 0),(.s []),.nil,(.i .i32 0),(.s []),.nil] [(0,1,(.t 54)),(1,4,(.t 56)),(7,1,(.t 59))]),c_ 61 132 [.t 53,.t 60],z_ (.store (some 3) (s_ 8) (.t 3) (.mv 61))]))))))))
def qbV:C:=.loop [0,2,3] qcn
def yE:Fn:=⟨1,[(.cell 2 (s_ 8))],true,(k_ [o_ 2 (.alloc true [(.i .i64 0),(.i .i64 0),(.i .i64 0),(.s []),.nil,(.i .i32 0),(.s []),.nil])] (k_ [m_ 8 0,c_ 9 264 [.t 8],o_ 3 (.alloc true [(.i .i64 0),(.i .i64 0),(.i .i64 0),(.s []),.nil,(.i .i32 0),(.s []),.nil]),z_ (.store (some 3) (s_ 8) (.t 3) (.mv 9))] (.block 0 [2] (qbV)))),none,none⟩
def qbO:Fn:=⟨1,[.t 2],true,(k_ [o_ 2 (.mov (.c (.b false)))] (k_ [m_ 3 0,g_ 4 .eql 3 1,m_ 5 4,q_ 6 5 false (.mov (.t 0)),q_ 7 5 false (.bin .eql .num (.t 6) (i_ 4)),o_ 8 (.pick (.t 5) (.c (.b true)) (.t 7)),m_ 2 8] (.ret))),none,none⟩
def qdW:Fn:=⟨1,[(.cell 2 (s_ 8)),(.t 3)],false,(k_ [o_ 1 (.box true (.t 0)),o_ 2 (.alloc true [(.i .i64 0),(.i .i64 0),(.i .i64 0),(.s []),.nil,(.i .i32 0),(.s []),.nil]),o_ 3 (.mov (i_ 0))] (.seq (k_ [o_ 6 (.load false (some 1) (s_ 8) (.t 1)),c_ 7 265 [.t 6],u_ 8 7] (.cond (.t 8) (k_ [o_ 9 (.load false (some 1) (s_ 8) (.t 1)),z_ (.store (some 2) (s_ 8) (.t 2) (.t 9)),o_ 3 (.mov (i_ 0))] (.ret)) (.skip))) (k_ [o_ 11 (.load false (some 1) (s_ 8) (.t 1)),c_ 12 266 [.t 11],m_ 10 12,r_ 13 10 0,r_ 14 10 1,m_ 4 13,m_ 5 14] (.seq (k_ [m_ 15 5,u_ 16 15] (.cond (.t 16) (k_ [o_ 17 (.build [(.i .i64 0),(.i .i64 0),(.i .i64 0),(.s []),.nil,(.i .i32 0),(.s []),.nil] []),z_ (.store (some 2) (s_ 8) (.t 2) (.t 17)),o_ 3 (.mov (i_ 33))] (.ret)) (.skip))) (k_ [o_ 18 (.fieldAddr (.t 1) 1 (s_ 4)),a_ 19 18 0,d_ 20 1 19,v_ 21 4,c_ 22 140 [.t 20,.mv 21],z_ (.store (some 2) (s_ 8) (.t 2) (.mv 22)),o_ 3 (.mov (i_ 0))] (.ret)))))),none,none⟩
def qcW:Fn:=⟨1,[(.cell 2 (s_ 4))],true,(k_ [o_ 2 (.alloc true [(.i .i64 0),(.i .i64 0),(.s []),.nil])] (k_ [m_ 3 0,o_ 4 (.build [(.i .i64 0),(.i .i64 0),(.s []),.nil] [(0,1,(.t 3))]),z_ (.store (some 2) (s_ 4) (.t 2) (.t 4))] (.ret))),none,none⟩
def jS:Fn:=⟨2,[(.cell 4 (s_ 24))],true,(k_ [o_ 4 (.alloc true [(.i .i64 0),(.i .i64 0),(.i .i64 0),(.s []),.nil,(.i .i64 0),(.i .i64 0),(.i .i64 0),(.s []),.nil,(.i .i32 0),(.s []),.nil,(.s []),(.b false),.nil,(.i .i64 0),(.i .i64 0),(.s []),.nil,.nil,.nil,.nil,(.b false)])] (.seq (k_ [m_ 8 0,o_ 9 (.nilCheck (.t 8)),a_ 10 9 14,h_ 11 10,m_ 12 1,o_ 13 (.lookup 2 (.agg [(.i .i64 0),(.i .i64 0),(.i .i64 0),(.s []),.nil,(.i .i64 0),(.i .i64 0),(.i .i64 0),(.s []),.nil,(.i .i32 0),(.s []),.nil,(.s []),(.b false),.nil,(.i .i64 0),(.i .i64 0),(.s []),.nil,.nil,.nil,.nil,(.b false)]) (.t 11) (.t 12) true),m_ 7 13,r_ 14 7 0,r_ 15 7 1,o_ 5 (.alloc true [(.i .i64 0),(.i .i64 0),(.i .i64 0),(.s []),.nil,(.i .i64 0),(.i .i64 0),(.i .i64 0),(.s []),.nil,(.i .i32 0),(.s []),.nil,(.s []),(.b false),.nil,(.i .i64 0),(.i .i64 0),(.s []),.nil,.nil,.nil,.nil,(.b false)]),z_ (.store (some 5) (s_ 24) (.t 5) (.t 14)),m_ 6 15] (k_ [m_ 16 6] (.cond (.t 16) (k_ [o_ 17 (.load false (some 5) (s_ 24) (.t 5)),z_ (.store (some 4) (s_ 24) (.t 4) (.t 17))] (.ret)) (.skip)))) (k_ [m_ 18 0,o_ 19 (.nilCheck (.t 18)),a_ 20 19 13,h_ 21 20,m_ 22 1,o_ 23 (.lookup 2 (.agg [(.i .i64 0),(.i .i64 0),(.i .i64 0),(.s []),.nil,(.i .i64 0),(.i .i64 0),(.i .i64 0),(.s []),.nil,(.i .i32 0),(.s []),.nil,(.s []),(.b false),.nil,(.i .i64 0),(.i .i64 0),(.s []),.nil,.nil,.nil,.nil,(.b false)]) (.t 21) (.t 22) false),z_ (.store (some 4) (s_ 24) (.t 4) (.t 23))] (.ret)))),none,none⟩
def qbJ:C:=(.seq (k_ [m_ 20 9,a_ 21 7 2,d_ 22 7 21,n_ 23 22,e_ 24 .lss 20 23] (.cond (.t 24) (.skip) (.exit 0))) (.seq (.block 1 [1,2,6,7,9] (k_ [a_ 27 7 2,d_ 28 7 27,m_ 29 9,x_ 30 28 29 10,a_ 31 30 0,h_ 32 31,m_ 33 2,e_ 34 .eql 32 33,m_ 35 34,q_ 36 35 true (.fieldAddr (.t 7) 2 l_),q_ 37 35 true (.load false (some 7) l_ (.t 36)),q_ 38 35 true (.mov (.t 9)),q_ 39 35 true (.indexAddr (.t 37) (.t 38) 10 none),q_ 40 35 true (.fieldAddr (.t 39) 1 l_),q_ 41 35 true (.load false none l_ (.t 40)),o_ 42 (.pick (.t 35) (.t 41) (.c (.b false)))] (.cond (.t 42) (k_ [a_ 43 7 2,d_ 44 7 43,m_ 45 9,x_ 46 44 45 10,o_ 47 (.fieldAddr (.t 46) 2 (s_ 8)),o_ 48 (.load false none (s_ 8) (.t 47)),o_ 49 (.build [(.i .i64 0),(.i .i64 0),(.i .i64 0),(.s []),.nil,(.i .i64 0),(.i .i64 0),(.i .i64 0),(.s []),.nil,(.i .i32 0),(.s []),.nil,(.s []),(.b false),.nil,(.i .i64 0),(.i .i64 0),(.s []),.nil,.nil,.nil,.nil,(.b false)] [(0,1,(i_ 2)),(5,8,(.t 48))]),z_ (.store (some 6) (s_ 24) (.t 6) (.t 49))] (.ret)) (.skip)))) (.ops [m_ 25 9,g_ 26 .add 25 1,m_ 9 26])))
def qbz:C:=.loop [1,2,6,7,9] qbJ
def qbs:C:=(.seq (k_ [m_ 50 10,a_ 51 7 3,d_ 52 7 51,n_ 53 52,e_ 54 .lss 50 53] (.cond (.t 54) (.skip) (.exit 2))) (.seq (.block 3 [1,2,6,7,10] (k_ [a_ 57 7 3,d_ 58 7 57,m_ 59 10,x_ 60 58 59 6,a_ 61 60 0,h_ 62 61,m_ 63 2,e_ 64 .eql 62 63,m_ 65 64,q_ 66 65 true (.fieldAddr (.t 7) 3 l_),q_ 67 65 true (.load false (some 7) l_ (.t 66)),q_ 68 65 true (.mov (.t 10)),q_ 69 65 true (.indexAddr (.t 67) (.t 68) 6 none),q_ 70 65 true (.fieldAddr (.t 69) 1 l_),q_ 71 65 true (.load false none l_ (.t 70)),o_ 72 (.pick (.t 65) (.t 71) (.c (.b false)))] (.cond (.t 72) (k_ [a_ 73 7 3,d_ 74 7 73,m_ 75 10,x_ 76 74 75 6,o_ 77 (.fieldAddr (.t 76) 2 (s_ 4)),o_ 78 (.load false none (s_ 4) (.t 77)),o_ 79 (.build [(.i .i64 0),(.i .i64 0),(.i .i64 0),(.s []),.nil,(.i .i64 0),(.i .i64 0),(.i .i64 0),(.s []),.nil,(.i .i32 0),(.s []),.nil,(.s []),(.b false),.nil,(.i .i64 0),(.i .i64 0),(.s []),.nil,.nil,.nil,.nil,(.b false)] [(0,1,(i_ 3)),(1,4,(.t 78))]),z_ (.store (some 6) (s_ 24) (.t 6) (.t 79))] (.ret)) (.skip)))) (.ops [m_ 55 10,g_ 56 .add 55 1,m_ 10 56])))
def qbv:C:=.loop [1,2,6,7,10] qbs
def qbu:C:=(.seq (k_ [m_ 80 11,a_ 81 7 4,d_ 82 7 81,n_ 83 82,e_ 84 .lss 80 83] (.cond (.t 84) (.skip) (.exit 4))) (.seq (.block 5 [1,2,6,7,11] (k_ [a_ 87 7 4,d_ 88 7 87,m_ 89 11,x_ 90 88 89 4,a_ 91 90 0,h_ 92 91,m_ 93 2,e_ 94 .eql 92 93,m_ 95 94,q_ 96 95 true (.fieldAddr (.t 7) 4 l_),q_ 97 95 true (.load false (some 7) l_ (.t 96)),q_ 98 95 true (.mov (.t 11)),q_ 99 95 true (.indexAddr (.t 97) (.t 98) 4 none),q_ 100 95 true (.fieldAddr (.t 99) 1 l_),q_ 101 95 true (.load false none l_ (.t 100)),o_ 102 (.pick (.t 95) (.t 101) (.c (.b false)))] (.cond (.t 102) (k_ [m_ 103 1,o_ 104 (.bin .add .num (.t 103) (.c (.s [46]))),m_ 105 2,e_ 106 .add 104 105,o_ 107 (.build [(.i .i64 0),(.i .i64 0),(.s []),.nil] [(0,1,(i_ 8)),(2,1,(.t 106))]),o_ 108 (.build [(.i .i64 0),(.i .i64 0),(.i .i64 0),(.s []),.nil,(.i .i64 0),(.i .i64 0),(.i .i64 0),(.s []),.nil,(.i .i32 0),(.s []),.nil,(.s []),(.b false),.nil,(.i .i64 0),(.i .i64 0),(.s []),.nil,.nil,.nil,.nil,(.b false)] [(0,1,(i_ 3)),(1,4,(.t 107))]),z_ (.store (some 6) (s_ 24) (.t 6) (.t 108))] (.ret)) (.skip)))) (.ops [m_ 85 11,g_ 86 .add 85 1,m_ 11 86])))
def qbt:C:=.loop [1,2,6,7,11] qbu
def qbx:C:=(.seq (k_ [m_ 109 12,a_ 110 7 5,d_ 111 7 110,n_ 112 111,e_ 113 .lss 109 112] (.cond (.t 113) (.skip) (.exit 6))) (.seq (.block 7 [2,6,7,12] (k_ [a_ 116 7 5,d_ 117 7 116,m_ 118 12,x_ 119 117 118 6,a_ 120 119 0,h_ 121 120,m_ 122 2,e_ 123 .eql 121 122,m_ 124 123,q_ 125 124 true (.fieldAddr (.t 7) 5 l_),q_ 126 124 true (.load false (some 7) l_ (.t 125)),q_ 127 124 true (.mov (.t 12)),q_ 128 124 true (.indexAddr (.t 126) (.t 127) 6 none),q_ 129 124 true (.fieldAddr (.t 128) 1 l_),q_ 130 124 true (.load false none l_ (.t 129)),o_ 131 (.pick (.t 124) (.t 130) (.c (.b false)))] (.cond (.t 131) (k_ [a_ 132 7 5,d_ 133 7 132,m_ 134 12,x_ 135 133 134 6,o_ 136 (.fieldAddr (.t 135) 2 (s_ 4)),o_ 137 (.load false none (s_ 4) (.t 136)),o_ 138 (.build [(.i .i64 0),(.i .i64 0),(.i .i64 0),(.s []),.nil,(.i .i64 0),(.i .i64 0),(.i .i64 0),(.s []),.nil,(.i .i32 0),(.s []),.nil,(.s []),(.b false),.nil,(.i .i64 0),(.i .i64 0),(.s []),.nil,.nil,.nil,.nil,(.b false)] [(0,1,(i_ 4)),(1,4,(.t 137))]),z_ (.store (some 6) (s_ 24) (.t 6) (.t 138))] (.ret)) (.skip)))) (.ops [m_ 114 12,g_ 115 .add 114 1,m_ 12 115])))
def qbB:C:=.loop [2,6,7,12] qbx
def qby:C:=(.seq (k_ [m_ 139 13,a_ 140 7 6,d_ 141 7 140,n_ 142 141,e_ 143 .lss 139 142] (.cond (.t 143) (.skip) (.exit 8))) (.seq (.block 9 [2,6,7,13] (k_ [a_ 146 7 6,d_ 147 7 146,m_ 148 13,x_ 149 147 148 10,a_ 150 149 0,h_ 151 150,m_ 152 2,e_ 153 .eql 151 152,m_ 154 153,q_ 155 154 true (.fieldAddr (.t 7) 6 l_),q_ 156 154 true (.load false (some 7) l_ (.t 155)),q_ 157 154 true (.mov (.t 13)),q_ 158 154 true (.indexAddr (.t 156) (.t 157) 10 none),q_ 159 154 true (.fieldAddr (.t 158) 1 l_),q_ 160 154 true (.load false none l_ (.t 159)),o_ 161 (.pick (.t 154) (.t 160) (.c (.b false)))] (.cond (.t 161) (k_ [a_ 162 7 6,d_ 163 7 162,m_ 164 13,x_ 165 163 164 10,o_ 166 (.load false none (s_ 10) (.t 165)),o_ 167 (.build [(.i .i64 0),(.i .i64 0),(.i .i64 0),(.s []),.nil,(.i .i64 0),(.i .i64 0),(.i .i64 0),(.s []),.nil,(.i .i32 0),(.s []),.nil,(.s []),(.b false),.nil,(.i .i64 0),(.i .i64 0),(.s []),.nil,.nil,.nil,.nil,(.b false)] [(0,1,(i_ 5)),(13,10,(.t 166))]),z_ (.store (some 6) (s_ 24) (.t 6) (.t 167))] (.ret)) (.skip)))) (.ops [m_ 144 13,g_ 145 .add 144 1,m_ 13 145])))
def qbD:C:=.loop [2,6,7,13] qby
def qbG:C:=(k_ [o_ 168 (.build [(.i .i64 0),(.i .i64 0),(.i .i64 0),(.s []),.nil,(.i .i64 0),(.i .i64 0),(.i .i64 0),(.s []),.nil,(.i .i32 0),(.s []),.nil,(.s []),(.b false),.nil,(.i .i64 0),(.i .i64 0),(.s []),.nil,.nil,.nil,.nil,(.b false)] []),z_ (.store (some 6) (s_ 24) (.t 6) (.t 168))] (.ret))
def qbH:C:=(.seq (k_ [o_ 13 (.mov (i_ 0))] (.block 8 [6] (qbD))) (qbG))
def qbA:C:=(.seq (k_ [o_ 12 (.mov (i_ 0))] (.block 6 [2,6,7] (qbB))) (qbH))
def qbE:C:=(.seq (k_ [o_ 11 (.mov (i_ 0))] (.block 4 [2,6,7] (qbt))) (qbA))
def qbC:C:=(.seq (k_ [o_ 10 (.mov (i_ 0))] (.block 2 [1,2,6,7] (qbv))) (qbE))
def j7:Fn:=⟨3,[(.cell 6 (s_ 24))],true,(k_ [o_ 6 (.alloc true [(.i .i64 0),(.i .i64 0),(.i .i64 0),(.s []),.nil,(.i .i64 0),(.i .i64 0),(.i .i64 0),(.s []),.nil,(.i .i32 0),(.s []),.nil,(.s []),(.b false),.nil,(.i .i64 0),(.i .i64 0),(.s []),.nil,.nil,.nil,.nil,(.b false)])] (k_ [v_ 15 0,m_ 16 1,c_ 17 71 [.mv 15,.t 16],m_ 14 17,r_ 18 14 0,r_ 19 14 1,o_ 7 (.alloc true [(.s []),.nil,.nil,.nil,.nil,.nil,.nil,.nil]),z_ (.store (some 7) (s_ 8) (.t 7) (.t 18)),m_ 8 19] (.seq (k_ [o_ 9 (.mov (i_ 0))] (.block 0 [1,2,6,7] (qbz))) (qbC)))),none,none⟩
def y8:Fn:=⟨2,[(.cell 4 (s_ 8))],true,(k_ [o_ 4 (.alloc true [(.i .i64 0),(.i .i64 0),(.i .i64 0),(.s []),.nil,(.i .i32 0),(.s []),.nil])] (k_ [m_ 6 0,m_ 7 0,c_ 8 74 [.t 7],m_ 9 1,c_ 10 133 [.t 9],c_ 11 84 [.t 6,.t 8,.t 10],o_ 5 (.alloc true [(.i .i64 0),(.i .i64 0),(.i .i64 0),(.s []),.nil,(.i .i32 0),(.s []),.nil]),z_ (.store (some 5) (s_ 8) (.t 5) (.mv 11))] (k_ [v_ 12 0,o_ 13 (.fieldAddr (.t 5) 1 (s_ 4)),a_ 14 13 0,d_ 15 5 14,m_ 16 1,e_ 17 .eql 15 16,c_ 18 75 [.mv 12,.t 17]] (k_ [o_ 19 (.load false (some 5) (s_ 8) (.t 5)),z_ (.store (some 4) (s_ 8) (.t 4) (.t 19))] (.ret))))),none,none⟩
def yd:Fn:=⟨1,[(.cell 2 (s_ 24)),(.t 3)],false,(k_ [o_ 2 (.alloc true [(.i .i64 0),(.i .i64 0),(.i .i64 0),(.s []),.nil,(.i .i64 0),(.i .i64 0),(.i .i64 0),(.s []),.nil,(.i .i32 0),(.s []),.nil,(.s []),(.b false),.nil,(.i .i64 0),(.i .i64 0),(.s []),.nil,.nil,.nil,.nil,(.b false)]),o_ 3 (.mov (.c (.s [])))] (k_ [m_ 7 0,c_ 8 30 [.t 7],v_ 4 8] (k_ [m_ 9 0,m_ 10 4,c_ 11 204 [.t 9,.t 10],o_ 5 (.alloc true [(.i .i64 0),(.i .i64 0),(.i .i64 0),(.s []),.nil,(.i .i64 0),(.i .i64 0),(.i .i64 0),(.s []),.nil,(.i .i32 0),(.s []),.nil,(.s []),(.b false),.nil,(.i .i64 0),(.i .i64 0),(.s []),.nil,.nil,.nil,.nil,(.b false)]),z_ (.store (some 5) (s_ 24) (.t 5) (.mv 11))] (.seq (k_ [a_ 12 5 0,d_ 13 5 12,g_ 14 .eql 13 1] (.cond (.t 14) (k_ [m_ 15 0,m_ 16 0,o_ 17 (.call (.f 35) [.t 16,(.c (.s [46]))]),c_ 18 28 [.t 15,.t 17]] (k_ [m_ 19 0,c_ 20 30 [.t 19],v_ 6 20] (k_ [v_ 21 0,m_ 22 4,m_ 23 6,c_ 24 205 [.mv 21,.t 22,.t 23],m_ 25 4,o_ 26 (.bin .add .num (.t 25) (.c (.s [46]))),m_ 27 6,e_ 28 .add 26 27,z_ (.store (some 2) (s_ 24) (.t 2) (.mv 24)),m_ 3 28] (.ret)))) (.skip))) (.seq (k_ [a_ 29 5 0,d_ 30 5 29,g_ 31 .eql 30 4,m_ 32 31,q_ 33 32 false (.fieldAddr (.t 5) 0 l_),q_ 34 32 false (.load false (some 5) l_ (.t 33)),q_ 35 32 false (.bin .eql .num (.t 34) (i_ 5)),o_ 36 (.pick (.t 32) (.c (.b true)) (.t 35))] (.cond (.t 36) (.seq (.opsD [(o_ 37 (.load false (some 5) (s_ 24) (.t 5)),false,[]),(m_ 38 0,false,[]),(o_ 39 (.nilCheck (.t 38)),false,[]),(o_ 40 (.fieldAddr (.t 39) 3 (s_ 8)),false,[]),(a_ 41 40 0,false,[]),(h_ 42 41,false,[]),(o_ 43 (.bin .add .num (.t 42) (.c (.s [46]))),false,[]),(m_ 44 4,false,[]),(e_ 45 .add 43 44,false,[]),(z_ (.store (some 2) (s_ 24) (.t 2) (.t 37)),false,[]),(m_ 3 45,true,[])]) (.ret)) (.skip))) (k_ [o_ 46 (.load false (some 5) (s_ 24) (.t 5)),m_ 47 4,z_ (.store (some 2) (s_ 24) (.t 2) (.t 46)),m_ 3 47] (.ret))))))),none,none⟩
def y4:C:=(.seq (k_ [m_ 10 5,a_ 11 3 6,d_ 12 3 11,o_ 13 (.bi .lenS [.t 12]),e_ 14 .lss 10 13] (.cond (.t 14) (.skip) (.exit 1))) (.seq (.block 2 [0,3,5] (k_ [a_ 17 3 6,d_ 18 3 17,m_ 19 5,o_ 20 (.index (.t 18) (.t 19)),o_ 21 (.bin .eql .num (.t 20) (.c (.i .u8 46)))] (.cond (.t 21) (.seq (.opsD [(a_ 22 3 6,false,[]),(d_ 23 3 22,false,[]),(m_ 24 5,false,[]),(o_ 25 (.sliceS (.t 23) none (some (.t 24))),false,[]),(m_ 26 0,false,[]),(o_ 27 (.nilCheck (.t 26)),false,[]),(o_ 28 (.fieldAddr (.t 27) 3 (s_ 8)),false,[]),(a_ 29 28 0,false,[]),(h_ 30 29,false,[]),(e_ 31 .eql 25 30,true,[]),(m_ 4 31,true,[])]) (.ret)) (.skip)))) (.ops [m_ 15 5,g_ 16 .add 15 1,m_ 5 16])))
def y6:C:=.loop [0,3,5] y4
def y5:C:=(k_ [o_ 4 (.mov (.c (.b true)))] (.ret))
def y2:C:=(k_ [a_ 41 3 0,d_ 42 3 41,g_ 43 .eql 42 4,m_ 4 43] (.ret))
def zR:Fn:=⟨2,[.t 4],true,(k_ [o_ 3 (.box true (.t 1)),o_ 4 (.mov (.c (.b false)))] (.seq (k_ [a_ 6 3 0,d_ 7 3 6] (.block 0 [3] (k_ [g_ 9 .eql 7 1,m_ 8 9] (.cond (.t 8) (.seq (k_ [o_ 5 (.mov (i_ 0))] (.block 1 [] (y6))) (y5)) (.seq (k_ [g_ 33 .eql 7 2,m_ 32 33] (.cond (.t 32) (.skip) (.ops [g_ 34 .eql 7 3,m_ 32 34]))) (.cond (.t 32) (k_ [v_ 35 0,a_ 36 3 7,d_ 37 3 36,o_ 38 (.indexAddr (.t 37) (i_ 0) 8 none),o_ 39 (.load false none (s_ 8) (.t 38)),c_ 40 209 [.mv 35,.t 39],v_ 4 40] (.ret)) (.skip))))))) (y2))),none,none⟩
def jF:Fn:=⟨1,[(.cell 2 (s_ 8))],true,(k_ [o_ 2 (.alloc true [(.i .i64 0),(.i .i64 0),(.i .i64 0),(.s []),.nil,(.i .i32 0),(.s []),.nil])] (k_ [m_ 4 0,c_ 5 74 [.t 4],o_ 3 (.alloc true [(.i .i64 0),(.i .i64 0),(.i .i64 0),(.s []),.nil,(.i .i32 0),(.s []),.nil]),z_ (.store (some 3) (s_ 8) (.t 3) (.mv 5))] (k_ [v_ 6 0,o_ 7 (.fieldAddr (.t 3) 1 (s_ 4)),a_ 8 7 0,d_ 9 3 8,g_ 10 .eql 9 1,c_ 11 75 [.mv 6,.t 10]] (k_ [o_ 12 (.load false (some 3) (s_ 8) (.t 3)),z_ (.store (some 2) (s_ 8) (.t 2) (.t 12))] (.ret))))),none,none⟩
def jj:Fn:=⟨2,[(.cell 4 (s_ 4))],true,(k_ [o_ 4 (.alloc true [(.i .i64 0),.nil,.nil,.nil])] (k_ [o_ 7 (.build [(.i .i64 0),.nil,.nil,.nil] []),o_ 5 (.alloc true [(.i .i64 0),.nil,.nil,.nil]),z_ (.store (some 5) (s_ 4) (.t 5) (.t 7))] (k_ [m_ 8 0,c_ 9 267 [.t 8]] (.seq (k_ [m_ 10 1] (.block 0 [0,4,5] (.seq (k_ [o_ 14 (.bin .eql .num (.t 10) (.c (.s [73,78,67]))),m_ 13 14] (.cond (.t 13) (.skip) (.ops [o_ 15 (.bin .eql .num (.t 10) (.c (.s [68,69,67]))),m_ 13 15]))) (.cond (.t 13) (k_ [a_ 16 5 0,z_ (.store (some 5) l_ (.t 16) (i_ 7))] (.seq (k_ [m_ 17 1,o_ 18 (.bin .eql .num (.t 17) (.c (.s [68,69,67])))] (.cond (.t 18) (.ops [a_ 19 5 0,z_ (.store (some 5) l_ (.t 19) (i_ 8))]) (.skip))) (k_ [m_ 20 0,c_ 21 268 [.t 20,(i_ 1)],o_ 22 (.call (.f 140) [(i_ 1),(.c (.i .i32 1))]),o_ 23 (.buildR (s_ 8) (.agg [(.i .i64 0),(.i .i64 0),(.i .i64 0),(.s []),.nil,(.i .i32 0),(.s []),.nil]) 2 [(0,(.t 21)),(1,(.t 22))]),a_ 24 5 1,z_ (.store (some 5) l_ (.t 24) (.mv 23))] (k_ [m_ 25 0,o_ 26 (.call (.f 35) [.t 25,(.c (.s [44]))])] (.cond (.t 26) (.opsD [(a_ 27 5 1,false,[]),(d_ 28 5 27,false,[]),(m_ 29 0,false,[]),(c_ 30 210 [.t 29],true,[]),(o_ 31 (.indexAddr (.t 28) (i_ 1) 8 none),true,[]),(z_ (.store none (s_ 8) (.t 31) (.mv 30)),true,[])]) (.skip)))))) (.seq (k_ [o_ 33 (.bin .eql .num (.t 10) (.c (.s [73,78,67,76]))),m_ 32 33] (.cond (.t 32) (.skip) (.ops [o_ 34 (.bin .eql .num (.t 10) (.c (.s [69,88,67,76]))),m_ 32 34]))) (.cond (.t 32) (k_ [a_ 35 5 0,z_ (.store (some 5) l_ (.t 35) (i_ 9))] (.seq (k_ [m_ 36 1,o_ 37 (.bin .eql .num (.t 36) (.c (.s [69,88,67,76])))] (.cond (.t 37) (.ops [a_ 38 5 0,z_ (.store (some 5) l_ (.t 38) (i_ 10))]) (.skip))) (k_ [m_ 39 0,c_ 40 268 [.t 39,(i_ 4)],o_ 6 (.alloc true [(.i .i64 0),(.i .i64 0),(.i .i64 0),(.s []),.nil,(.i .i32 0),(.s []),.nil]),z_ (.store (some 6) (s_ 8) (.t 6) (.mv 40))] (k_ [m_ 41 0,m_ 42 0,o_ 43 (.call (.f 35) [.t 42,(.c (.s [44]))]),c_ 44 28 [.t 41,.t 43]] (.opsD [(o_ 45 (.load false (some 6) (s_ 8) (.t 6)),false,[]),(m_ 46 0,false,[]),(c_ 47 210 [.t 46],true,[]),(o_ 48 (.buildSlice (.agg [(.i .i64 0),(.i .i64 0),(.i .i64 0),(.s []),.nil,(.i .i32 0),(.s []),.nil]) 2 [(0,(.t 45)),(1,(.t 47))]),true,[]),(a_ 49 5 1,true,[]),(z_ (.store (some 5) l_ (.t 49) (.mv 48)),true,[])]))))) (k_ [o_ 51 (.bin .eql .num (.t 10) (.c (.s [78,69,87]))),m_ 50 51] (.cond (.t 50) (.ops [m_ 52 0,c_ 53 268 [.t 52,(i_ 9)],o_ 54 (.buildSlice (.agg [(.i .i64 0),(.i .i64 0),(.i .i64 0),(.s []),.nil,(.i .i32 0),(.s []),.nil]) 1 [(0,(.t 53))]),a_ 55 5 0,z_ (.store (some 5) l_ (.t 55) (i_ 11)),a_ 56 5 1,z_ (.store (some 5) l_ (.t 56) (.mv 54))]) (k_ [o_ 58 (.bin .eql .num (.t 10) (.c (.s [65,83,83,69,82,84]))),m_ 57 58] (.cond (.t 57) (.ops [m_ 59 0,c_ 60 144 [.t 59],o_ 61 (.buildSlice (.agg [(.i .i64 0),(.i .i64 0),(.i .i64 0),(.s []),.nil,(.i .i32 0),(.s []),.nil]) 1 [(0,(.t 60))]),a_ 62 5 0,z_ (.store (some 5) l_ (.t 62) (i_ 12)),a_ 63 5 1,z_ (.store (some 5) l_ (.t 63) (.mv 61))]) (.ops [m_ 11 0,c_ 12 34 [.t 11,(i_ 32)]]))))))))))) (k_ [v_ 64 0,c_ 65 269 [.mv 64]] (k_ [z_ (.fz 5),o_ 66 (.load false (some 5) (s_ 4) (.t 5)),z_ (.store (some 4) (s_ 4) (.t 4) (.t 66))] (.ret))))))),none,none⟩
def qau:C:=(.seq (k_ [m_ 38 0,o_ 39 (.call (.f 35) [.t 38,(.c (.s [44]))])] (.cond (.t 39) (.skip) (.exit 3))) (.block 4 [0,3,4] (.ops [m_ 40 0,o_ 41 (.load false (some 3) (s_ 8) (.t 3)),c_ 42 272 [.t 40,.t 41],z_ (.store (some 3) (s_ 8) (.t 3) (.mv 42))])))
def qaq:C:=.loop [0,3,4] qau
def y7:C:=.ops [m_ 43 0,m_ 44 0,o_ 45 (.call (.f 35) [.t 44,(.c (.s [93]))]),c_ 46 28 [.t 43,.t 45]]
def qan:C:=(.seq (k_ [m_ 6 0,o_ 7 (.nilCheck (.t 6)),a_ 8 7 2,h_ 9 8,g_ 10 .eql 9 0] (.cond (.t 10) (.skip) (.exit 0))) (.block 1 [0,3,4] (.block 2 [0,3,4] (k_ [m_ 13 0,o_ 14 (.call (.f 35) [.t 13,(.c (.s [46]))]),v_ 12 14] (.cond (.t 12) (.seq (k_ [o_ 15 (.fieldAddr (.t 3) 1 (s_ 4)),a_ 16 15 0,d_ 17 3 16,g_ 18 .eql 17 9] (.cond (.t 18) (.ops [o_ 19 (.load false (some 3) (s_ 8) (.t 3)),c_ 20 270 [.t 19],z_ (.store (some 3) (s_ 8) (.t 3) (.mv 20))]) (.skip))) (k_ [m_ 21 0,o_ 22 (.fieldAddr (.t 3) 1 (s_ 4)),a_ 23 22 0,d_ 24 3 23,g_ 25 .eql 24 8,c_ 26 75 [.t 21,.t 25]] (.opsD [(m_ 27 0,false,[]),(o_ 28 (.load false (some 3) (s_ 8) (.t 3)),false,[]),(m_ 29 0,false,[]),(c_ 30 30 [.t 29],true,[]),(c_ 31 271 [.t 27,.t 28,.t 30],true,[]),(z_ (.store (some 3) (s_ 8) (.t 3) (.mv 31)),true,[])]))) (k_ [m_ 33 0,o_ 34 (.call (.f 35) [.t 33,(.c (.s [91]))]),v_ 32 34] (.cond (.t 32) (k_ [m_ 35 0,o_ 36 (.load false (some 3) (s_ 8) (.t 3)),c_ 37 272 [.t 35,.t 36],z_ (.store (some 3) (s_ 8) (.t 3) (.mv 37))] (.seq (.block 3 [0,3,4] (qaq)) (y7))) (k_ [m_ 48 0,o_ 49 (.call (.f 35) [.t 48,(.c (.s [94]))]),v_ 47 49] (.cond (.t 47) (k_ [m_ 50 0,o_ 51 (.fieldAddr (.t 3) 1 (s_ 4)),a_ 52 51 0,d_ 53 3 52,g_ 54 .eql 53 9,c_ 55 75 [.t 50,.t 54]] (.ops [o_ 56 (.load false (some 3) (s_ 8) (.t 3)),c_ 57 270 [.t 56],z_ (.store (some 3) (s_ 8) (.t 3) (.mv 57))])) (k_ [o_ 59 (.fieldAddr (.t 3) 1 (s_ 4)),a_ 60 59 0,d_ 61 3 60,g_ 62 .eql 61 9,m_ 63 62,q_ 64 63 true (.mov (.t 0)),q_ 65 63 true (.call (.f 35) [.t 64,(.c (.s [40]))]),o_ 66 (.pick (.t 63) (.t 65) (.c (.b false))),m_ 58 66] (.cond (.t 58) (k_ [m_ 67 0,c_ 68 134 [.t 67],o_ 5 (.alloc true [(.i .i64 0),(.i .i64 0),(.s []),.nil]),z_ (.store (some 5) (s_ 4) (.t 5) (.mv 68))] (k_ [m_ 69 0,o_ 70 (.load false (some 5) (s_ 4) (.t 5)),c_ 71 79 [.t 69,.t 70]] (.seq (.seq (.opsD [(m_ 72 0,false,[]),(a_ 73 5 0,false,[]),(d_ 74 5 73,false,[]),(g_ 75 .eql 74 8,false,[]),(m_ 76 75,false,[]),(q_ 77 76 true (.fieldAddr (.t 5) 2 l_),false,[]),(q_ 78 76 true (.load false (some 5) l_ (.t 77)),false,[]),(q_ 79 76 true (.fieldAddr (.t 3) 1 (s_ 4)),false,[]),(q_ 80 76 true (.fieldAddr (.t 79) 2 l_),false,[]),(q_ 81 76 true (.load false (some 3) l_ (.t 80)),false,[]),(q_ 82 76 true (.mov (.t 0)),false,[]),(q_ 83 76 true (.nilCheck (.t 82)),false,[]),(q_ 84 76 true (.fieldAddr (.t 83) 12 l_),false,[]),(q_ 85 76 true (.load false none l_ (.t 84)),false,[]),(q_ 86 76 true (.call (.f 135) [.t 78,(.t 81),(.t 85)]),true,[]),(o_ 87 (.pick (.t 76) (.t 86) (.c (.b false))),false,[])]) (.ops [c_ 88 75 [.t 72,.t 87]])) (k_ [m_ 89 0,m_ 90 0,o_ 91 (.call (.f 35) [.t 90,(.c (.s [41]))]),c_ 92 28 [.t 89,.t 91]] (.ops [a_ 93 5 2,d_ 94 5 93,o_ 95 (.build [(.i .i64 0),(.i .i64 0),(.s []),.nil] [(0,1,(i_ 9)),(2,1,(.t 94))]),a_ 96 5 2,d_ 97 5 96,o_ 98 (.load false (some 3) (s_ 8) (.t 3)),o_ 99 (.buildSlice (.agg [(.i .i64 0),(.i .i64 0),(.i .i64 0),(.s []),.nil,(.i .i32 0),(.s []),.nil]) 1 [(0,(.t 98))]),o_ 100 (.build [(.i .i64 0),(.i .i64 0),(.i .i64 0),(.s []),.nil,(.i .i32 0),(.s []),.nil] [(0,1,(i_ 5)),(1,4,(.t 95)),(6,1,(.t 97)),(7,1,(.t 99))]),z_ (.store (some 3) (s_ 8) (.t 3) (.t 100))]))))) (k_ [o_ 11 (.load false (some 3) (s_ 8) (.t 3)),z_ (.store (some 4) (s_ 8) (.t 4) (.t 11))] (.ret)))))))))))))
def qay:C:=.loop [0,3,4] qan
def qac:C:=(k_ [o_ 101 (.load false (some 3) (s_ 8) (.t 3)),z_ (.store (some 4) (s_ 8) (.t 4) (.t 101))] (.ret))
def z4:Fn:=⟨2,[(.cell 4 (s_ 8))],true,(k_ [o_ 3 (.box true (.t 1)),o_ 4 (.alloc true [(.i .i64 0),(.i .i64 0),(.i .i64 0),(.s []),.nil,(.i .i32 0),(.s []),.nil])] (.seq (.block 0 [3,4] (qay)) (qac))),none,none⟩
def jE:Fn:=⟨2,[(.cell 4 (s_ 4))],true,(k_ [o_ 4 (.alloc true [(.i .i64 0),.nil,.nil,.nil])] (k_ [o_ 8 (.build [(.i .i64 0),.nil,.nil,.nil] []),o_ 5 (.alloc true [(.i .i64 0),.nil,.nil,.nil]),z_ (.store (some 5) (s_ 4) (.t 5) (.t 8))] (.seq (k_ [m_ 9 1,o_ 10 (.bin .eql .num (.t 9) (.c (.s [79,117,116,46,76,110])))] (.cond (.t 10) (.seq (k_ [m_ 11 0,o_ 12 (.call (.f 35) [.t 11,(.c (.s [40]))])] (.cond (.t 12) (.ops [v_ 13 0,c_ 14 269 [.mv 13]]) (.skip))) (k_ [a_ 15 5 0,z_ (.store (some 5) l_ (.t 15) (i_ 17))] (k_ [o_ 16 (.load false (some 5) (s_ 4) (.t 5)),z_ (.store (some 4) (s_ 4) (.t 4) (.t 16))] (.ret)))) (.skip))) (k_ [m_ 17 1,o_ 18 (.bin .eql .num (.t 17) (.c (.s [73,110,46,67,104,97,114]))),m_ 6 18] (.seq (k_ [m_ 19 6,u_ 20 19,m_ 21 20,q_ 22 21 true (.mov (.t 1)),q_ 23 21 true (.bin .neq .num (.t 22) (.c (.s [79,117,116,46,73,110,116]))),o_ 24 (.pick (.t 21) (.t 23) (.c (.b false))),m_ 25 24,q_ 26 25 true (.mov (.t 1)),q_ 27 25 true (.bin .neq .num (.t 26) (.c (.s [79,117,116,46,67,104,97,114]))),o_ 28 (.pick (.t 25) (.t 27) (.c (.b false))),m_ 29 28,q_ 30 29 true (.mov (.t 1)),q_ 31 29 true (.bin .neq .num (.t 30) (.c (.s [79,117,116,46,83,116,114,105,110,103]))),o_ 32 (.pick (.t 29) (.t 31) (.c (.b false)))] (.cond (.t 32) (.ops [m_ 33 0,c_ 34 34 [.t 33,(i_ 32)]]) (.skip))) (k_ [m_ 35 0,c_ 36 267 [.t 35]] (.seq (k_ [m_ 37 1] (.block 0 [0,4,5] (k_ [o_ 75 (.bin .eql .num (.t 37) (.c (.s [73,110,46,67,104,97,114]))),m_ 74 75] (.cond (.t 74) (.ops [m_ 76 0,c_ 77 268 [.t 76,(i_ 2)],o_ 78 (.buildSlice (.agg [(.i .i64 0),(.i .i64 0),(.i .i64 0),(.s []),.nil,(.i .i32 0),(.s []),.nil]) 1 [(0,(.t 77))]),a_ 79 5 0,z_ (.store (some 5) l_ (.t 79) (i_ 13)),a_ 80 5 1,z_ (.store (some 5) l_ (.t 80) (.mv 78))]) (k_ [o_ 82 (.bin .eql .num (.t 37) (.c (.s [79,117,116,46,73,110,116]))),m_ 81 82] (.cond (.t 81) (.ops [m_ 83 0,c_ 84 210 [.t 83],o_ 85 (.buildSlice (.agg [(.i .i64 0),(.i .i64 0),(.i .i64 0),(.s []),.nil,(.i .i32 0),(.s []),.nil]) 1 [(0,(.t 84))]),a_ 86 5 0,z_ (.store (some 5) l_ (.t 86) (i_ 14)),a_ 87 5 1,z_ (.store (some 5) l_ (.t 87) (.mv 85))]) (k_ [o_ 89 (.bin .eql .num (.t 37) (.c (.s [79,117,116,46,67,104,97,114]))),m_ 88 89] (.cond (.t 88) (.ops [m_ 90 0,c_ 91 207 [.t 90,(i_ 2)],o_ 92 (.buildSlice (.agg [(.i .i64 0),(.i .i64 0),(.i .i64 0),(.s []),.nil,(.i .i32 0),(.s []),.nil]) 1 [(0,(.t 91))]),a_ 93 5 0,z_ (.store (some 5) l_ (.t 93) (i_ 15)),a_ 94 5 1,z_ (.store (some 5) l_ (.t 94) (.mv 92))]) (k_ [m_ 38 0,c_ 39 74 [.t 38],o_ 7 (.alloc true [(.i .i64 0),(.i .i64 0),(.i .i64 0),(.s []),.nil,(.i .i32 0),(.s []),.nil]),z_ (.store (some 7) (s_ 8) (.t 7) (.mv 39))] (k_ [m_ 40 0,a_ 41 7 0,d_ 42 7 41,g_ 43 .eql 42 0,m_ 44 43,q_ 45 44 true (.fieldAddr (.t 7) 1 (s_ 4)),q_ 46 44 true (.fieldAddr (.t 45) 0 l_),q_ 47 44 true (.load false (some 7) l_ (.t 46)),q_ 48 44 true (.bin .eql .num (.t 47) (i_ 6)),o_ 49 (.pick (.t 44) (.t 48) (.c (.b false))),m_ 50 49,q_ 51 50 false (.load false (some 7) (s_ 8) (.t 7)),q_ 52 50 false (.call (.f 273) [.t 51]),q_ 53 50 false (.mov (.mv 52)),q_ 54 53 true (.fieldAddr (.t 7) 1 (s_ 4)),q_ 55 53 true (.fieldAddr (.t 54) 0 l_),q_ 56 53 true (.load false (some 7) l_ (.t 55)),q_ 57 53 true (.bin .eql .num (.t 56) (i_ 7)),q_ 58 50 false (.pick (.t 53) (.t 57) (.c (.b false))),q_ 59 50 false (.mov (.t 58)),q_ 60 59 true (.fieldAddr (.t 7) 1 (s_ 4)),q_ 61 59 true (.fieldAddr (.t 60) 3 l_),q_ 62 59 true (.load false (some 7) l_ (.t 61)),q_ 63 59 true (.indexAddr (.t 62) (i_ 0) 4 none),q_ 64 59 true (.fieldAddr (.t 63) 0 l_),q_ 65 59 true (.load false none l_ (.t 64)),q_ 66 59 true (.bin .eql .num (.t 65) (i_ 2)),q_ 67 50 false (.pick (.t 59) (.t 66) (.c (.b false))),o_ 68 (.pick (.t 50) (.c (.b true)) (.t 67)),c_ 69 75 [.t 40,.t 68]] (.opsD [(o_ 70 (.load false (some 7) (s_ 8) (.t 7)),false,[]),(o_ 71 (.buildSlice (.agg [(.i .i64 0),(.i .i64 0),(.i .i64 0),(.s []),.nil,(.i .i32 0),(.s []),.nil]) 1 [(0,(.t 70))]),false,[]),(a_ 72 5 0,false,[]),(z_ (.store (some 5) l_ (.t 72) (i_ 16)),false,[]),(a_ 73 5 1,true,[]),(z_ (.store (some 5) l_ (.t 73) (.mv 71)),true,[])]))))))))))) (k_ [v_ 95 0,c_ 96 269 [.mv 95]] (k_ [o_ 97 (.load false (some 5) (s_ 4) (.t 5)),z_ (.store (some 4) (s_ 4) (.t 4) (.t 97))] (.ret)))))))))),none,none⟩
def qcI:Fn:=⟨1,[.t 2],true,(k_ [o_ 1 (.box true (.t 0)),o_ 2 (.mov (.c (.b false)))] (.seq (k_ [a_ 3 1 0,d_ 4 1 3] (.block 0 [] (.seq (k_ [g_ 6 .eql 4 1,m_ 5 6] (.cond (.t 5) (.skip) (k_ [g_ 7 .eql 4 2,m_ 5 7] (.cond (.t 5) (.skip) (k_ [g_ 8 .eql 4 3,m_ 5 8] (.cond (.t 5) (.skip) (.ops [g_ 9 .eql 4 4,m_ 5 9]))))))) (.cond (.t 5) (k_ [a_ 10 1 1,d_ 11 1 10,g_ 12 .eql 11 0,m_ 13 12,q_ 14 13 true (.fieldAddr (.t 1) 2 l_),q_ 15 13 true (.load false (some 1) l_ (.t 14)),q_ 16 13 true (.bin .eql .num (.t 15) (.c (.s []))),o_ 17 (.pick (.t 13) (.t 16) (.c (.b false))),m_ 18 17,q_ 19 18 true (.fieldAddr (.t 1) 3 l_),q_ 20 18 true (.load false (some 1) l_ (.t 19)),q_ 21 18 true (.bi .lenL [.t 20]),q_ 22 18 true (.bin .eql .num (.t 21) (i_ 0)),o_ 23 (.pick (.t 18) (.t 22) (.c (.b false))),m_ 2 23] (.ret)) (k_ [g_ 25 .eql 4 7,m_ 24 25] (.cond (.t 24) (k_ [a_ 26 1 1,d_ 27 1 26,g_ 28 .geq 27 1,m_ 29 28,q_ 30 29 true (.fieldAddr (.t 1) 1 l_),q_ 31 29 true (.load false (some 1) l_ (.t 30)),q_ 32 29 true (.bin .leq .num (.t 31) (i_ 1024)),o_ 33 (.pick (.t 29) (.t 32) (.c (.b false))),m_ 34 33,q_ 35 34 true (.fieldAddr (.t 1) 2 l_),q_ 36 34 true (.load false (some 1) l_ (.t 35)),q_ 37 34 true (.bin .eql .num (.t 36) (.c (.s []))),o_ 38 (.pick (.t 34) (.t 37) (.c (.b false))),m_ 39 38,q_ 40 39 true (.fieldAddr (.t 1) 3 l_),q_ 41 39 true (.load false (some 1) l_ (.t 40)),q_ 42 39 true (.bi .lenL [.t 41]),q_ 43 39 true (.bin .eql .num (.t 42) (i_ 1)),o_ 44 (.pick (.t 39) (.t 43) (.c (.b false))),m_ 45 44,q_ 46 45 true (.fieldAddr (.t 1) 3 l_),q_ 47 45 true (.load false (some 1) l_ (.t 46)),q_ 48 45 true (.indexAddr (.t 47) (i_ 0) 4 none),q_ 49 45 true (.load false none (s_ 4) (.t 48)),q_ 50 45 true (.call (.f 216) [.t 49]),o_ 51 (.pick (.t 45) (.t 50) (.c (.b false))),m_ 2 51] (.ret)) (.seq (k_ [g_ 53 .eql 4 8,m_ 52 53] (.cond (.t 52) (.skip) (.ops [g_ 54 .eql 4 9,m_ 52 54]))) (.cond (.t 52) (k_ [a_ 55 1 1,d_ 56 1 55,g_ 57 .eql 56 0,m_ 58 57,q_ 59 58 true (.fieldAddr (.t 1) 2 l_),q_ 60 58 true (.load false (some 1) l_ (.t 59)),q_ 61 58 true (.bin .neq .num (.t 60) (.c (.s []))),o_ 62 (.pick (.t 58) (.t 61) (.c (.b false))),m_ 63 62,q_ 64 63 true (.fieldAddr (.t 1) 3 l_),q_ 65 63 true (.load false (some 1) l_ (.t 64)),q_ 66 63 true (.bi .lenL [.t 65]),q_ 67 63 true (.bin .eql .num (.t 66) (i_ 0)),o_ 68 (.pick (.t 63) (.t 67) (.c (.b false))),m_ 2 68] (.ret)) (.skip))))))))) (k_ [o_ 2 (.mov (.c (.b false)))] (.ret)))),none,none⟩
def qlm:C:=(k_ [e_ 8 .lss 7 6] (.seq (.cond (.t 8) (.skip) (.exit 0)) (.seq (.block 1 [1,5,6,7] (k_ [x_ 9 5 7 8,o_ 10 (.load false none (s_ 8) (.t 9)),o_ 4 (.alloc true [(.i .i64 0),(.i .i64 0),(.i .i64 0),(.s []),.nil,(.i .i32 0),(.s []),.nil]),z_ (.store (some 4) (s_ 8) (.t 4) (.t 10))] (.opsD [(h_ 11 1,false,[]),(o_ 12 (.load false (some 4) (s_ 8) (.t 4)),false,[]),(c_ 13 229 [.t 12],false,[]),(o_ 14 (.bi .max [.t 11,(.t 13)]),true,[]),(z_ (.store none l_ (.t 1) (.t 14)),true,[])]))) (.ops [g_ 15 .add 7 1,m_ 7 15]))))
def qlJ:C:=.loop [1,5,6,7] qlm
def qjg:Fn:=⟨2,[],false,(k_ [m_ 5 0,n_ 6 5,o_ 7 (.mov (i_ 0))] (.block 0 [] (qlJ))),none,none⟩
def qnk:C:=(k_ [e_ 10 .lss 9 8] (.seq (.cond (.t 10) (.skip) (.exit 0)) (.seq (.block 1 [3,7,8,9] (k_ [m_ 11 9,x_ 12 7 9 8,o_ 13 (.load false none (s_ 8) (.t 12)),o_ 5 (.alloc true [(.i .i64 0),(.i .i64 0),(.i .i64 0),(.s []),.nil,(.i .i32 0),(.s []),.nil]),m_ 4 11,z_ (.store (some 5) (s_ 8) (.t 5) (.t 13))] (.ops [m_ 14 3,o_ 15 (.load false (some 5) (s_ 8) (.t 5)),c_ 16 229 [.t 15],m_ 17 4,e_ 18 .add 16 17,o_ 19 (.bi .max [.t 14,(.t 18)]),m_ 3 19]))) (.ops [g_ 20 .add 9 1,m_ 9 20]))))
def qno:C:=.loop [3,7,8,9] qnk
def qmV:C:=(k_ [m_ 21 3,m_ 2 21] (.ret))
def qmf:Fn:=⟨1,[.t 2],true,(k_ [o_ 1 (.box true (.t 0)),o_ 2 (.mov (i_ 0))] (k_ [o_ 3 (.mov (i_ 1))] (.seq (k_ [a_ 6 1 7,d_ 7 1 6,n_ 8 7,o_ 9 (.mov (i_ 0))] (.block 0 [3] (qno))) (qmV)))),none,none⟩
def qjc:Fn:=⟨2,[],false,(k_ [o_ 2 (.box true (.t 0))] (.ops [h_ 3 1,a_ 4 2 1,d_ 5 2 4,o_ 6 (.call (.t 3) [.t 5])])),none,none⟩
def qn1:C:=(k_ [e_ 25 .lss 24 23] (.seq (.cond (.t 25) (.skip) (.exit 2)) (.seq (.block 3 [1,2,7,12,13,14,22,23,24] (k_ [x_ 26 22 24 8,o_ 27 (.load false none (s_ 8) (.t 26)),o_ 9 (.alloc true [(.i .i64 0),(.i .i64 0),(.i .i64 0),(.s []),.nil,(.i .i32 0),(.s []),.nil]),z_ (.store (some 9) (s_ 8) (.t 9) (.t 27))] (.ops [o_ 28 (.load false (some 9) (s_ 8) (.t 9)),m_ 29 2,c_ 30 283 [.t 28,.t 29]]))) (.ops [g_ 31 .add 24 1,m_ 24 31]))))
def qm5:C:=.loop [1,2,7,12,13,14,22,23,24] qn1
def qnP:C:=(k_ [e_ 36 .lss 35 34] (.seq (.cond (.t 36) (.skip) (.exit 4)) (.seq (.block 5 [1,2,12,13,14,33,34,35] (k_ [x_ 37 33 35 1,h_ 38 37,m_ 11 38] (.ops [v_ 39 11,m_ 40 1,m_ 41 2,c_ 42 231 [.mv 39,.t 40,.t 41]]))) (.ops [g_ 43 .add 35 1,m_ 35 43]))))
def qng:C:=.loop [1,2,12,13,14,33,34,35] qnP
def qmQ:C:=(k_ [a_ 32 7 2,d_ 33 7 32,n_ 34 33,o_ 35 (.mov (i_ 0))] (.block 4 [1,2,12,13,14] (qng)))
def qnh:C:=.ops [g_ 44 .add 14 1,m_ 14 44]
def qmY:C:=(k_ [e_ 15 .lss 14 13] (.seq (.cond (.t 15) (.skip) (.exit 0)) (.seq (.block 1 [1,2,12,13,14] (k_ [x_ 16 12 14 4,o_ 17 (.load false none (s_ 4) (.t 16)),o_ 7 (.alloc true [(.i .i64 0),.nil,.nil,.nil]),z_ (.store (some 7) (s_ 4) (.t 7) (.t 17))] (k_ [m_ 18 1,o_ 19 (.load false (some 7) (s_ 4) (.t 7)),o_ 20 (.call (.t 18) [.t 19])] (.seq (k_ [a_ 21 7 1,d_ 22 7 21,n_ 23 22,o_ 24 (.mov (i_ 0))] (.block 2 [1,2,7,12,13,14] (qm5))) (qmQ))))) (qnh))))
def qnD:C:=.loop [1,2,12,13,14] qmY
def qlP:Fn:=⟨3,[],false,(k_ [m_ 12 0,n_ 13 12,o_ 14 (.mov (i_ 0))] (.block 0 [] (qnD))),none,none⟩
def qiX:Fn:=⟨1,[],false,.ops [o_ 1 (.box true (.t 0))],none,none⟩
def zX:C:=(k_ [e_ 12 .lss 11 10] (.seq (.cond (.t 12) (.skip) (.exit 0)) (.seq (.block 1 [0,3,9,10,11] (k_ [x_ 13 9 11 1,h_ 14 13,m_ 5 14] (k_ [m_ 15 3,m_ 16 5,n_ 17 16,e_ 18 .add 15 17,m_ 3 18] (k_ [m_ 19 3,g_ 20 .lss 19 0] (.cond (.t 20) (.ops [o_ 21 (.mkIfc 9 (.c (.s [108,101,110,32,111,117,116,32,111,102,32,114,97,110,103,101]))),z_ (.panic (.t 21))]) (.skip)))))) (.ops [g_ 22 .add 11 1,m_ 11 22]))))
def zU:C:=.loop [0,3,9,10,11] zX
def zW:C:=(k_ [e_ 28 .lss 27 26] (.seq (.cond (.t 28) (.skip) (.exit 2)) (.seq (.block 3 [6,25,26,27] (k_ [x_ 29 25 27 1,h_ 30 29,m_ 8 30] (.ops [v_ 31 6,m_ 32 8,o_ 33 (.appendR (s_ 8) 184 (.t 31) (.t 32)),v_ 6 33]))) (.ops [g_ 34 .add 27 1,m_ 27 34]))))
def zV:C:=.loop [6,25,26,27] zW
def zY:C:=(k_ [z_ (.fz 6),m_ 35 6,m_ 2 35] (.ret))
def zZ:C:=(k_ [v_ 23 3,o_ 24 (.call (.f 284) [(.c .nil),(.mv 23)]),v_ 6 24] (.seq (k_ [m_ 25 0,n_ 26 25,o_ 27 (.mov (i_ 0))] (.block 2 [6] (zV))) (zY)))
def kv:Fn:=⟨1,[.t 2],true,(k_ [o_ 2 (.mov (.c .nil))] (k_ [o_ 3 (.mov (i_ 0))] (.seq (k_ [m_ 9 0,n_ 10 9,o_ 11 (.mov (i_ 0))] (.block 0 [0,3] (zU))) (zZ)))),none,none⟩
def qi0:Fn:=⟨2,[.t 4,(.t 5)],false,(k_ [o_ 2 (.box true (.t 0)),o_ 4 (.mov (i_ 0)),o_ 5 (.mov (.c (.b false)))] (k_ [m_ 8 1,o_ 9 (.mkMap),o_ 10 (.build [.nm,.nm] [(0,1,(.t 8)),(1,1,(.t 9))]),o_ 11 (.box false (.t 10)),m_ 6 11] (k_ [v_ 12 6,o_ 13 (.load false (some 2) (s_ 4) (.t 2)),c_ 14 285 [.mv 12,.t 13],v_ 7 14] (k_ [m_ 15 7,o_ 16 (.bi .max [.t 15,(i_ 0)]),m_ 17 7,g_ 18 .geq 17 0,m_ 4 16,m_ 5 18] (.ret))))),none,none⟩
def qhE:C:=(k_ [e_ 16 .lss 15 14] (.seq (.cond (.t 16) (.skip) (.exit 0)) (.seq (.block 1 [1,2,3,13,14,15] (k_ [x_ 17 13 15 10,o_ 18 (.load false none (s_ 10) (.t 17)),o_ 7 (.alloc true [(.s []),(.b false),(.i .i64 0),(.i .i64 0),(.i .i64 0),(.s []),.nil,(.i .i32 0),(.s []),.nil]),z_ (.store (some 7) (s_ 10) (.t 7) (.t 18))] (.ops [o_ 19 (.fieldAddr (.t 7) 2 (s_ 8)),o_ 20 (.load false (some 7) (s_ 8) (.t 19)),m_ 21 2,c_ 22 283 [.t 20,.t 21]]))) (.ops [g_ 23 .add 15 1,m_ 15 23]))))
def qg1:C:=.loop [1,2,3,13,14,15] qhE
def qhj:C:=(k_ [e_ 40 .lss 39 38] (.seq (.cond (.t 40) (.skip) (.exit 4)) (.seq (.block 5 [1,2,3,25,26,27,37,38,39] (k_ [x_ 41 37 39 8,o_ 42 (.load false none (s_ 8) (.t 41)),o_ 11 (.alloc true [(.i .i64 0),(.i .i64 0),(.i .i64 0),(.s []),.nil,(.i .i32 0),(.s []),.nil]),z_ (.store (some 11) (s_ 8) (.t 11) (.t 42))] (.ops [o_ 43 (.load false (some 11) (s_ 8) (.t 11)),m_ 44 2,c_ 45 283 [.t 43,.t 44]]))) (.ops [g_ 46 .add 39 1,m_ 39 46]))))
def qhB:C:=.loop [1,2,3,25,26,27,37,38,39] qhj
def qhs:C:=.ops [g_ 47 .add 27 1,m_ 27 47]
def qhd:C:=(k_ [e_ 28 .lss 27 26] (.seq (.cond (.t 28) (.skip) (.exit 2)) (.seq (.block 3 [1,2,3,25,26,27] (k_ [x_ 29 25 27 10,o_ 30 (.load false none (s_ 10) (.t 29)),o_ 9 (.alloc true [(.s []),(.b false),.nil,(.i .i64 0),(.i .i64 0),(.s []),.nil,.nil,.nil,.nil]),z_ (.store (some 9) (s_ 10) (.t 9) (.t 30))] (k_ [a_ 31 9 8,d_ 32 9 31,m_ 33 1,m_ 34 2,c_ 35 231 [.t 32,.t 33,.t 34]] (k_ [a_ 36 9 9,d_ 37 9 36,n_ 38 37,o_ 39 (.mov (i_ 0))] (.block 4 [1,2,3,25,26,27] (qhB)))))) (qhs))))
def qhX:C:=.loop [1,2,3,25,26,27] qhd
def qh1:C:=.ops [a_ 48 3 7,d_ 49 3 48,v_ 50 1,v_ 51 2,c_ 52 231 [.t 49,.mv 50,.mv 51]]
def qhq:C:=(.seq (k_ [a_ 24 3 6,d_ 25 3 24,n_ 26 25,o_ 27 (.mov (i_ 0))] (.block 2 [1,2,3] (qhX))) (qh1))
def qdU:Fn:=⟨3,[],false,(k_ [o_ 3 (.box true (.t 0))] (.seq (k_ [a_ 12 3 2,d_ 13 3 12,n_ 14 13,o_ 15 (.mov (i_ 0))] (.block 0 [1,2,3] (qg1))) (qhq))),none,none⟩
def qh0:Fn:=⟨2,[],false,(k_ [o_ 2 (.box true (.t 0))] (.ops [h_ 3 1,a_ 4 2 3,d_ 5 2 4,n_ 6 5,o_ 7 (.bin .add .num (i_ 1) (.t 6)),e_ 8 .add 3 7,z_ (.store none l_ (.t 1) (.t 8))])),none,none⟩
def qhc:Fn:=⟨2,[],false,(k_ [o_ 2 (.box true (.t 0))] (.ops [h_ 3 1,a_ 4 2 6,d_ 5 2 4,o_ 6 (.bi .lenS [.t 5]),o_ 7 (.bin .add .num (i_ 1) (.t 6)),e_ 8 .add 3 7,z_ (.store none l_ (.t 1) (.t 8))])),none,none⟩
def jn:C:=(.seq (k_ [m_ 7 3,g_ 8 .geq 7 0] (.cond (.t 8) (.skip) (.exit 0))) (.seq (.block 1 [0,1,3] (k_ [m_ 11 0,m_ 12 3,h_ 13 1,m_ 14 3,x_ 15 13 14 4,o_ 16 (.load false none (s_ 4) (.t 15)),o_ 17 (.call (.t 11) [.t 12,(.t 16)]),u_ 18 17] (.cond (.t 18) (.ret) (.skip)))) (.ops [m_ 9 3,g_ 10 .sub 9 1,m_ 3 10])))
def jo:C:=.loop [0,1,3] jn
def kI:Fn:=⟨2,[],false,(k_ [h_ 4 1,n_ 5 4,g_ 6 .sub 5 1,m_ 3 6] (.block 0 [] (jo))),none,none⟩
def qeD:Fn:=⟨2,[],false,(k_ [o_ 3 (.box true (.t 1))] (k_ [a_ 6 3 0,d_ 7 3 6] (.block 0 [] (k_ [g_ 12 .eql 7 0,m_ 11 12] (.cond (.t 11) (.seq (.opsD [(v_ 13 0,false,[]),(a_ 14 3 1,false,[]),(d_ 15 3 14,false,[]),(o_ 16 (.indexAddr (.t 15) (i_ 0) 8 none),false,[]),(o_ 17 (.load false none (s_ 8) (.t 16)),false,[]),(a_ 18 3 1,false,[]),(d_ 19 3 18,false,[]),(o_ 20 (.indexAddr (.t 19) (i_ 1) 8 none),false,[]),(o_ 21 (.load false none (s_ 8) (.t 20)),false,[])]) (.ops [c_ 22 286 [.mv 13,.t 17,.t 21]])) (k_ [g_ 24 .eql 7 1,m_ 23 24] (.cond (.t 23) (.ops [v_ 25 0,a_ 26 3 1,d_ 27 3 26,o_ 28 (.indexAddr (.t 27) (i_ 0) 8 none),o_ 29 (.load false none (s_ 8) (.t 28)),c_ 30 251 [.mv 25,.t 29]]) (k_ [g_ 32 .eql 7 2,m_ 31 32] (.cond (.t 31) (.seq (.opsD [(m_ 33 0,false,[]),(o_ 34 (.load false (some 3) (s_ 4) (.t 3)),false,[]),(m_ 35 0,false,[]),(c_ 36 100 [.mv 35],true,[])]) (.ops [c_ 37 287 [.t 33,.t 34,.t 36]])) (k_ [g_ 39 .eql 7 3,m_ 38 39] (.cond (.t 38) (k_ [m_ 40 0,c_ 41 245 [.t 40],v_ 4 41] (.ops [v_ 42 0,o_ 43 (.load false (some 3) (s_ 4) (.t 3)),v_ 44 4,c_ 45 287 [.mv 42,.t 43,.mv 44]])) (k_ [g_ 47 .eql 7 4,m_ 46 47] (.cond (.t 46) (k_ [m_ 48 0,c_ 49 245 [.t 48],v_ 5 49] (k_ [m_ 50 0,a_ 51 3 2,d_ 52 3 51,o_ 53 (.indexAddr (.t 52) (i_ 0) 1 none),h_ 54 53,c_ 55 162 [.t 50,.t 54]] (k_ [m_ 56 0,a_ 57 3 1,d_ 58 3 57,o_ 59 (.indexAddr (.t 58) (i_ 0) 8 none),o_ 60 (.load false none (s_ 8) (.t 59)),c_ 61 176 [.t 56,.t 60]] (.ops [v_ 62 0,v_ 63 5,c_ 64 244 [.mv 62,(i_ 26),.mv 63]])))) (k_ [g_ 66 .eql 7 5,m_ 65 66] (.cond (.t 65) (.ops [v_ 67 0,o_ 68 (.load false (some 3) (s_ 4) (.t 3)),c_ 69 288 [.mv 67,.t 68]]) (k_ [g_ 71 .eql 7 6,m_ 70 71] (.cond (.t 70) (.ops [v_ 72 0,o_ 73 (.load false (some 3) (s_ 4) (.t 3)),c_ 74 289 [.mv 72,.t 73]]) (.seq (k_ [g_ 76 .eql 7 7,m_ 75 76] (.cond (.t 75) (.skip) (k_ [g_ 77 .eql 7 8,m_ 75 77] (.cond (.t 75) (.skip) (k_ [g_ 78 .eql 7 9,m_ 75 78] (.cond (.t 75) (.skip) (.ops [g_ 79 .eql 7 10,m_ 75 79]))))))) (.cond (.t 75) (.ops [v_ 80 0,o_ 81 (.load false (some 3) (s_ 4) (.t 3)),c_ 82 290 [.mv 80,.t 81]]) (.ops [v_ 8 0,o_ 9 (.load false (some 3) (s_ 4) (.t 3)),c_ 10 291 [.mv 8,.t 9]])))))))))))))))))))),none,none⟩
def qh8:C:=(k_ [e_ 18 .lss 17 16] (.seq (.cond (.t 18) (.skip) (.exit 0)) (.seq (.block 1 [0,16,17] (k_ [m_ 19 17,m_ 8 19] (.ops [m_ 20 0,v_ 21 8,c_ 22 175 [.t 20,.mv 21]]))) (.ops [g_ 23 .add 17 1,m_ 17 23]))))
def qhJ:C:=.loop [0,16,17] qh8
def qea:Fn:=⟨4,[],false,(k_ [m_ 9 0,v_ 10 1,c_ 11 164 [.t 9,.mv 10]] (k_ [m_ 12 0,m_ 13 2,o_ 14 (.conv .i32 (.t 13)),c_ 15 165 [.t 12,(i_ 28),.t 14]] (k_ [m_ 16 3,o_ 17 (.mov (i_ 0))] (.block 0 [] (qhJ))))),none,none⟩
def qeQ:Fn:=⟨2,[],false,(k_ [m_ 4 0,m_ 5 1,o_ 6 (.conv .i32 (.t 5)),c_ 7 165 [.t 4,(i_ 5),.t 6]] (.ops [v_ 8 0,o_ 9 (.buildSlice (.i .i64 0) 1 [(0,(i_ 6))]),c_ 10 159 [.mv 8,.t 9]])),none,none⟩
def qdX:Fn:=⟨1,[],false,.ops [v_ 2 0,o_ 3 (.buildSlice (.i .i64 0) 1 [(0,(i_ 29))]),c_ 4 159 [.mv 2,.t 3]],none,none⟩
def qey:Fn:=⟨3,[],false,(.seq (.opsD [(m_ 6 0,false,[]),(m_ 7 0,false,[]),(o_ 8 (.nilCheck (.t 7)),false,[]),(a_ 9 8 2,false,[]),(h_ 10 9,false,[]),(m_ 11 0,false,[]),(o_ 12 (.nilCheck (.t 11)),false,[]),(a_ 13 12 0,false,[]),(h_ 14 13,false,[]),(n_ 15 14,false,[]),(o_ 16 (.buildSlice (.i .i64 0) 1 [(0,(.t 15))]),false,[]),(o_ 17 (.appendR l_ 8 (.t 10) (.t 16)),true,[]),(o_ 18 (.nilCheck (.t 6)),true,[]),(a_ 19 18 2,true,[]),(z_ (.store none l_ (.t 19) (.mv 17)),true,[])]) (.ops [v_ 20 0,v_ 21 1,m_ 22 2,o_ 23 (.conv .i32 (.t 22)),c_ 24 165 [.mv 20,.mv 21,.t 23]])),none,none⟩
def qe1:Fn:=⟨1,[.t 2],true,(k_ [o_ 2 (.mov (i_ 0))] (k_ [m_ 4 0,c_ 5 100 [.t 4],v_ 3 5] (k_ [v_ 6 0,m_ 7 3,c_ 8 164 [.mv 6,.t 7]] (k_ [m_ 9 3,m_ 2 9] (.ret))))),none,none⟩
def qf6:Fn:=⟨2,[],false,(k_ [m_ 4 1,g_ 5 .neq 4 0] (.cond (.t 5) (k_ [m_ 6 0,m_ 7 1,o_ 8 (.conv .i32 (.t 7)),c_ 9 158 [.t 6,.t 8]] (.ops [v_ 10 0,o_ 11 (.buildSlice (.i .i64 0) 1 [(0,(i_ 9))]),c_ 12 159 [.mv 10,.t 11]])) (.skip))),none,none⟩
def qdQ:Fn:=⟨1,[],false,(k_ [m_ 2 0,o_ 3 (.call (.f 158) [.t 2,(.c (.i .i32 (-32)))])] (k_ [m_ 4 0,o_ 5 (.buildSlice (.i .i64 0) 1 [(0,(i_ 15))]),c_ 6 159 [.t 4,.t 5]] (k_ [m_ 7 0,o_ 8 (.call (.f 158) [.t 7,(.c (.i .i32 0))])] (.ops [v_ 9 0,o_ 10 (.buildSlice (.i .i64 0) 1 [(0,(i_ 22))]),c_ 11 159 [.mv 9,.t 10]])))),none,none⟩
def qhU:C:=(k_ [e_ 8 .lss 7 6] (.seq (.cond (.t 8) (.skip) (.exit 0)) (.seq (.block 1 [0,5,6,7] (k_ [x_ 9 5 7 1,h_ 10 9,m_ 3 10] (k_ [m_ 11 0,m_ 12 3,o_ 13 (.conv .i32 (.t 12)),c_ 14 158 [.t 11,.t 13]] (.ops [m_ 15 0,o_ 16 (.buildSlice (.i .i64 0) 1 [(0,(i_ 33))]),c_ 17 159 [.t 15,.t 16]])))) (.ops [g_ 18 .add 7 1,m_ 7 18]))))
def qhT:C:=.loop [0,5,6,7] qhU
def qhA:C:=.ops [v_ 19 0,c_ 20 243 [.mv 19]]
def qdY:Fn:=⟨1,[],false,(.seq (k_ [o_ 4 (.buildR l_ (.i .u8 0) 10 [(0,(.c (.i .u8 50))),(1,(.c (.i .u8 49))),(2,(.c (.i .u8 52))),(3,(.c (.i .u8 55))),(4,(.c (.i .u8 52))),(5,(.c (.i .u8 56))),(6,(.c (.i .u8 51))),(7,(.c (.i .u8 54))),(8,(.c (.i .u8 52))),(9,(.c (.i .u8 56)))]),o_ 5 (.cvtR (.t 4)),n_ 6 5,o_ 7 (.mov (i_ 0))] (.block 0 [0] (qhT))) (qhA)),none,none⟩
def qeN:Fn:=⟨3,[],false,(k_ [m_ 6 0,m_ 7 1,c_ 8 242 [.t 6,.t 7]] (k_ [m_ 9 0,v_ 10 2,c_ 11 246 [.t 9,.mv 10]] (.ops [v_ 12 0,v_ 13 1,c_ 14 175 [.mv 12,.mv 13]]))),none,none⟩
def qdK:Fn:=⟨2,[],false,(k_ [o_ 3 (.box true (.t 1))] (k_ [a_ 4 3 0,d_ 5 3 4] (.block 0 [] (k_ [g_ 7 .eql 5 1,m_ 6 7] (.cond (.t 6) (.ops [v_ 8 0,a_ 9 3 6,d_ 10 3 9,c_ 11 292 [.mv 8,.t 10]]) (k_ [g_ 13 .eql 5 2,m_ 12 13] (.cond (.t 12) (.ops [v_ 14 0,o_ 15 (.load false (some 3) (s_ 8) (.t 3)),c_ 16 293 [.mv 14,.t 15]]) (k_ [g_ 18 .eql 5 3,m_ 17 18] (.cond (.t 17) (k_ [m_ 19 0,a_ 20 3 7,d_ 21 3 20,o_ 22 (.indexAddr (.t 21) (i_ 0) 8 none),o_ 23 (.load false none (s_ 8) (.t 22)),c_ 24 250 [.t 19,.t 23]] (.seq (.opsD [(m_ 25 0,false,[]),(m_ 26 0,false,[]),(a_ 27 3 7,false,[]),(d_ 28 3 27,false,[]),(o_ 29 (.indexAddr (.t 28) (i_ 0) 8 none),false,[]),(o_ 30 (.fieldAddr (.t 29) 1 (s_ 4)),false,[]),(a_ 31 30 2,false,[]),(h_ 32 31,false,[]),(a_ 33 3 6,false,[]),(d_ 34 3 33,false,[]),(c_ 35 294 [.mv 26,.t 32,.t 34],true,[])]) (.ops [c_ 36 246 [.t 25,.t 35]]))) (k_ [g_ 38 .eql 5 4,m_ 37 38] (.cond (.t 37) (k_ [m_ 39 0,a_ 40 3 7,d_ 41 3 40,o_ 42 (.indexAddr (.t 41) (i_ 0) 8 none),o_ 43 (.load false none (s_ 8) (.t 42)),c_ 44 176 [.t 39,.t 43]] (k_ [m_ 45 0,o_ 46 (.buildSlice (.i .i64 0) 1 [(0,(i_ 2))]),c_ 47 159 [.t 45,.t 46]] (k_ [m_ 48 0,c_ 49 173 [.t 48,(i_ 3)]] (.ops [v_ 50 0,c_ 51 246 [.mv 50,(i_ 1)]])))) (.skip)))))))))))),none,none⟩
def qcE:Fn:=⟨3,[],false,(k_ [o_ 4 (.box true (.t 1))] (.seq (k_ [o_ 8 (.load false (some 4) (s_ 8) (.t 4)),c_ 9 295 [.t 8],u_ 10 9] (.cond (.t 10) (k_ [m_ 11 2,o_ 12 (.load false (some 4) (s_ 8) (.t 4)),o_ 13 (.call (.t 11) [.t 12])] (.ret)) (.skip))) (k_ [m_ 14 0,o_ 15 (.nilCheck (.t 14)),a_ 16 15 26,h_ 17 16,m_ 6 17] (k_ [m_ 18 0,c_ 19 296 [.t 18],v_ 7 19] (k_ [m_ 20 0,m_ 21 7,c_ 22 175 [.t 20,.t 21]] (k_ [m_ 23 2,o_ 24 (.load false (some 4) (s_ 8) (.t 4)),o_ 25 (.call (.t 23) [.t 24])] (k_ [m_ 26 0,v_ 27 7,c_ 28 242 [.t 26,.mv 27]] (k_ [m_ 29 0,o_ 30 (.buildSlice (.i .i64 0) 1 [(0,(i_ 4))]),c_ 31 159 [.t 29,.t 30]] (.ops [m_ 32 0,m_ 33 6,o_ 34 (.nilCheck (.t 32)),a_ 35 34 26,z_ (.store none l_ (.t 35) (.t 33))]))))))))),none,none⟩
def qf9:Fn:=⟨2,[],false,(k_ [o_ 3 (.box true (.t 1))] (.seq (k_ [o_ 4 (.fieldAddr (.t 3) 1 (s_ 4)),a_ 5 4 0,d_ 6 3 5,g_ 7 .eql 6 4] (.cond (.t 7) (k_ [v_ 8 0,a_ 9 3 0,d_ 10 3 9,c_ 11 298 [.mv 8,.t 10]] (.ret)) (.skip))) (k_ [a_ 12 3 0,d_ 13 3 12] (.block 0 [] (k_ [g_ 19 .eql 13 9,m_ 18 19] (.cond (.t 18) (.ops [v_ 20 0,o_ 21 (.buildSlice (.i .i64 0) 1 [(0,(i_ 9))]),c_ 22 159 [.mv 20,.t 21]]) (k_ [g_ 24 .eql 13 10,m_ 23 24] (.cond (.t 23) (.ops [v_ 25 0,o_ 26 (.buildSlice (.i .i64 0) 1 [(0,(i_ 10))]),c_ 27 159 [.mv 25,.t 26]]) (k_ [g_ 29 .eql 13 11,m_ 28 29] (.cond (.t 28) (.ops [v_ 30 0,o_ 31 (.buildSlice (.i .i64 0) 1 [(0,(i_ 11))]),c_ 32 159 [.mv 30,.t 31]]) (.seq (k_ [g_ 34 .eql 13 12,m_ 33 34] (.cond (.t 33) (.skip) (.ops [g_ 35 .eql 13 13,m_ 33 35]))) (.cond (.t 33) (k_ [m_ 36 0,o_ 37 (.buildSlice (.i .i64 0) 1 [(0,(i_ 2))]),c_ 38 159 [.t 36,.t 37]] (k_ [m_ 39 0,o_ 40 (.call (.f 158) [.t 39,(.c (.i .i32 0))])] (k_ [m_ 41 0,o_ 42 (.buildSlice (.i .i64 0) 2 [(0,(i_ 4)),(1,(i_ 23))]),c_ 43 159 [.t 41,.t 42]] (k_ [m_ 44 0,c_ 45 173 [.t 44,(i_ 4)]] (k_ [a_ 46 3 0,d_ 47 3 46,g_ 48 .eql 47 12] (.cond (.t 48) (.ops [v_ 49 0,o_ 50 (.buildSlice (.i .i64 0) 1 [(0,(i_ 12))]),c_ 51 159 [.mv 49,.t 50]]) (.ops [v_ 52 0,o_ 53 (.buildSlice (.i .i64 0) 1 [(0,(i_ 13))]),c_ 54 159 [.mv 52,.t 53]]))))))) (k_ [g_ 56 .eql 13 22,m_ 55 56] (.cond (.t 55) (.ops [m_ 57 0,m_ 58 0,o_ 59 (.nilCheck (.t 58)),o_ 60 (.fieldAddr (.t 59) 18 (s_ 7)),a_ 61 60 3,h_ 62 61,c_ 63 244 [.t 57,(i_ 27),.t 62]]) (k_ [g_ 65 .eql 13 29,m_ 64 65] (.cond (.t 64) (.ops [v_ 66 0,o_ 67 (.buildSlice (.i .i64 0) 1 [(0,(i_ 19))]),c_ 68 159 [.mv 66,.t 67]]) (k_ [g_ 70 .eql 13 30,m_ 69 70] (.cond (.t 69) (.ops [v_ 71 0,o_ 72 (.buildSlice (.i .i64 0) 1 [(0,(i_ 20))]),c_ 73 159 [.mv 71,.t 72]]) (k_ [g_ 75 .eql 13 31,m_ 74 75] (.cond (.t 74) (.ops [v_ 76 0,o_ 77 (.buildSlice (.i .i64 0) 1 [(0,(i_ 21))]),c_ 78 159 [.mv 76,.t 77]]) (.ops [v_ 14 0,a_ 15 3 0,d_ 16 3 15,c_ 17 299 [.mv 14,.t 16]]))))))))))))))))))))),none,none⟩
def qi2:Fn:=⟨1,[.t 2],true,(k_ [o_ 2 (.mov (.c (.b false)))] (k_ [m_ 3 0,g_ 4 .geq 3 0,m_ 5 4,q_ 6 5 true (.mov (.t 0)),q_ 7 5 true (.bin .lss .num (.t 6) (i_ 16)),o_ 8 (.pick (.t 5) (.t 7) (.c (.b false))),m_ 2 8] (.ret))),none,none⟩
def qi9:Fn:=⟨2,[.t 4],true,(k_ [o_ 4 (.mov (.c (.b false)))] (k_ [m_ 5 0,m_ 6 1,o_ 7 (.bin .sub .num (.t 6) (.c (.i .u64 1))),o_ 8 (.bin .shl .num (.c (.i .i32 (-1))) (.t 7)),e_ 9 .geq 5 8,m_ 10 9,q_ 11 10 true (.mov (.t 0)),q_ 12 10 true (.mov (.t 1)),q_ 13 10 true (.bin .sub .num (.t 12) (.c (.i .u64 1))),q_ 14 10 true (.bin .shl .num (.c (.i .i32 1)) (.t 13)),q_ 15 10 true (.bin .lss .num (.t 11) (.t 14)),o_ 16 (.pick (.t 10) (.t 15) (.c (.b false))),m_ 4 16] (.ret))),none,none⟩
def qnY:Fn:=⟨1,[.t 2],true,(k_ [o_ 2 (.mov (.c (.i .u64 0)))] (k_ [m_ 3 0,o_ 4 (.conv .u64 (.t 3)),o_ 5 (.bin .rem .num (.t 4) (.c (.i .u64 32))),m_ 2 5] (.ret))),none,none⟩
def qae:Fn:=⟨2,[.t 4],true,(k_ [o_ 3 (.box true (.t 1)),o_ 4 (.mov (.c (.i .u32 0)))] (.seq (k_ [a_ 5 3 1,d_ 6 3 5,m_ 7 6,q_ 8 7 true (.mov (.t 0)),q_ 9 7 true (.nilCheck (.t 8)),q_ 10 7 true (.fieldAddr (.t 9) 22 l_),q_ 11 7 true (.load false none l_ (.t 10)),o_ 12 (.pick (.t 7) (.t 11) (.c (.b false)))] (.cond (.t 12) (k_ [o_ 4 (.mov (.c (.i .u32 1)))] (.ret)) (.skip))) (k_ [o_ 4 (.mov (.c (.i .u32 0)))] (.ret)))),none,none⟩
def qd1:Fn:=⟨3,[.t 6,(.t 7)],false,(k_ [o_ 6 (.mov (.c (.i .u32 0))),o_ 7 (.mov (.c (.i .u32 0)))] (k_ [m_ 9 0,o_ 10 (.conv .u64 (.t 9)),m_ 11 1,o_ 12 (.conv .u64 (.t 11)),e_ 13 .add 10 12,m_ 14 2,o_ 15 (.conv .u64 (.t 14)),e_ 16 .add 13 15,m_ 8 16] (k_ [m_ 17 8,o_ 18 (.conv .u32 (.t 17)),v_ 6 18] (k_ [m_ 19 8,o_ 20 (.bin .shr .num (.t 19) (.c (.i .u64 32))),o_ 21 (.conv .u32 (.t 20)),v_ 7 21] (.ret))))),none,none⟩
def qef:Fn:=⟨3,[.t 6,(.t 7)],false,(k_ [o_ 6 (.mov (.c (.i .u32 0))),o_ 7 (.mov (.c (.i .u32 0)))] (k_ [m_ 8 0,m_ 9 1,e_ 10 .sub 8 9,m_ 11 2,e_ 12 .sub 10 11,m_ 6 12] (k_ [m_ 13 0,o_ 14 (.un .xor (.t 13)),m_ 15 1,e_ 16 .and 14 15,m_ 17 0,m_ 18 1,e_ 19 .xor 17 18,o_ 20 (.un .xor (.t 19)),m_ 21 6,e_ 22 .and 20 21,e_ 23 .or 16 22,o_ 24 (.bin .shr .num (.t 23) (.c (.i .u64 31))),m_ 7 24] (.ret)))),none,none⟩
def jM:Fn:=⟨1,[(.cell 2 (s_ 8))],true,(k_ [o_ 2 (.alloc true [(.i .i64 0),(.i .i64 0),(.i .i64 0),(.s []),.nil,(.i .i32 0),(.s []),.nil])] (k_ [m_ 6 0,c_ 7 43 [.t 6],o_ 3 (.alloc true [(.i .i64 0),(.i .i64 0),(.i .i64 0),(.s []),(.i .i32 0)]),z_ (.store (some 3) (s_ 5) (.t 3) (.mv 7))] (.seq (.block 0 [0,2] (k_ [a_ 9 3 0,d_ 10 3 9,g_ 11 .eql 10 2,m_ 8 11] (.cond (.t 8) (k_ [v_ 12 0,c_ 13 69 [.mv 12]] (k_ [a_ 14 3 4,d_ 15 3 14,c_ 16 140 [(i_ 1),.t 15],z_ (.store (some 2) (s_ 8) (.t 2) (.mv 16))] (.ret))) (k_ [a_ 18 3 0,d_ 19 3 18,g_ 20 .eql 19 3,m_ 17 20] (.cond (.t 17) (k_ [v_ 21 0,c_ 22 69 [.mv 21]] (k_ [a_ 23 3 4,d_ 24 3 23,c_ 25 140 [(i_ 2),.t 24],z_ (.store (some 2) (s_ 8) (.t 2) (.mv 25))] (.ret))) (k_ [a_ 27 3 0,d_ 28 3 27,g_ 29 .eql 28 4,m_ 26 29] (.cond (.t 26) (k_ [v_ 30 0,c_ 31 69 [.mv 30]] (.seq (.opsD [(c_ 32 133 [(i_ 6)],true,[]),(a_ 33 3 3,false,[]),(d_ 34 3 33,false,[]),(o_ 35 (.build [(.i .i64 0),(.i .i64 0),(.i .i64 0),(.s []),.nil,(.i .i32 0),(.s []),.nil] [(1,4,(.t 32)),(6,1,(.t 34))]),true,[]),(z_ (.store (some 2) (s_ 8) (.t 2) (.t 35)),true,[])]) (.ret))) (k_ [m_ 37 0,o_ 38 (.call (.f 29) [.t 37,(.c (.s [78,73,76]))]),v_ 36 38] (.cond (.t 36) (k_ [c_ 39 133 [(i_ 5)],o_ 40 (.build [(.i .i64 0),(.i .i64 0),(.i .i64 0),(.s []),.nil,(.i .i32 0),(.s []),.nil] [(1,4,(.t 39))]),z_ (.store (some 2) (s_ 8) (.t 2) (.t 40))] (.ret)) (k_ [m_ 42 0,o_ 43 (.call (.f 29) [.t 42,(.c (.s [84,82,85,69]))]),v_ 41 43] (.cond (.t 41) (k_ [o_ 44 (.call (.f 140) [(i_ 3),(.c (.i .i32 1))]),z_ (.store (some 2) (s_ 8) (.t 2) (.mv 44))] (.ret)) (k_ [m_ 46 0,o_ 47 (.call (.f 29) [.t 46,(.c (.s [70,65,76,83,69]))]),v_ 45 47] (.cond (.t 45) (k_ [o_ 48 (.call (.f 140) [(i_ 3),(.c (.i .i32 0))]),z_ (.store (some 2) (s_ 8) (.t 2) (.mv 48))] (.ret)) (k_ [m_ 50 0,o_ 51 (.call (.f 35) [.t 50,(.c (.s [126]))]),v_ 49 51] (.cond (.t 49) (k_ [m_ 52 0,c_ 53 264 [.t 52],o_ 4 (.alloc true [(.i .i64 0),(.i .i64 0),(.i .i64 0),(.s []),.nil,(.i .i32 0),(.s []),.nil]),z_ (.store (some 4) (s_ 8) (.t 4) (.mv 53))] (k_ [m_ 54 0,o_ 55 (.fieldAddr (.t 4) 1 (s_ 4)),a_ 56 55 0,d_ 57 4 56,g_ 58 .eql 57 3,c_ 59 75 [.t 54,.t 58]] (.seq (.opsD [(v_ 60 0,false,[]),(c_ 61 133 [(i_ 3)],true,[]),(o_ 62 (.load false (some 4) (s_ 8) (.t 4)),false,[]),(o_ 63 (.buildSlice (.agg [(.i .i64 0),(.i .i64 0),(.i .i64 0),(.s []),.nil,(.i .i32 0),(.s []),.nil]) 1 [(0,(.t 62))]),false,[]),(o_ 64 (.build [(.i .i64 0),(.i .i64 0),(.i .i64 0),(.s []),.nil,(.i .i32 0),(.s []),.nil] [(0,1,(i_ 8)),(1,4,(.t 61)),(7,1,(.t 63))]),false,[]),(c_ 65 132 [.mv 60,.t 64],true,[]),(z_ (.store (some 2) (s_ 8) (.t 2) (.mv 65)),true,[])]) (.ret)))) (k_ [m_ 67 0,o_ 68 (.call (.f 35) [.t 67,(.c (.s [40]))]),v_ 66 68] (.cond (.t 66) (k_ [m_ 69 0,o_ 70 (.nilCheck (.t 69)),a_ 71 70 17,h_ 72 71,g_ 73 .add 72 1,o_ 74 (.nilCheck (.t 69)),a_ 75 74 17,z_ (.store none l_ (.t 75) (.t 73))] (.seq (k_ [m_ 76 0,o_ 77 (.nilCheck (.t 76)),a_ 78 77 17,h_ 79 78,g_ 80 .gtr 79 64] (.cond (.t 80) (.ops [m_ 81 0,c_ 82 34 [.t 81,(i_ 34)]]) (.skip))) (k_ [m_ 83 0,c_ 84 74 [.t 83],o_ 5 (.alloc true [(.i .i64 0),(.i .i64 0),(.i .i64 0),(.s []),.nil,(.i .i32 0),(.s []),.nil]),z_ (.store (some 5) (s_ 8) (.t 5) (.mv 84))] (k_ [m_ 85 0,o_ 86 (.nilCheck (.t 85)),a_ 87 86 17,h_ 88 87,g_ 89 .sub 88 1,o_ 90 (.nilCheck (.t 85)),a_ 91 90 17,z_ (.store none l_ (.t 91) (.t 89))] (k_ [m_ 92 0,v_ 93 0,o_ 94 (.call (.f 35) [.mv 93,(.c (.s [41]))]),c_ 95 28 [.t 92,.t 94]] (k_ [o_ 96 (.load false (some 5) (s_ 8) (.t 5)),z_ (.store (some 2) (s_ 8) (.t 2) (.t 96))] (.ret))))))) (k_ [m_ 98 0,o_ 99 (.call (.f 35) [.t 98,(.c (.s [123]))]),v_ 97 99] (.cond (.t 97) (k_ [v_ 100 0,c_ 101 301 [.mv 100],z_ (.store (some 2) (s_ 8) (.t 2) (.mv 101))] (.ret)) (k_ [a_ 103 3 0,d_ 104 3 103,g_ 105 .eql 104 1,m_ 102 105] (.cond (.t 102) (k_ [v_ 106 0,c_ 107 302 [.mv 106],z_ (.store (some 2) (s_ 8) (.t 2) (.mv 107))] (.ret)) (.skip)))))))))))))))))))))) (k_ [v_ 108 0,c_ 109 34 [.mv 108,(i_ 31)]] (k_ [o_ 110 (.build [(.i .i64 0),(.i .i64 0),(.i .i64 0),(.s []),.nil,(.i .i32 0),(.s []),.nil] []),z_ (.store (some 2) (s_ 8) (.t 2) (.t 110))] (.ret)))))),none,none⟩
def qej:C:=(.seq (k_ [m_ 24 3,a_ 25 1 7,d_ 26 1 25,n_ 27 26,e_ 28 .lss 24 27] (.cond (.t 28) (.skip) (.exit 0))) (.seq (.block 1 [1,3] (k_ [a_ 31 1 7,d_ 32 1 31,m_ 33 3,x_ 34 32 33 8,o_ 35 (.load false none (s_ 8) (.t 34)),o_ 4 (.alloc true [(.i .i64 0),(.i .i64 0),(.i .i64 0),(.s []),.nil,(.i .i32 0),(.s []),.nil]),z_ (.store (some 4) (s_ 8) (.t 4) (.t 35))] (.seq (.opsD [(a_ 36 4 0,true,[]),(d_ 37 4 36,true,[]),(g_ 38 .neq 37 25,true,[]),(m_ 39 38,true,[]),(q_ 40 39 true (.fieldAddr (.t 4) 0 l_),true,[]),(q_ 41 39 true (.load false (some 4) l_ (.t 40)),true,[]),(q_ 42 39 true (.bin .neq .num (.t 41) (i_ 26)),true,[]),(o_ 43 (.pick (.t 39) (.t 42) (.c (.b false))),true,[]),(m_ 44 43,true,[]),(q_ 45 44 false (.fieldAddr (.t 4) 7 l_),false,[]),(q_ 46 44 false (.load false (some 4) l_ (.t 45)),false,[]),(q_ 47 44 false (.fieldAddr (.t 4) 0 l_),false,[]),(q_ 48 44 false (.load false (some 4) l_ (.t 47)),false,[]),(q_ 49 44 false (.call (.f 304) [.t 48]),true,[]),(q_ 50 44 false (.call (.f 303) [.t 46,(.t 49)]),true,[]),(q_ 51 44 false (.un .not (.t 50)),true,[]),(o_ 52 (.pick (.t 44) (.c (.b true)) (.t 51)),true,[])]) (.cond (.t 52) (k_ [o_ 2 (.mov (.c (.b false)))] (.ret)) (.skip))))) (.ops [m_ 29 3,g_ 30 .add 29 1,m_ 3 30])))
def qek:C:=.loop [1,3] qej
def qem:C:=(k_ [o_ 2 (.mov (.c (.b true)))] (.ret))
def qaH:Fn:=⟨1,[.t 2],true,(k_ [o_ 1 (.box true (.t 0)),o_ 2 (.mov (.c (.b false)))] (.seq (k_ [a_ 5 1 0,d_ 6 1 5,g_ 7 .neq 6 24] (.cond (.t 7) (.seq (.opsD [(a_ 8 1 0,true,[]),(d_ 9 1 8,true,[]),(g_ 10 .neq 9 25,true,[]),(m_ 11 10,true,[]),(q_ 12 11 true (.fieldAddr (.t 1) 0 l_),true,[]),(q_ 13 11 true (.load false (some 1) l_ (.t 12)),true,[]),(q_ 14 11 true (.bin .neq .num (.t 13) (i_ 26)),true,[]),(o_ 15 (.pick (.t 11) (.t 14) (.c (.b false))),true,[]),(m_ 16 15,true,[]),(q_ 17 16 true (.fieldAddr (.t 1) 7 l_),false,[]),(q_ 18 16 true (.load false (some 1) l_ (.t 17)),false,[]),(q_ 19 16 true (.fieldAddr (.t 1) 0 l_),false,[]),(q_ 20 16 true (.load false (some 1) l_ (.t 19)),false,[]),(q_ 21 16 true (.call (.f 304) [.t 20]),true,[]),(q_ 22 16 true (.call (.f 303) [.t 18,(.t 21)]),true,[]),(o_ 23 (.pick (.t 16) (.t 22) (.c (.b false))),true,[]),(m_ 2 23,true,[])]) (.ret)) (.skip))) (.seq (k_ [o_ 3 (.mov (i_ 0))] (.block 0 [] (qek))) (qem)))),none,none⟩
def yD:Fn:=⟨1,[],false,.ops [m_ 2 0,v_ 3 0,o_ 4 (.call (.f 35) [.mv 3,(.c (.s [40]))]),c_ 5 28 [.t 2,.t 4]],none,none⟩
def yA:Fn:=⟨1,[],false,.ops [m_ 2 0,v_ 3 0,o_ 4 (.call (.f 35) [.mv 3,(.c (.s [41]))]),c_ 5 28 [.t 2,.t 4]],none,none⟩
def qjt:C:=(k_ [e_ 13 .lss 12 11] (.seq (.cond (.t 13) (.skip) (.exit 0)) (.seq (.block 1 [1,10,11,12] (k_ [x_ 14 10 12 8,o_ 15 (.load false none (s_ 8) (.t 14)),o_ 5 (.alloc true [(.i .i64 0),(.i .i64 0),(.i .i64 0),(.s []),.nil,(.i .i32 0),(.s []),.nil]),z_ (.store (some 5) (s_ 8) (.t 5) (.t 15))] (.ops [o_ 16 (.load false (some 5) (s_ 8) (.t 5)),m_ 17 1,c_ 18 283 [.t 16,.t 17]]))) (.ops [g_ 19 .add 12 1,m_ 12 19]))))
def qjn:C:=.loop [1,10,11,12] qjt
def qf8:Fn:=⟨2,[],false,(k_ [o_ 2 (.box true (.t 0))] (k_ [m_ 6 1,o_ 7 (.load false (some 2) (s_ 8) (.t 2)),o_ 8 (.call (.t 6) [.t 7])] (k_ [a_ 9 2 7,d_ 10 2 9,n_ 11 10,o_ 12 (.mov (i_ 0))] (.block 0 [] (qjn))))),none,none⟩
def kG:Fn:=⟨2,[.t 4],true,(k_ [o_ 4 (.mov (.c .nil))] (.seq (k_ [m_ 5 1,g_ 6 .lss 5 0] (.cond (.t 6) (.ops [o_ 7 (.mkIfc 9 (.c (.s [99,97,110,110,111,116,32,98,101,32,110,101,103,97,116,105,118,101]))),z_ (.panic (.t 7))]) (.skip))) (.seq (k_ [m_ 8 1,m_ 9 0,o_ 10 (.capN (.t 9)),m_ 11 0,n_ 12 11,e_ 13 .sub 10 12,e_ 14 .sub 8 13,m_ 1 14] (k_ [m_ 15 1,g_ 16 .gtr 15 0] (.cond (.t 16) (.ops [m_ 17 0,m_ 18 0,o_ 19 (.capN (.t 18)),o_ 20 (.sliceL 8 (.t 17) none (some (.t 19))),m_ 21 1,o_ 22 (.zerosR (s_ 8) 184 (.agg [(.s []),.nil,.nil,.nil,.nil,.nil,.nil,.nil]) (.t 20) (.t 21)),m_ 23 0,n_ 24 23,o_ 25 (.truncR (.t 22) (.t 24)),m_ 0 25]) (.skip)))) (k_ [m_ 26 0,m_ 4 26] (.ret))))),none,none⟩
def qbU:Fn:=⟨2,[.t 4],true,(k_ [o_ 3 (.box true (.t 1)),o_ 4 (.mov (i_ 0))] (.seq (.block 0 [] (k_ [o_ 7 (.load false (some 3) (s_ 4) (.t 3)),c_ 8 308 [.t 7],u_ 9 8,m_ 6 9] (.cond (.t 6) (k_ [o_ 4 (.mov (i_ (-1)))] (.ret)) (k_ [a_ 11 3 0,d_ 12 3 11,g_ 13 .eql 12 7,m_ 10 13] (.cond (.t 10) (k_ [v_ 14 0,a_ 15 3 3,d_ 16 3 15,o_ 17 (.indexAddr (.t 16) (i_ 0) 4 none),o_ 18 (.load false none (s_ 4) (.t 17)),c_ 19 285 [.mv 14,.t 18],v_ 5 19] (.seq (k_ [m_ 20 5,g_ 21 .lss 20 0,m_ 22 21,q_ 23 22 false (.mov (.t 5)),q_ 24 22 false (.fieldAddr (.t 3) 1 l_),q_ 25 22 false (.load false (some 3) l_ (.t 24)),q_ 26 22 false (.bin .quo .num (i_ 16384) (.t 25)),q_ 27 22 false (.bin .gtr .num (.t 23) (.t 26)),o_ 28 (.pick (.t 22) (.c (.b true)) (.t 27))] (.cond (.t 28) (k_ [o_ 4 (.mov (i_ (-1)))] (.ret)) (.skip))) (k_ [m_ 29 5,a_ 30 3 1,d_ 31 3 30,e_ 32 .mul 29 31,m_ 4 32] (.ret)))) (k_ [a_ 34 3 0,d_ 35 3 34,g_ 36 .eql 35 8,m_ 33 36] (.cond (.t 33) (k_ [v_ 37 0,a_ 38 3 2,d_ 39 3 38,c_ 40 309 [.mv 37,.t 39],v_ 4 40] (.ret)) (.skip)))))))) (k_ [o_ 4 (.mov (i_ 1))] (.ret)))),none,none⟩
def qgU:C:=(k_ [e_ 39 .lss 38 37] (.seq (.cond (.t 39) (.skip) (.exit 1)) (.seq (.block 2 [0,5,37,38] (k_ [m_ 40 38,m_ 7 40] (k_ [m_ 41 0,o_ 42 (.buildSlice (.i .i64 0) 1 [(0,(i_ 2))]),c_ 43 159 [.t 41,.t 42]] (k_ [m_ 44 0,m_ 45 7,c_ 46 246 [.t 44,.t 45]] (k_ [m_ 47 0,a_ 48 5 6,d_ 49 5 48,v_ 50 7,c_ 51 310 [.t 49,.mv 50],c_ 52 158 [.t 47,.t 51]] (.ops [m_ 53 0,o_ 54 (.buildSlice (.i .i64 0) 1 [(0,(i_ 7))]),c_ 55 159 [.t 53,.t 54]])))))) (.ops [g_ 56 .add 38 1,m_ 38 56]))))
def qgg:C:=.loop [0,5,37,38] qgU
def qgu:C:=.ops [v_ 57 0,o_ 58 (.buildSlice (.i .i64 0) 1 [(0,(i_ 3))]),c_ 59 159 [.mv 57,.t 58]]
def qcY:Fn:=⟨3,[],false,(k_ [o_ 4 (.box true (.t 1)),o_ 5 (.box true (.t 2))] (k_ [m_ 8 0,o_ 9 (.load false (some 4) (s_ 8) (.t 4)),c_ 10 250 [.t 8,.t 9]] (k_ [m_ 11 0,o_ 12 (.fieldAddr (.t 4) 1 (s_ 4)),o_ 13 (.load false (some 4) (s_ 4) (.t 12)),c_ 14 157 [.t 11,.t 13],o_ 15 (.conv .i32 (.t 14)),v_ 6 15] (.block 0 [] (k_ [a_ 25 5 0,d_ 26 5 25,g_ 27 .eql 26 0,m_ 28 27,q_ 29 28 true (.fieldAddr (.t 5) 1 (s_ 4)),q_ 30 28 true (.fieldAddr (.t 29) 0 l_),q_ 31 28 true (.load false (some 5) l_ (.t 30)),q_ 32 28 true (.bin .eql .num (.t 31) (i_ 6)),o_ 33 (.pick (.t 28) (.t 32) (.c (.b false))),m_ 24 33] (.cond (.t 24) (.seq (k_ [a_ 34 5 6,d_ 35 5 34,o_ 36 (.bi .lenS [.t 35]),g_ 37 .add 36 1,o_ 38 (.mov (i_ 0))] (.block 1 [0] (qgg))) (qgu)) (k_ [o_ 61 (.fieldAddr (.t 4) 1 (s_ 4)),a_ 62 61 0,d_ 63 4 62,g_ 64 .eql 63 7,m_ 65 64,q_ 66 65 false (.fieldAddr (.t 4) 1 (s_ 4)),q_ 67 65 false (.fieldAddr (.t 66) 0 l_),q_ 68 65 false (.load false (some 4) l_ (.t 67)),q_ 69 65 false (.bin .eql .num (.t 68) (i_ 8)),o_ 70 (.pick (.t 65) (.c (.b true)) (.t 69)),m_ 60 70] (.cond (.t 60) (k_ [m_ 71 0,o_ 72 (.load false (some 5) (s_ 8) (.t 5)),m_ 73 0,o_ 74 (.mkFn 250 [.t 73] []),c_ 75 254 [.t 71,.t 72,.t 74]] (k_ [m_ 76 6,o_ 77 (.bin .gtr .num (.t 76) (.c (.i .i32 0)))] (.cond (.t 77) (.ops [v_ 78 0,v_ 79 6,c_ 80 165 [.mv 78,(i_ 8),.mv 79]]) (.ops [v_ 81 0,o_ 82 (.buildSlice (.i .i64 0) 2 [(0,(i_ 3)),(1,(i_ 3))]),c_ 83 159 [.mv 81,.t 82]])))) (k_ [m_ 16 0,o_ 17 (.load false (some 5) (s_ 8) (.t 5)),m_ 18 0,o_ 19 (.mkFn 176 [.t 18] []),c_ 20 254 [.t 16,.t 17,.t 19]] (.ops [v_ 21 0,o_ 22 (.buildSlice (.i .i64 0) 1 [(0,(i_ 7))]),c_ 23 159 [.mv 21,.t 22]])))))))))),none,none⟩
def qdm:Fn:=⟨2,[],false,(k_ [o_ 3 (.box true (.t 1))] (k_ [a_ 5 3 0,d_ 6 3 5] (.block 0 [] (k_ [g_ 8 .eql 6 11,m_ 7 8] (.cond (.t 7) (k_ [a_ 9 3 1,d_ 10 3 9,o_ 11 (.indexAddr (.t 10) (i_ 0) 8 none),o_ 12 (.fieldAddr (.t 11) 1 (s_ 4)),a_ 13 12 2,h_ 14 13,o_ 15 (.build [(.i .i64 0),(.i .i64 0),(.s []),.nil] [(0,1,(i_ 8)),(2,1,(.t 14))]),o_ 4 (.alloc true [(.i .i64 0),(.i .i64 0),(.s []),.nil]),z_ (.store (some 4) (s_ 4) (.t 4) (.t 15))] (k_ [m_ 16 0,a_ 17 3 1,d_ 18 3 17,o_ 19 (.indexAddr (.t 18) (i_ 0) 8 none),o_ 20 (.load false none (s_ 8) (.t 19)),c_ 21 250 [.t 16,.t 20]] (k_ [m_ 22 0,m_ 23 0,o_ 24 (.load false (some 4) (s_ 4) (.t 4)),c_ 25 157 [.t 23,.t 24],o_ 26 (.conv .i32 (.t 25)),c_ 27 158 [.t 22,.t 26]] (.seq (.seq (.opsD [(m_ 28 0,false,[]),(m_ 29 0,false,[]),(o_ 30 (.nilCheck (.t 29)),false,[]),(a_ 31 30 4,false,[]),(h_ 32 31,false,[]),(a_ 33 4 2,false,[]),(d_ 34 4 33,false,[]),(o_ 35 (.lookup 2 (.i .i32 0) (.t 32) (.t 34) false),false,[])]) (.ops [c_ 36 158 [.t 28,.t 35]])) (k_ [m_ 37 0,m_ 38 0,o_ 39 (.nilCheck (.t 38)),o_ 40 (.fieldAddr (.t 39) 18 (s_ 7)),a_ 41 40 2,h_ 42 41,c_ 43 244 [.t 37,(i_ 27),.t 42]] (.ops [v_ 44 0,o_ 45 (.buildSlice (.i .i64 0) 1 [(0,(i_ 7))]),c_ 46 159 [.mv 44,.t 45]])))))) (k_ [g_ 48 .eql 6 12,m_ 47 48] (.cond (.t 47) (k_ [m_ 49 0,a_ 50 3 1,d_ 51 3 50,o_ 52 (.indexAddr (.t 51) (i_ 0) 8 none),o_ 53 (.load false none (s_ 8) (.t 52)),c_ 54 176 [.t 49,.t 53]] (.ops [v_ 55 0,c_ 56 173 [.mv 55,(i_ 5)]])) (k_ [g_ 58 .eql 6 13,m_ 57 58] (.cond (.t 57) (k_ [m_ 59 0,a_ 60 3 1,d_ 61 3 60,o_ 62 (.indexAddr (.t 61) (i_ 0) 8 none),o_ 63 (.load false none (s_ 8) (.t 62)),c_ 64 250 [.t 59,.t 63]] (.ops [v_ 65 0,o_ 66 (.buildSlice (.i .i64 0) 2 [(0,(i_ 31)),(1,(i_ 7))]),c_ 67 159 [.mv 65,.t 66]])) (k_ [g_ 69 .eql 6 14,m_ 68 69] (.cond (.t 68) (k_ [m_ 70 0,a_ 71 3 1,d_ 72 3 71,o_ 73 (.indexAddr (.t 72) (i_ 0) 8 none),o_ 74 (.load false none (s_ 8) (.t 73)),c_ 75 176 [.t 70,.t 74]] (.ops [m_ 76 0,m_ 77 0,o_ 78 (.nilCheck (.t 77)),o_ 79 (.fieldAddr (.t 78) 18 (s_ 7)),a_ 80 79 5,h_ 81 80,c_ 82 244 [.t 76,(i_ 27),.t 81]])) (k_ [g_ 84 .eql 6 15,m_ 83 84] (.cond (.t 83) (k_ [m_ 85 0,a_ 86 3 1,d_ 87 3 86,o_ 88 (.indexAddr (.t 87) (i_ 0) 8 none),o_ 89 (.load false none (s_ 8) (.t 88)),c_ 90 176 [.t 85,.t 89]] (.ops [v_ 91 0,o_ 92 (.buildSlice (.i .i64 0) 1 [(0,(i_ 33))]),c_ 93 159 [.mv 91,.t 92]])) (k_ [g_ 95 .eql 6 17,m_ 94 95] (.cond (.t 94) (k_ [m_ 96 0,o_ 97 (.call (.f 158) [.t 96,(.c (.i .i32 10))])] (.ops [v_ 98 0,o_ 99 (.buildSlice (.i .i64 0) 1 [(0,(i_ 33))]),c_ 100 159 [.mv 98,.t 99]])) (k_ [g_ 102 .eql 6 16,m_ 101 102] (.cond (.t 101) (.ops [v_ 103 0,a_ 104 3 1,d_ 105 3 104,o_ 106 (.indexAddr (.t 105) (i_ 0) 8 none),o_ 107 (.load false none (s_ 8) (.t 106)),c_ 108 312 [.mv 103,.t 107]]) (.skip)))))))))))))))))),none,none⟩
def qa2:Fn:=⟨2,[],false,(.seq (k_ [m_ 5 1,o_ 6 (.call (.f 313) [.t 5,(.c (.s [46]))])] (.cond (.t 6) (k_ [m_ 7 0,m_ 8 0,o_ 9 (.nilCheck (.t 8)),a_ 10 9 5,h_ 11 10,m_ 12 1,o_ 13 (.lookup 2 (.i .i32 0) (.t 11) (.t 12) false),c_ 14 158 [.t 7,.t 13]] (.ret)) (.skip))) (k_ [m_ 15 0,o_ 16 (.nilCheck (.t 15)),a_ 17 16 25,h_ 18 17,m_ 19 1,o_ 20 (.lookup 2 (.agg [(.i .i64 0),(.b false)]) (.t 18) (.t 19) false),o_ 4 (.alloc true [(.i .i64 0),(.b false)]),z_ (.store (some 4) (s_ 2) (.t 4) (.t 20))] (k_ [m_ 21 0,a_ 22 4 0,d_ 23 4 22,o_ 24 (.conv .i32 (.t 23)),c_ 25 165 [.t 21,(i_ 5),.t 24]] (k_ [a_ 26 4 1,d_ 27 4 26] (.cond (.t 27) (.ops [v_ 28 0,o_ 29 (.buildSlice (.i .i64 0) 1 [(0,(i_ 6))]),c_ 30 159 [.mv 28,.t 29]]) (.skip)))))),none,none⟩
def qi5:Fn:=⟨1,[.t 2],true,(k_ [o_ 1 (.box true (.t 0)),o_ 2 (.mov (.c (.b false)))] (k_ [o_ 3 (.alloc false [(.b false)]),z_ (.store none l_ (.t 3) (.c (.b false)))] (k_ [o_ 4 (.load false (some 1) (s_ 8) (.t 1)),o_ 5 (.mkFn 315 [] [.t 3]),c_ 6 283 [.t 4,.t 5]] (k_ [h_ 7 3,m_ 2 7] (.ret))))),none,none⟩
def qbg:Fn:=⟨2,[],false,(k_ [m_ 4 1] (.block 0 [] (k_ [g_ 6 .eql 4 16,m_ 5 6] (.cond (.t 5) (.ops [v_ 7 0,o_ 8 (.buildSlice (.i .i64 0) 1 [(0,(i_ 22))]),c_ 9 159 [.mv 7,.t 8]]) (k_ [g_ 11 .eql 4 17,m_ 10 11] (.cond (.t 10) (k_ [m_ 12 0,o_ 13 (.buildSlice (.i .i64 0) 1 [(0,(i_ 22))]),c_ 14 159 [.t 12,.t 13]] (.ops [v_ 15 0,c_ 16 300 [.mv 15]])) (k_ [g_ 18 .eql 4 18,m_ 17 18] (.cond (.t 17) (.ops [v_ 19 0,o_ 20 (.buildSlice (.i .i64 0) 1 [(0,(i_ 23))]),c_ 21 159 [.mv 19,.t 20]]) (k_ [g_ 23 .eql 4 19,m_ 22 23] (.cond (.t 22) (.ops [v_ 24 0,o_ 25 (.buildSlice (.i .i64 0) 1 [(0,(i_ 24))]),c_ 26 159 [.mv 24,.t 25]]) (k_ [g_ 28 .eql 4 20,m_ 27 28] (.cond (.t 27) (.ops [v_ 29 0,o_ 30 (.buildSlice (.i .i64 0) 2 [(0,(i_ 4)),(1,(i_ 23))]),c_ 31 159 [.mv 29,.t 30]]) (k_ [g_ 33 .eql 4 21,m_ 32 33] (.cond (.t 32) (.ops [v_ 34 0,o_ 35 (.buildSlice (.i .i64 0) 2 [(0,(i_ 4)),(1,(i_ 24))]),c_ 36 159 [.mv 34,.t 35]]) (.skip))))))))))))))),none,none⟩
def jG:Fn:=⟨1,[(.cell 2 (s_ 8))],true,(k_ [o_ 2 (.alloc true [(.i .i64 0),(.i .i64 0),(.i .i64 0),(.s []),.nil,(.i .i32 0),(.s []),.nil])] (k_ [m_ 6 0,c_ 7 43 [.t 6],o_ 8 (.field (.t 7) 3 l_),m_ 3 8] (.seq (k_ [m_ 9 3,c_ 10 33 [.t 9]] (.cond (.t 10) (k_ [m_ 11 0,c_ 12 69 [.t 11]] (k_ [v_ 13 0,v_ 14 3,c_ 15 316 [.mv 13,.mv 14],z_ (.store (some 2) (s_ 8) (.t 2) (.mv 15))] (.ret))) (.skip))) (k_ [m_ 17 0,c_ 18 208 [.t 17],m_ 16 18,r_ 19 16 0,r_ 20 16 1,o_ 4 (.alloc true [(.i .i64 0),(.i .i64 0),(.i .i64 0),(.s []),.nil,(.i .i64 0),(.i .i64 0),(.i .i64 0),(.s []),.nil,(.i .i32 0),(.s []),.nil,(.s []),(.b false),.nil,(.i .i64 0),(.i .i64 0),(.s []),.nil,.nil,.nil,.nil,(.b false)]),z_ (.store (some 4) (s_ 24) (.t 4) (.t 19)),m_ 5 20] (.seq (k_ [a_ 21 4 0,d_ 22 4 21] (.block 0 [0,2,5] (k_ [g_ 24 .eql 22 2,m_ 23 24] (.cond (.t 23) (k_ [o_ 25 (.fieldAddr (.t 4) 5 (s_ 8)),o_ 26 (.load false (some 4) (s_ 8) (.t 25)),z_ (.store (some 2) (s_ 8) (.t 2) (.t 26))] (.ret)) (.seq (k_ [g_ 28 .eql 22 4,m_ 27 28] (.cond (.t 27) (.skip) (.ops [g_ 29 .eql 22 6,m_ 27 29]))) (.cond (.t 27) (k_ [v_ 30 0,o_ 31 (.fieldAddr (.t 4) 1 (s_ 4)),o_ 32 (.load false (some 4) (s_ 4) (.t 31)),m_ 33 5,o_ 34 (.build [(.i .i64 0),(.i .i64 0),(.i .i64 0),(.s []),.nil,(.i .i32 0),(.s []),.nil] [(0,1,(i_ 1)),(1,4,(.t 32)),(6,1,(.t 33))]),c_ 35 213 [.mv 30,.t 34],z_ (.store (some 2) (s_ 8) (.t 2) (.mv 35))] (.ret)) (k_ [g_ 37 .eql 22 5,m_ 36 37] (.cond (.t 36) (k_ [m_ 38 0,o_ 39 (.fieldAddr (.t 4) 13 (s_ 10)),o_ 40 (.fieldAddr (.t 39) 3 (s_ 4)),a_ 41 40 0,d_ 42 4 41,g_ 43 .neq 42 0,c_ 44 75 [.t 38,.t 43]] (k_ [m_ 45 0,m_ 46 0,o_ 47 (.call (.f 40) [.t 46,(i_ 5),(.c (.s [40]))]),c_ 48 28 [.t 45,.t 47]] (k_ [v_ 49 0,o_ 50 (.fieldAddr (.t 4) 13 (s_ 10)),o_ 51 (.load false (some 4) (s_ 10) (.t 50)),v_ 52 5,c_ 53 214 [.mv 49,.t 51,.mv 52],z_ (.store (some 2) (s_ 8) (.t 2) (.mv 53))] (.ret)))) (.skip))))))))) (.seq (k_ [m_ 54 5,o_ 55 (.bin .eql .num (.t 54) (.c (.s [73,110,46,69,111,102])))] (.cond (.t 55) (k_ [m_ 56 0,m_ 57 0,o_ 58 (.call (.f 35) [.t 57,(.c (.s [40]))]),c_ 59 28 [.t 56,.t 58]] (k_ [m_ 60 0,v_ 61 0,o_ 62 (.call (.f 35) [.mv 61,(.c (.s [41]))]),c_ 63 28 [.t 60,.t 62]] (k_ [c_ 64 133 [(i_ 3)],o_ 65 (.build [(.i .i64 0),(.i .i64 0),(.i .i64 0),(.s []),.nil,(.i .i32 0),(.s []),.nil] [(0,1,(i_ 34)),(1,4,(.t 64))]),z_ (.store (some 2) (s_ 8) (.t 2) (.t 65))] (.ret)))) (.skip))) (k_ [v_ 66 0,c_ 67 34 [.mv 66,(i_ 32)]] (k_ [o_ 68 (.build [(.i .i64 0),(.i .i64 0),(.i .i64 0),(.s []),.nil,(.i .i32 0),(.s []),.nil] []),z_ (.store (some 2) (s_ 8) (.t 2) (.t 68))] (.ret))))))))),none,none⟩
def qgL:C:=(.seq (k_ [m_ 6 5,m_ 7 0,n_ 8 7,e_ 9 .lss 6 8] (.cond (.t 9) (.skip) (.exit 0))) (.seq (.block 1 [0,1,5] (k_ [m_ 12 0,m_ 13 5,x_ 14 12 13 8,o_ 15 (.load false none (s_ 8) (.t 14)),c_ 16 76 [.t 15],u_ 17 16] (.cond (.t 17) (k_ [o_ 4 (.mov (.c (.b false)))] (.ret)) (.skip)))) (.ops [m_ 10 5,g_ 11 .add 10 1,m_ 5 11])))
def qgA:C:=.loop [0,1,5] qgL
def qgQ:C:=(k_ [m_ 18 0,n_ 19 18,m_ 20 1,e_ 21 .eql 19 20,m_ 22 21,q_ 23 22 true (.mov (.t 1)),q_ 24 22 true (.bin .gtr .num (.t 23) (i_ 0)),o_ 25 (.pick (.t 22) (.t 24) (.c (.b false))),m_ 4 25] (.ret))
def qcT:Fn:=⟨2,[.t 4],true,(k_ [o_ 4 (.mov (.c (.b false)))] (.seq (k_ [o_ 5 (.mov (i_ 0))] (.block 0 [0,1] (qgA))) (qgQ))),none,none⟩
def qde:Fn:=⟨1,[.t 2],true,(k_ [o_ 2 (.mov (i_ 0))] (.seq (k_ [m_ 3 0] (.block 0 [0] (.seq (k_ [g_ 5 .eql 3 7,m_ 4 5] (.cond (.t 4) (.skip) (k_ [g_ 6 .eql 3 8,m_ 4 6] (.cond (.t 4) (.skip) (k_ [g_ 7 .eql 3 27,m_ 4 7] (.cond (.t 4) (.skip) (k_ [g_ 8 .eql 3 28,m_ 4 8] (.cond (.t 4) (.skip) (k_ [g_ 9 .eql 3 32,m_ 4 9] (.cond (.t 4) (.skip) (k_ [g_ 10 .eql 3 33,m_ 4 10] (.cond (.t 4) (.skip) (.ops [g_ 11 .eql 3 25,m_ 4 11]))))))))))))) (.cond (.t 4) (k_ [o_ 2 (.mov (i_ 1))] (.ret)) (.seq (k_ [g_ 13 .eql 3 29,m_ 12 13] (.cond (.t 12) (.skip) (k_ [g_ 14 .eql 3 30,m_ 12 14] (.cond (.t 12) (.skip) (k_ [g_ 15 .eql 3 31,m_ 12 15] (.cond (.t 12) (.skip) (.ops [g_ 16 .eql 3 26,m_ 12 16]))))))) (.cond (.t 12) (k_ [o_ 2 (.mov (i_ 2))] (.ret)) (.skip))))))) (.seq (k_ [m_ 17 0,g_ 18 .geq 17 9,m_ 19 18,q_ 20 19 true (.mov (.t 0)),q_ 21 19 true (.bin .leq .num (.t 20) (i_ 22)),o_ 22 (.pick (.t 19) (.t 21) (.c (.b false)))] (.cond (.t 22) (k_ [o_ 2 (.mov (i_ 2))] (.ret)) (.skip))) (k_ [o_ 2 (.mov (i_ 0))] (.ret))))),none,none⟩
def qi1:Fn:=⟨1,[.t 2],true,(k_ [o_ 1 (.box true (.t 0)),o_ 2 (.mov (.c (.b false)))] (.seq (.block 0 [] (k_ [a_ 4 1 0,d_ 5 1 4,c_ 6 324 [.t 5],v_ 3 6] (.cond (.t 3) (k_ [a_ 7 1 1,d_ 8 1 7,g_ 9 .eql 8 0,m_ 10 9,q_ 11 10 true (.fieldAddr (.t 1) 2 l_),q_ 12 10 true (.load false (some 1) l_ (.t 11)),q_ 13 10 true (.bin .eql .num (.t 12) (.c (.s []))),o_ 14 (.pick (.t 10) (.t 13) (.c (.b false))),m_ 15 14,q_ 16 15 true (.fieldAddr (.t 1) 3 l_),q_ 17 15 true (.load false (some 1) l_ (.t 16)),q_ 18 15 true (.bi .lenL [.t 17]),q_ 19 15 true (.bin .eql .num (.t 18) (i_ 0)),o_ 20 (.pick (.t 15) (.t 19) (.c (.b false))),m_ 2 20] (.ret)) (k_ [a_ 22 1 0,d_ 23 1 22,g_ 24 .eql 23 7,m_ 21 24] (.cond (.t 21) (k_ [a_ 25 1 1,d_ 26 1 25,g_ 27 .geq 26 1,m_ 28 27,q_ 29 28 true (.fieldAddr (.t 1) 1 l_),q_ 30 28 true (.load false (some 1) l_ (.t 29)),q_ 31 28 true (.bin .leq .num (.t 30) (i_ 1024)),o_ 32 (.pick (.t 28) (.t 31) (.c (.b false))),m_ 33 32,q_ 34 33 true (.fieldAddr (.t 1) 2 l_),q_ 35 33 true (.load false (some 1) l_ (.t 34)),q_ 36 33 true (.bin .eql .num (.t 35) (.c (.s []))),o_ 37 (.pick (.t 33) (.t 36) (.c (.b false))),m_ 38 37,q_ 39 38 true (.fieldAddr (.t 1) 3 l_),q_ 40 38 true (.load false (some 1) l_ (.t 39)),q_ 41 38 true (.bi .lenL [.t 40]),q_ 42 38 true (.bin .eql .num (.t 41) (i_ 1)),o_ 43 (.pick (.t 38) (.t 42) (.c (.b false))),m_ 44 43,q_ 45 44 true (.fieldAddr (.t 1) 3 l_),q_ 46 44 true (.load false (some 1) l_ (.t 45)),q_ 47 44 true (.indexAddr (.t 46) (i_ 0) 4 none),q_ 48 44 true (.load false none (s_ 4) (.t 47)),q_ 49 44 true (.call (.f 308) [.t 48]),o_ 50 (.pick (.t 44) (.t 49) (.c (.b false))),m_ 2 50] (.ret)) (k_ [a_ 52 1 0,d_ 53 1 52,g_ 54 .eql 53 8,m_ 55 54,q_ 56 55 false (.fieldAddr (.t 1) 0 l_),q_ 57 55 false (.load false (some 1) l_ (.t 56)),q_ 58 55 false (.bin .eql .num (.t 57) (i_ 9)),o_ 59 (.pick (.t 55) (.c (.b true)) (.t 58)),m_ 51 59] (.cond (.t 51) (k_ [a_ 60 1 1,d_ 61 1 60,g_ 62 .eql 61 0,m_ 63 62,q_ 64 63 true (.fieldAddr (.t 1) 2 l_),q_ 65 63 true (.load false (some 1) l_ (.t 64)),q_ 66 63 true (.bin .neq .num (.t 65) (.c (.s []))),o_ 67 (.pick (.t 63) (.t 66) (.c (.b false))),m_ 68 67,q_ 69 68 true (.fieldAddr (.t 1) 3 l_),q_ 70 68 true (.load false (some 1) l_ (.t 69)),q_ 71 68 true (.bi .lenL [.t 70]),q_ 72 68 true (.bin .eql .num (.t 71) (i_ 0)),o_ 73 (.pick (.t 68) (.t 72) (.c (.b false))),m_ 2 73] (.ret)) (.skip)))))))) (k_ [o_ 2 (.mov (.c (.b false)))] (.ret)))),none,none⟩
def qc2:Fn:=⟨2,[.t 4],true,(k_ [o_ 4 (.mov (.c (.b false)))] (k_ [v_ 5 0,v_ 6 1,c_ 7 326 [.mv 5,.mv 6],g_ 8 .geq 7 0,m_ 4 8] (.ret))),none,none⟩
def qga:Fn:=⟨2,[],false,(k_ [o_ 2 (.box true (.t 0))] (.ops [h_ 3 1,m_ 4 3,q_ 5 4 false (.fieldAddr (.t 2) 0 l_),q_ 6 4 false (.load false (some 2) l_ (.t 5)),q_ 7 4 false (.bin .eql .num (.t 6) (i_ 6)),o_ 8 (.pick (.t 4) (.c (.b true)) (.t 7)),z_ (.store none l_ (.t 1) (.t 8))])),none,none⟩
def qja:Fn:=⟨1,[.t 2],true,(k_ [o_ 2 (.mov (.c (.b false)))] (k_ [m_ 3 0,g_ 4 .geq 3 1,m_ 5 4,q_ 6 5 true (.mov (.t 0)),q_ 7 5 true (.bin .leq .num (.t 6) (i_ 4)),o_ 8 (.pick (.t 5) (.t 7) (.c (.b false))),m_ 2 8] (.ret))),none,none⟩
def qf5:Fn:=⟨2,[.t 4],true,(k_ [o_ 4 (.mov (i_ 0))] (k_ [v_ 5 0,v_ 6 1,c_ 7 328 [.mv 5,.mv 6],v_ 4 7] (.ret))),none,none⟩
def qaC:C:=(.seq (k_ [m_ 57 8,m_ 58 9,e_ 59 .lss 57 58] (.cond (.t 59) (.skip) (.exit 1))) (.block 2 [0,1,5,6,7,8,9,10] (.seq (k_ [m_ 60 0,m_ 61 8,o_ 62 (.index (.t 60) (.t 61)),m_ 63 6,e_ 64 .neq 62 63] (.cond (.t 64) (k_ [m_ 65 0,m_ 66 8,g_ 67 .add 66 1,m_ 68 9,o_ 69 (.sliceS (.t 65) (some (.t 67)) (some (.t 68))),m_ 70 6,c_ 71 329 [.t 69,.t 70],v_ 11 71] (.seq (k_ [m_ 72 11,g_ 73 .lss 72 0] (.cond (.t 73) (k_ [o_ 4 (.mov (i_ (-1)))] (.ret)) (.skip))) (.ops [m_ 74 8,m_ 75 11,g_ 76 .add 75 1,e_ 77 .add 74 76,m_ 8 77]))) (.skip))) (.seq (k_ [m_ 78 0,m_ 79 8,g_ 80 .add 79 1,o_ 81 (.index (.t 78) (.t 80)),m_ 82 7,e_ 83 .eql 81 82,m_ 84 83,q_ 85 84 true (.mov (.t 0)),q_ 86 84 true (.mov (.t 8)),q_ 87 84 true (.mov (.t 8)),q_ 88 84 true (.mov (.t 5)),q_ 89 84 true (.bin .add .num (.t 87) (.t 88)),q_ 90 84 true (.sliceS (.t 85) (some (.t 86)) (some (.t 89))),q_ 91 84 true (.mov (.t 1)),q_ 92 84 true (.bin .eql .num (.t 90) (.t 91)),o_ 93 (.pick (.t 84) (.t 92) (.c (.b false)))] (.cond (.t 93) (k_ [m_ 94 8,m_ 4 94] (.ret)) (.skip))) (k_ [m_ 95 8,g_ 96 .add 95 1,m_ 8 96] (k_ [m_ 97 10,g_ 98 .add 97 1,m_ 10 98] (k_ [m_ 99 5,o_ 100 (.stuck),e_ 101 .leq 99 100,m_ 102 101,q_ 103 102 true (.mov (.t 10)),q_ 104 102 true (.mov (.t 8)),q_ 105 102 true (.call (.f 331) [.t 104]),q_ 106 102 true (.bin .gtr .num (.t 103) (.t 105)),o_ 107 (.pick (.t 102) (.t 106) (.c (.b false)))] (.cond (.t 107) (k_ [m_ 108 0,m_ 109 8,o_ 110 (.sliceS (.t 108) (some (.t 109)) none),v_ 111 1,c_ 112 330 [.t 110,.mv 111],m_ 12 112] (.seq (k_ [m_ 113 12,g_ 114 .geq 113 0] (.cond (.t 114) (k_ [m_ 115 12,m_ 116 8,e_ 117 .add 115 116,m_ 4 117] (.ret)) (.skip))) (k_ [o_ 4 (.mov (i_ (-1)))] (.ret)))) (k_ [m_ 118 5,o_ 119 (.stuck),e_ 120 .gtr 118 119,m_ 121 120,q_ 122 121 true (.mov (.t 10)),q_ 123 121 true (.mov (.t 8)),q_ 124 121 true (.bin .shr .num (.t 123) (.c (.i .u64 4))),q_ 125 121 true (.bin .add .num (i_ 4) (.t 124)),q_ 126 121 true (.bin .geq .num (.t 122) (.t 125)),o_ 127 (.pick (.t 121) (.t 126) (.c (.b false))),m_ 128 127,q_ 129 128 true (.mov (.t 8)),q_ 130 128 true (.mov (.t 9)),q_ 131 128 true (.bin .lss .num (.t 129) (.t 130)),o_ 132 (.pick (.t 128) (.t 131) (.c (.b false)))] (.cond (.t 132) (k_ [m_ 133 0,m_ 134 8,o_ 135 (.sliceS (.t 133) (some (.t 134)) none),v_ 136 1,c_ 137 332 [.t 135,.mv 136],v_ 13 137] (.seq (k_ [m_ 138 13,g_ 139 .lss 138 0] (.cond (.t 139) (k_ [o_ 4 (.mov (i_ (-1)))] (.ret)) (.skip))) (k_ [m_ 140 8,m_ 141 13,e_ 142 .add 140 141,m_ 4 142] (.ret)))) (.skip)))))))))))
def qaB:C:=.loop [0,1,5,6,7,8,9,10] qaC
def qaA:C:=(k_ [o_ 4 (.mov (i_ (-1)))] (.ret))
def jl:Fn:=⟨2,[.t 4],true,(k_ [o_ 4 (.mov (i_ 0))] (k_ [m_ 14 1,o_ 15 (.bi .lenS [.t 14]),m_ 5 15] (.seq (.block 0 [0,1,5] (k_ [m_ 17 5,g_ 18 .eql 17 0,m_ 19 18,q_ 20 19 false (.mov (.t 1)),q_ 21 19 false (.mov (.t 0)),q_ 22 19 false (.bin .eql .num (.t 20) (.t 21)),o_ 23 (.pick (.t 19) (.c (.b true)) (.t 22)),m_ 16 23] (.cond (.t 16) (k_ [o_ 4 (.mov (i_ 0))] (.ret)) (k_ [m_ 25 5,g_ 26 .eql 25 1,m_ 24 26] (.cond (.t 24) (k_ [v_ 27 0,m_ 28 1,o_ 29 (.index (.t 28) (i_ 0)),c_ 30 329 [.mv 27,.t 29],v_ 4 30] (.ret)) (k_ [m_ 32 5,m_ 33 0,o_ 34 (.bi .lenS [.t 33]),e_ 35 .geq 32 34,m_ 31 35] (.cond (.t 31) (k_ [o_ 4 (.mov (i_ (-1)))] (.ret)) (k_ [m_ 37 5,o_ 38 (.stuck),e_ 39 .leq 37 38,m_ 40 39,q_ 41 40 true (.mov (.t 0)),q_ 42 40 true (.bi .lenS [.t 41]),q_ 43 40 true (.bin .leq .num (.t 42) (i_ 64)),o_ 44 (.pick (.t 40) (.t 43) (.c (.b false))),m_ 36 44] (.cond (.t 36) (k_ [v_ 45 0,v_ 46 1,c_ 47 330 [.mv 45,.mv 46],m_ 4 47] (.ret)) (.skip)))))))))) (k_ [m_ 48 1,o_ 49 (.index (.t 48) (i_ 0)),m_ 6 49] (k_ [m_ 50 1,o_ 51 (.index (.t 50) (i_ 1)),m_ 7 51] (k_ [o_ 8 (.mov (i_ 0))] (k_ [m_ 52 0,o_ 53 (.bi .lenS [.t 52]),m_ 54 5,e_ 55 .sub 53 54,g_ 56 .add 55 1,m_ 9 56] (k_ [o_ 10 (.mov (i_ 0))] (.seq (.block 1 [] (qaB)) (qaA)))))))))),none,none⟩
def zm:Fn:=⟨2,[.t 4],true,(k_ [o_ 4 (.mov (i_ 0))] (k_ [v_ 5 0,v_ 6 1,c_ 7 333 [.mv 5,.mv 6],m_ 4 7] (.ret))),none,none⟩
def prog (n:Nat):Option Fn:=
 bif qHm n 4 then some qb else
 bif qHm n 7 then some qcP else
 bif qHm n 8 then some qbp else
 bif qHm n 11 then some qeb else
 bif qHm n 12 then some qfj else
 bif qHm n 13 then some qe0 else
 bif qHm n 15 then some qd5 else
 bif qHm n 16 then some jQ else
 bif qHm n 17 then some qc3 else
 bif qHm n 23 then some qi3 else
 bif qHm n 24 then some qkD else
 bif qHm n 25 then some qbb else
 bif qHm n 26 then some qee else
 bif qHm n 27 then some qbL else
 bif qHm n 28 then some yp else
 bif qHm n 29 then some y1 else
 bif qHm n 30 then some j9 else
 bif qHm n 31 then some qbS else
 bif qHm n 32 then some qdT else
 bif qHm n 33 then some qcJ else
 bif qHm n 35 then some ym else
 bif qHm n 36 then some jv else
 bif qHm n 39 then some yh else
 bif qHm n 40 then some ye else
 bif qHm n 42 then some yz else
 bif qHm n 43 then some yP else
 bif qHm n 44 then some qeC else
 bif qHm n 45 then some qar else
 bif qHm n 46 then some qdI else
 bif qHm n 47 then some qax else
 bif qHm n 48 then some yS else
 bif qHm n 54 then some qlQ else
 bif qHm n 55 then some qw else
 bif qHm n 56 then some qn else
 bif qHm n 57 then some zG else
 bif qHm n 58 then some zC else
 bif qHm n 59 then some jz else
 bif qHm n 60 then some qaE else
 bif qHm n 61 then some yO else
 bif qHm n 62 then some qdo else
 bif qHm n 63 then some qbM else
 bif qHm n 64 then some qcB else
 bif qHm n 65 then some qbr else
 bif qHm n 66 then some qbT else
 bif qHm n 68 then some qfb else
 bif qHm n 69 then some yy else
 bif qHm n 70 then some jI else
 bif qHm n 71 then some yf else
 bif qHm n 72 then some jA else
 bif qHm n 73 then some yC else
 bif qHm n 74 then some yl else
 bif qHm n 75 then some qab else
 bif qHm n 76 then some qf4 else
 bif qHm n 78 then some yZ else
 bif qHm n 79 then some yg else
 bif qHm n 80 then some j8 else
 bif qHm n 84 then some jP else
 bif qHm n 85 then some qec else
 bif qHm n 86 then some yu else
 bif qHm n 87 then some qah else
 bif qHm n 88 then some qc8 else
 bif qHm n 89 then some y9 else
 bif qHm n 92 then some qdr else
 bif qHm n 98 then some qkF else
 bif qHm n 99 then some qlZ else
 bif qHm n 100 then some qdP else
 bif qHm n 101 then some qdL else
 bif qHm n 102 then some qcH else
 bif qHm n 103 then some qdR else
 bif qHm n 104 then some qcF else
 bif qHm n 105 then some qfe else
 bif qHm n 106 then some qd9 else
 bif qHm n 107 then some qbR else
 bif qHm n 109 then some qf2 else
 bif qHm n 110 then some kM else
 bif qHm n 111 then some jx else
 bif qHm n 112 then some ja else
 bif qHm n 113 then some je else
 bif qHm n 114 then some z8 else
 bif qHm n 115 then some jf else
 bif qHm n 116 then some zI else
 bif qHm n 117 then some kN else
 bif qHm n 119 then some jC else
 bif qHm n 120 then some f_genrisc_gen_reckon else
 bif qHm n 121 then some f_genrisc_gen_leads else
 bif qHm n 122 then some qi4 else
 bif qHm n 124 then some qji else
 bif qHm n 125 then some yB else
 bif qHm n 126 then some qaG else
 bif qHm n 127 then some yY else
 bif qHm n 128 then some qaF else
 bif qHm n 129 then some qeV else
 bif qHm n 130 then some jR else
 bif qHm n 131 then some j6 else
 bif qHm n 132 then some yw else
 bif qHm n 133 then some qcQ else
 bif qHm n 134 then some yj else
 bif qHm n 140 then some qfa else
 bif qHm n 141 then some qd6 else
 bif qHm n 144 then some yi else
 bif qHm n 147 then some zM else
 bif qHm n 148 then some qcV else
 bif qHm n 153 then some ql1 else
 bif qHm n 154 then some qlW else
 bif qHm n 155 then some qj5 else
 bif qHm n 156 then some kR else
 bif qHm n 157 then some qd8 else
 bif qHm n 158 then some qe8 else
 bif qHm n 159 then some qgb else
 bif qHm n 160 then some qbo else
 bif qHm n 161 then some qdM else
 bif qHm n 162 then some qes else
 bif qHm n 163 then some qdh else
 bif qHm n 164 then some qeK else
 bif qHm n 165 then some qeP else
 bif qHm n 166 then some qbm else
 bif qHm n 167 then some qbP else
 bif qHm n 168 then some qda else
 bif qHm n 169 then some qdg else
 bif qHm n 170 then some qa6 else
 bif qHm n 171 then some qbf else
 bif qHm n 172 then some qbK else
 bif qHm n 173 then some qd7 else
 bif qHm n 175 then some qeS else
 bif qHm n 176 then some qd3 else
 bif qHm n 177 then some ju else
 bif qHm n 178 then some z7 else
 bif qHm n 179 then some zp else
 bif qHm n 180 then some kU else
 bif qHm n 181 then some jH else
 bif qHm n 182 then some f_genrisc_operation else
 bif qHm n 183 then some jB else
 bif qHm n 184 then some ji else
 bif qHm n 185 then some kn else
 bif qHm n 186 then some zE else
 bif qHm n 187 then some qkn else
 bif qHm n 188 then some qnw else
 bif qHm n 189 then some qkj else
 bif qHm n 190 then some qjh else
 bif qHm n 191 then some qmh else
 bif qHm n 194 then some qa9 else
 bif qHm n 196 then some qme else
 bif qHm n 197 then some ql0 else
 bif qHm n 198 then some qaD else
 bif qHm n 199 then some qai else
 bif qHm n 200 then some yE else
 bif qHm n 201 then some qbO else
 bif qHm n 202 then some qdW else
 bif qHm n 203 then some qcW else
 bif qHm n 204 then some jS else
 bif qHm n 205 then some j7 else
 bif qHm n 207 then some y8 else
 bif qHm n 208 then some yd else
 bif qHm n 209 then some zR else
 bif qHm n 210 then some jF else
 bif qHm n 212 then some jj else
 bif qHm n 213 then some z4 else
 bif qHm n 215 then some jE else
 bif qHm n 216 then some qcI else
 bif qHm n 228 then some qjg else
 bif qHm n 229 then some qmf else
 bif qHm n 230 then some qjc else
 bif qHm n 231 then some qlP else
 bif qHm n 233 then some qiX else
 bif qHm n 234 then some kv else
 bif qHm n 235 then some qi0 else
 bif qHm n 236 then some qdU else
 bif qHm n 237 then some qh0 else
 bif qHm n 238 then some qhc else
 bif qHm n 239 then some kI else
 bif qHm n 240 then some qeD else
 bif qHm n 241 then some qea else
 bif qHm n 242 then some qeQ else
 bif qHm n 243 then some qdX else
 bif qHm n 244 then some qey else
 bif qHm n 245 then some qe1 else
 bif qHm n 246 then some qf6 else
 bif qHm n 247 then some qdQ else
 bif qHm n 248 then some qdY else
 bif qHm n 249 then some qeN else
 bif qHm n 250 then some qdK else
 bif qHm n 254 then some qcE else
 bif qHm n 255 then some qf9 else
 bif qHm n 257 then some qi2 else
 bif qHm n 258 then some qi9 else
 bif qHm n 259 then some qnY else
 bif qHm n 261 then some qae else
 bif qHm n 262 then some qd1 else
 bif qHm n 263 then some qef else
 bif qHm n 264 then some jM else
 bif qHm n 265 then some qaH else
 bif qHm n 267 then some yD else
 bif qHm n 269 then some yA else
 bif qHm n 283 then some qf8 else
 bif qHm n 284 then some kG else
 bif qHm n 285 then some qbU else
 bif qHm n 286 then some qcY else
 bif qHm n 291 then some qdm else
 bif qHm n 292 then some qa2 else
 bif qHm n 295 then some qi5 else
 bif qHm n 299 then some qbg else
 bif qHm n 302 then some jG else
 bif qHm n 303 then some qcT else
 bif qHm n 304 then some qde else
 bif qHm n 308 then some qi1 else
 bif qHm n 313 then some qc2 else
 bif qHm n 315 then some qga else
 bif qHm n 324 then some qja else
 bif qHm n 326 then some qf5 else
 bif qHm n 328 then some jl else
 bif qHm n 329 then some zm else
 none
end W
/- The program is what the small semantics runs: the seat's table. -/
set_option linter.unusedVariables false
set_option linter.unusedSimpArgs false
namespace Go.Proofs.YtfgmbblhhmeefaaGreat
open Go.ChangeShapes Go.WideShapes Go.ChangeAt Go.RowKit W
set_option maxRecDepth 100000
theorem own:ownKnob Tryz.prog.godebug=none:=by kernel_rfl
theorem qA5 {H:Type}:Bulk (Rows.uptoBulk (H:=H)) Rows.uptoBulkAll:=
 ⟨fun _=>rfl,fun l=>by cases l<;>simp [Rows.uptoBulk],rfl,fun _ _=>rfl,fun _=>rfl,rfl,fun _ _=>rfl⟩
def pg0:W.Pg:=⟨W.prog,fun _ _ _=>none⟩
def maps:Maps:={fm:=(List.range 352).map fun i=>(i,i),tm:=(List.range 323).map fun i=>(i,i),gl:=[],bk:=[(239,⟨4,true⟩)]}
theorem qGP:qe maps Tryz.prog {loc:=[8,12],org:=[(8,8),(12,12),(81,12),(86,12)],mv:=[(15,8,0),(12,3,0)],bl:=[(1,[1,5,6,7]),(0,[1,5,6])],ll:=[(0,[1,5,6,7])]} true Tryz.f4=some qb:=by kernel_rfl
theorem qGQ:qe maps Tryz.prog {loc:=[1,3],org:=[(1,1),(3,3),(21,3),(27,3),(32,3)],mv:=[],bl:=[],ll:=[]} true Tryz.f7=some qcP:=by kernel_rfl
theorem qG4:qe maps Tryz.prog {loc:=[4],org:=[(4,4)],mv:=[(1,0,0),(1,1,0)],bl:=[],ll:=[],fz:=[(6,0,9)]} false Tryz.f8=some qbp:=by kernel_rfl
theorem qFJ:qe maps Tryz.prog {loc:=[],org:=[],mv:=[(1,1,0),(1,2,1),(1,0,0),(1,2,0)],bl:=[],ll:=[]} true Tryz.f11=some qeb:=by kernel_rfl
theorem qGv:qe maps Tryz.prog {loc:=[10,16],org:=[(10,10),(16,16),(58,16)],mv:=[(9,4,1),(9,1,0),(9,2,1),(9,0,0),(9,2,0),(4,4,0),(4,2,0),(4,3,2),(1,1,0),(1,2,1),(1,0,0),(1,2,0)],bl:=[],ll:=[]} false Tryz.f12=some qfj:=by kernel_rfl
theorem qGD:qe maps Tryz.prog {loc:=[],org:=[],mv:=[],bl:=[],ll:=[]} true Tryz.f13=some qe0:=by kernel_rfl
theorem qGL:qe maps Tryz.prog {loc:=[9],org:=[(9,9),(49,9)],mv:=[(13,4,0),(13,0,0),(13,3,0),(9,8,0),(9,0,0),(9,7,0),(5,1,0),(5,2,1)],bl:=[(1,[0,5,6]),(0,[2,3,4])],ll:=[(0,[0,5,6])]} false Tryz.f15=some qd5:=by kernel_rfl
theorem qFY:qe maps Tryz.prog {loc:=[],org:=[],mv:=[(25,1,0),(25,2,0),(21,2,0),(19,6,1),(5,8,0),(3,8,1),(2,13,1),(1,6,1)],bl:=[(1,[0]),(0,[0])],ll:=[(0,[0])]} false Tryz.f16=some jQ:=by kernel_rfl
theorem qFX:qe maps Tryz.prog {loc:=[1],org:=[(1,1),(7,1),(12,1),(19,1),(26,1),(32,1),(39,1),(45,1),(52,1),(58,1),(64,1),(70,1),(78,1),(84,1),(93,1),(104,1),(110,1),(119,1),(129,1),(139,1),(145,1)],mv:=[],bl:=[(1,[1,3]),(0,[1]),(3,[1,4]),(2,[1]),(5,[1,5]),(4,[1]),(7,[1,6]),(6,[])],ll:=[(0,[1,3]),(2,[1,4]),(4,[1,5]),(6,[1,6])]} true Tryz.f17=some qc3:=by kernel_rfl
theorem qGt:qe maps Tryz.prog {loc:=[15],org:=[(15,15)],mv:=[(18,1,0),(18,2,1),(18,0,0),(18,2,0),(15,8,0),(15,0,0),(15,7,0),(1,1,0),(1,2,1),(1,0,0),(1,2,0)],bl:=[(1,[11,12,13,48,49,50]),(0,[11,12,13])],ll:=[(0,[11,12,13,48,49,50])]} false Tryz.f23=some qi3:=by kernel_rfl
theorem qGq:qe maps Tryz.prog {loc:=[],org:=[],mv:=[(1,6,0),(1,7,0),(1,0,0),(1,1,0),(1,1,63),(1,7,63)],bl:=[],ll:=[]} true Tryz.f24=some qkD:=by kernel_rfl
theorem qFV:qe maps Tryz.prog {loc:=[4],org:=[(4,4)],mv:=[(3,2,1),(3,0,0),(3,1,0)],bl:=[(1,[0,1,4]),(0,[0,4])],ll:=[(0,[0,1,4])]} true Tryz.f25=some qbb:=by kernel_rfl
theorem qFL:qe maps Tryz.prog {loc:=[],org:=[],mv:=[],bl:=[(3,[0,1]),(2,[0,1]),(6,[0,1,6,7]),(5,[0,1,6,7]),(4,[0,1]),(1,[0,1]),(0,[4,5])],ll:=[(0,[0,1]),(2,[0,1]),(4,[0,1,6,7])]} false Tryz.f26=some qee:=by kernel_rfl
theorem qFy:qe maps Tryz.prog {loc:=[4,8],org:=[(4,4),(8,8),(47,8),(50,8)],mv:=[(24,0,0),(24,1,1),(15,1,0),(15,2,1),(15,0,0),(15,2,0),(13,1,0),(13,2,1),(13,0,0),(13,2,0),(12,2,0),(4,9,0),(2,2,0)],bl:=[(2,[0,1,4,7]),(1,[0,1,4,7]),(0,[0,1,4,6]),(3,[0,1,4,6])],ll:=[(1,[0,1,4,7])]} false Tryz.f27=some qbL:=by kernel_rfl
theorem qFr:qe maps Tryz.prog {loc:=[],org:=[],mv:=[(1,0,0),(1,1,0)],bl:=[],ll:=[]} false Tryz.f28=some yp:=by kernel_rfl
theorem qF5:qe maps Tryz.prog {loc:=[],org:=[],mv:=[(2,0,0),(2,1,0),(1,1,0),(1,2,2)],bl:=[],ll:=[]} true Tryz.f29=some y1:=by kernel_rfl
theorem qGo:qe maps Tryz.prog {loc:=[],org:=[],mv:=[(5,0,0),(5,1,0),(3,0,0),(3,1,0)],bl:=[],ll:=[]} true Tryz.f30=some j9:=by kernel_rfl
theorem qFG:qe maps Tryz.prog {loc:=[],org:=[],mv:=[(6,7,0),(6,0,0),(6,6,0)],bl:=[(1,[0,1,5,6]),(0,[5])],ll:=[(0,[0,1,5,6])]} true Tryz.f31=some qbS:=by kernel_rfl
theorem qFR:qe maps Tryz.prog {loc:=[8],org:=[(8,8)],mv:=[],bl:=[(3,[0,3,4,5,6]),(2,[0,3,4,5]),(1,[0,3,4,5]),(0,[3])],ll:=[(0,[0,3,4,5]),(2,[0,3,4,5,6])]} true Tryz.f32=some qdT:=by kernel_rfl
theorem qGi:qe maps Tryz.prog {loc:=[],org:=[],mv:=[],bl:=[(0,[])],ll:=[]} true Tryz.f33=some qcJ:=by kernel_rfl
theorem qFQ:qe maps Tryz.prog {loc:=[],org:=[],mv:=[(2,0,0),(2,1,0),(1,1,0),(1,2,2)],bl:=[],ll:=[]} true Tryz.f35=some ym:=by kernel_rfl
theorem qFD:qe maps Tryz.prog {loc:=[3],org:=[(3,3)],mv:=[(7,1,0),(7,2,0),(5,12,1),(5,5,9),(5,8,0),(0,2,0)],bl:=[(1,[0]),(0,[0])],ll:=[(0,[0])]} false Tryz.f36=some jv:=by kernel_rfl
theorem qFA:qe maps Tryz.prog {loc:=[6],org:=[(6,6)],mv:=[(16,15,1),(7,3,1),(4,6,0),(4,0,0),(4,5,7),(16,11,7)],bl:=[(3,[0,2,3]),(2,[0,2,3]),(5,[0,2,3,6,7]),(4,[0,2]),(1,[0,2]),(0,[])],ll:=[(0,[0,2]),(2,[0,2,3]),(4,[0,2,3,6,7])]} false Tryz.f39=some yh:=by kernel_rfl
theorem qGl:qe maps Tryz.prog {loc:=[7],org:=[(7,7),(10,7),(15,7)],mv:=[(1,3,1),(1,0,0),(1,1,0)],bl:=[],ll:=[]} true Tryz.f40=some ye:=by kernel_rfl
theorem qFN:qe maps Tryz.prog {loc:=[4],org:=[(4,4)],mv:=[(4,4,0),(4,0,0),(4,3,0)],bl:=[(1,[0,3]),(0,[2])],ll:=[(0,[0,3])]} true Tryz.f42=some yz:=by kernel_rfl
theorem qFH:qe maps Tryz.prog {loc:=[2],org:=[(2,2)],mv:=[],bl:=[],ll:=[]} true Tryz.f43=some yP:=by kernel_rfl
theorem qF7:qe maps Tryz.prog {loc:=[],org:=[],mv:=[],bl:=[],ll:=[]} true Tryz.f44=some qeC:=by kernel_rfl
theorem qF3:qe maps Tryz.prog {loc:=[],org:=[],mv:=[],bl:=[(1,[0,3]),(0,[])],ll:=[(0,[0,3])]} true Tryz.f45=some qar:=by kernel_rfl
theorem qFZ:qe maps Tryz.prog {loc:=[],org:=[],mv:=[],bl:=[(3,[0,3,4,5]),(2,[0,3,4]),(1,[0,3,4]),(0,[3])],ll:=[(0,[0,3,4]),(2,[0,3,4,5])]} true Tryz.f46=some qdI:=by kernel_rfl
theorem qGs:qe maps Tryz.prog {loc:=[],org:=[],mv:=[],bl:=[(3,[0,3,4]),(2,[0,3]),(1,[0,3]),(0,[])],ll:=[(0,[0,3]),(2,[0,3,4])]} true Tryz.f47=some qax:=by kernel_rfl
theorem qFW:qe maps Tryz.prog {loc:=[],org:=[],mv:=[],bl:=[(1,[0,3]),(0,[])],ll:=[(0,[0,3])]} true Tryz.f48=some yS:=by kernel_rfl
theorem qGA:qe maps Tryz.prog {loc:=[9,17,19],org:=[(9,9),(17,17),(106,17),(114,17),(19,19),(117,19)],mv:=[(14,1,0),(14,3,1),(13,5,1),(11,7,1),(1,2,0)],bl:=[(1,[0,1,4,5,6,7,9,39]),(0,[0,1,4,5,6,7,9]),(3,[1,9,12]),(2,[1,9,12]),(7,[9,12,17,100,101,102,107,108,109]),(6,[9,12,100,101,102]),(5,[9,12,100,101,102]),(4,[9,12])],ll:=[(0,[0,1,4,5,6,7,9,39]),(4,[9,12,100,101,102]),(6,[9,12,17,100,101,102,107,108,109])],rl:=[(2,[1,4,5,6,7,9,12])],rz:=[(2,160)],fz:=[(39,6,139)]} false Tryz.f54=some qlQ:=by kernel_rfl
theorem qGb:qe maps Tryz.prog {loc:=[],org:=[],mv:=[(3,2,0),(3,7,3),(3,0,0),(3,7,0),(1,1,0),(1,4,2),(1,0,0),(1,4,0)],bl:=[],ll:=[]} false Tryz.f55=some qw:=by kernel_rfl
theorem qFT:qe maps Tryz.prog {loc:=[3],org:=[(3,3),(4,3),(24,3),(50,3),(73,3),(6,3),(10,3),(15,3)],mv:=[(4,0,0),(4,2,0),(3,0,0),(3,3,0),(40,0,0),(40,1,0),(36,0,0),(36,1,0),(32,0,0),(32,1,0),(28,0,0),(28,3,0),(26,0,0),(26,1,0),(21,0,0),(21,1,0),(19,0,0),(19,1,0),(16,0,0),(16,1,0),(12,0,0),(12,1,0),(10,0,0),(10,1,0),(7,0,0),(7,1,0)],bl:=[(0,[])],ll:=[]} false Tryz.f56=some qn:=by kernel_rfl
theorem qGe:qe maps Tryz.prog {loc:=[8],org:=[(8,8),(21,8),(25,8),(33,8),(34,8),(36,8)],mv:=[(10,4,0),(10,0,0),(10,3,0),(6,11,1)],bl:=[(1,[1,6,14,15,16]),(0,[6])],ll:=[(0,[1,6,14,15,16])]} false Tryz.f57=some zG:=by kernel_rfl
theorem qGm:qe maps Tryz.prog {loc:=[],org:=[],mv:=[(3,3,0),(3,2,0),(3,2,6)],bl:=[],ll:=[]} true Tryz.f58=some zC:=by kernel_rfl
theorem qGh:qe maps Tryz.prog {loc:=[],org:=[],mv:=[(3,3,0),(3,2,0),(3,2,6)],bl:=[],ll:=[]} true Tryz.f59=some jz:=by kernel_rfl
theorem qFp:qe maps Tryz.prog {loc:=[3],org:=[(3,3),(59,3),(66,3)],mv:=[(15,0,0),(15,1,0),(13,3,0),(11,3,0),(4,0,0),(4,1,0)],bl:=[(0,[0,4,5]),(1,[])],ll:=[]} true Tryz.f60=some qaE:=by kernel_rfl
theorem qF9:qe maps Tryz.prog {loc:=[2],org:=[(2,2)],mv:=[],bl:=[],ll:=[]} true Tryz.f61=some yO:=by kernel_rfl
theorem qFU:qe maps Tryz.prog {loc:=[],org:=[],mv:=[],bl:=[],ll:=[]} true Tryz.f62=some qdo:=by kernel_rfl
theorem qF1:qe maps Tryz.prog {loc:=[],org:=[],mv:=[],bl:=[],ll:=[]} true Tryz.f63=some qbM:=by kernel_rfl
theorem qGE:qe maps Tryz.prog {loc:=[],org:=[],mv:=[],bl:=[],ll:=[]} true Tryz.f64=some qcB:=by kernel_rfl
theorem qGd:qe maps Tryz.prog {loc:=[],org:=[],mv:=[(1,1,0)],bl:=[(1,[0,3,4]),(0,[])],ll:=[(0,[0,3,4])]} true Tryz.f65=some qbr:=by kernel_rfl
theorem qFu:qe maps Tryz.prog {loc:=[4,11],org:=[(4,4),(11,11),(67,11),(71,11),(76,11),(93,11)],mv:=[(23,3,1),(13,4,1),(5,5,0)],bl:=[(1,[0,1,4,6,7,8,9]),(0,[0,1,4,6,7,8,9])],ll:=[(0,[0,1,4,6,7,8,9])]} false Tryz.f66=some qbT:=by kernel_rfl
theorem qGB:qe maps Tryz.prog {loc:=[],org:=[],mv:=[],bl:=[(1,[0,1,5]),(0,[])],ll:=[(0,[0,1,5])]} true Tryz.f68=some qfb:=by kernel_rfl
theorem qFm:qe maps Tryz.prog {loc:=[],org:=[],mv:=[],bl:=[],ll:=[]} false Tryz.f69=some yy:=by kernel_rfl
theorem qGg:qe maps Tryz.prog {loc:=[],org:=[],mv:=[(1,0,0),(1,1,0)],bl:=[],ll:=[]} true Tryz.f70=some jI:=by kernel_rfl
theorem qFC:qe maps Tryz.prog {loc:=[4],org:=[(4,4)],mv:=[],bl:=[(1,[0,1,4,6]),(0,[4])],ll:=[(0,[0,1,4,6])]} false Tryz.f71=some yf:=by kernel_rfl
theorem qGy:qe maps Tryz.prog {loc:=[5,6],org:=[(5,5),(6,6)],mv:=[(3,0,0),(3,1,0)],bl:=[],ll:=[]} false Tryz.f72=some jA:=by kernel_rfl
theorem qGn:qe maps Tryz.prog {loc:=[],org:=[],mv:=[(2,4,0),(2,1,0),(2,2,0),(1,2,0)],bl:=[],ll:=[]} false Tryz.f73=some yC:=by kernel_rfl
theorem qGp:qe maps Tryz.prog {loc:=[2,3,4,6,8,9],org:=[(2,2),(3,3),(45,3),(48,3),(49,3),(59,3),(94,3),(95,3),(121,3),(122,3),(133,3),(134,3),(4,4),(14,4),(17,4),(6,6),(40,6),(61,6),(67,6),(68,6),(8,8),(99,8),(100,8),(9,9),(126,9),(131,9),(144,9)],mv:=[(32,3,1),(31,2,0),(30,7,1),(30,0,0),(30,6,0),(28,3,1),(27,2,0),(26,8,1),(26,0,0),(26,7,0),(21,11,1),(21,10,1),(20,3,1),(2,3,1),(1,3,1)],bl:=[(0,[0,2,3,5]),(1,[2,3])],ll:=[]} true Tryz.f74=some yl:=by kernel_rfl
theorem qGc:qe maps Tryz.prog {loc:=[],org:=[],mv:=[(1,0,0),(1,1,0)],bl:=[],ll:=[]} false Tryz.f75=some qab:=by kernel_rfl
theorem qFo:qe maps Tryz.prog {loc:=[1],org:=[(1,1),(3,1),(7,1),(8,1),(13,1),(14,1)],mv:=[],bl:=[],ll:=[]} true Tryz.f76=some qf4:=by kernel_rfl
theorem qGk:qe maps Tryz.prog {loc:=[2,3],org:=[(2,2),(3,3),(10,3),(14,3),(15,3),(20,3),(25,3),(34,3)],mv:=[(9,2,1),(9,0,0),(9,1,0),(8,0,0),(8,1,0),(6,2,0),(5,6,1),(5,3,0),(5,4,0),(2,3,1),(1,2,0)],bl:=[(0,[0,2])],ll:=[]} true Tryz.f78=some yZ:=by kernel_rfl
theorem qGF:qe maps Tryz.prog {loc:=[3],org:=[(3,3),(4,3),(7,3),(11,3),(15,3),(21,3)],mv:=[(4,0,0),(4,1,0)],bl:=[(1,[0,3]),(0,[0,3])],ll:=[(0,[0,3])]} false Tryz.f79=some yg:=by kernel_rfl
theorem qFz:qe maps Tryz.prog {loc:=[3],org:=[(3,3)],mv:=[(3,0,0),(3,1,0)],bl:=[],ll:=[]} true Tryz.f80=some j8:=by kernel_rfl
theorem qF4:qe maps Tryz.prog {loc:=[4,5,6],org:=[(4,4),(11,4),(16,4),(17,4),(22,4),(27,4),(5,5),(7,5),(6,6)],mv:=[(2,5,1)],bl:=[],ll:=[]} true Tryz.f84=some jP:=by kernel_rfl
theorem qGf:qe maps Tryz.prog {loc:=[3,4],org:=[(3,3),(7,3),(31,3),(4,4),(21,4),(25,4),(29,4)],mv:=[(8,3,0)],bl:=[(0,[])],ll:=[]} true Tryz.f85=some qec:=by kernel_rfl
theorem qFB:qe maps Tryz.prog {loc:=[2],org:=[(2,2)],mv:=[(14,2,1),(14,0,0),(14,1,0),(13,2,0),(12,2,1),(12,0,0),(12,1,0),(11,2,0),(10,2,1),(10,0,0),(10,1,0),(9,2,0),(8,0,0),(8,1,0),(6,2,0),(5,2,0),(4,2,1),(4,0,0),(4,1,0),(3,2,0),(2,2,1),(2,0,0),(2,1,0),(1,2,0)],bl:=[(0,[2])],ll:=[]} false Tryz.f86=some yu:=by kernel_rfl
theorem qGH:qe maps Tryz.prog {loc:=[2],org:=[(2,2),(9,2),(15,2),(22,2),(28,2)],mv:=[],bl:=[(1,[1,2,5]),(0,[])],ll:=[(0,[1,2,5])]} true Tryz.f87=some qah:=by kernel_rfl
theorem qGM:qe maps Tryz.prog {loc:=[1],org:=[(1,1),(6,1),(13,1)],mv:=[],bl:=[(1,[1,3,4]),(0,[3])],ll:=[(0,[1,3,4])]} true Tryz.f88=some qc8:=by kernel_rfl
theorem qF8:qe maps Tryz.prog {loc:=[1],org:=[(1,1),(4,1),(9,1),(16,1),(22,1),(28,1)],mv:=[],bl:=[(1,[1,3]),(0,[])],ll:=[(0,[1,3])]} true Tryz.f89=some y9:=by kernel_rfl
theorem qGa:qe maps Tryz.prog {loc:=[2],org:=[(2,2)],mv:=[(1,1,0),(1,3,1)],bl:=[],ll:=[]} false Tryz.f92=some qdr:=by kernel_rfl
theorem qFx:qe maps Tryz.prog {loc:=[6,8],org:=[(6,6),(8,8)],mv:=[],bl:=[(1,[0,3,4,11,12,13]),(0,[0,3,4]),(3,[0,3,4,21,22,23]),(2,[])],ll:=[(0,[0,3,4,11,12,13]),(2,[0,3,4,21,22,23])]} true Tryz.f98=some qkF:=by kernel_rfl
theorem qFI:qe maps Tryz.prog {loc:=[8],org:=[(8,8),(33,8)],mv:=[],bl:=[(3,[2,3,4,11,12,13]),(2,[2,3,4,11,12,13]),(1,[2,3,4,11,12,13]),(0,[3])],ll:=[(0,[2,3,4,11,12,13])],rl:=[(2,[2,3,4,6,11,12,13])],rk:=[(2,239)]} true Tryz.f99=some qlZ:=by kernel_rfl
theorem qC0:qe maps Tryz.prog {loc:=[],org:=[],mv:=[(1,9,1),(1,6,7)],bl:=[],ll:=[]} true Tryz.f100=some qdP:=by kernel_rfl
theorem qEs:qe maps Tryz.prog {loc:=[2],org:=[(2,2)],mv:=[(1,12,0),(1,13,0)],bl:=[],ll:=[]} true Tryz.f101=some qdL:=by kernel_rfl
theorem qB3:qe maps Tryz.prog {loc:=[10,12,14,16,18],org:=[(10,10),(25,10),(36,10),(12,12),(39,12),(14,14),(55,14),(66,14),(81,14),(92,14),(103,14),(16,16),(69,16),(76,16),(18,18),(95,18),(106,18)],mv:=[],bl:=[(3,[0,1,2,8,10,19,20,21,26,27,28]),(2,[0,1,2,8,19,20,21]),(1,[0,1,2,8,19,20,21]),(0,[0,1,2,8]),(7,[0,1,8,14,49,50,51,56,57,58]),(6,[0,1,8,14,49,50,51]),(9,[0,1,8,14,49,50,51,82,83,84]),(8,[0,1,8,49,50,51]),(5,[0,1,8,49,50,51]),(4,[1,8])],ll:=[(0,[0,1,2,8,19,20,21]),(2,[0,1,2,8,10,19,20,21,26,27,28]),(4,[0,1,8,49,50,51]),(6,[0,1,8,14,49,50,51,56,57,58]),(8,[0,1,8,14,49,50,51,82,83,84])]} false Tryz.f102=some qcH:=by kernel_rfl
theorem qFl:qe maps Tryz.prog {loc:=[],org:=[],mv:=[(2,0,0),(2,2,0),(1,1,0),(1,2,1),(0,1,0),(0,2,1)],bl:=[],ll:=[]} false Tryz.f103=some qdR:=by kernel_rfl
theorem qCv:qe maps Tryz.prog {loc:=[],org:=[],mv:=[(1,8,1)],bl:=[(1,[3,17]),(0,[3])],ll:=[(0,[3,17])]} true Tryz.f104=some qcF:=by kernel_rfl
theorem qCG:qe maps Tryz.prog {loc:=[6],org:=[(6,6),(20,6)],mv:=[(8,0,0),(8,2,0),(7,1,0),(7,2,1),(0,2,0)],bl:=[(1,[0,4,13,14,15]),(0,[0,4])],ll:=[(0,[0,4,13,14,15])]} false Tryz.f105=some qfe:=by kernel_rfl
theorem qCP:qe maps Tryz.prog {loc:=[],org:=[],mv:=[],bl:=[(1,[0,3]),(0,[])],ll:=[(0,[0,3])]} false Tryz.f106=some qd9:=by kernel_rfl
theorem qE6:qe maps Tryz.prog {loc:=[],org:=[],mv:=[(6,0,0),(6,1,0)],bl:=[],ll:=[]} false Tryz.f107=some qbR:=by kernel_rfl
theorem qEW:qe maps Tryz.prog {loc:=[],org:=[],mv:=[(3,22,1)],bl:=[(1,[0,7,8,9]),(0,[])],ll:=[(0,[0,7,8,9])]} false Tryz.f109=some qf2:=by kernel_rfl
theorem qDO:qe maps Tryz.prog {loc:=[],org:=[],mv:=[(2,0,0),(2,7,0),(1,0,0),(1,8,0)],bl:=[],ll:=[]} false Tryz.f110=some kM:=by kernel_rfl
theorem qD6:qe maps Tryz.prog {loc:=[3],org:=[(3,3)],mv:=[(1,11,1),(1,4,9),(1,8,0)],bl:=[],ll:=[]} false Tryz.f111=some jx:=by kernel_rfl
theorem qCl:qe maps Tryz.prog {loc:=[],org:=[],mv:=[(1,0,0),(1,1,0),(0,1,0),(0,2,1)],bl:=[],ll:=[]} false Tryz.f112=some ja:=by kernel_rfl
theorem qEZ:qe maps Tryz.prog {loc:=[],org:=[],mv:=[(0,0,0),(0,6,0)],bl:=[],ll:=[]} false Tryz.f113=some je:=by kernel_rfl
theorem qCz:qe maps Tryz.prog {loc:=[],org:=[],mv:=[(0,0,0),(0,3,0)],bl:=[],ll:=[]} false Tryz.f114=some z8:=by kernel_rfl
theorem qFa:qe maps Tryz.prog {loc:=[],org:=[],mv:=[(1,0,0),(1,1,0)],bl:=[],ll:=[]} false Tryz.f115=some jf:=by kernel_rfl
theorem qDP:qe maps Tryz.prog {loc:=[],org:=[],mv:=[(0,0,0),(0,6,0)],bl:=[],ll:=[]} false Tryz.f116=some zI:=by kernel_rfl
theorem qFd:qe maps Tryz.prog {loc:=[],org:=[],mv:=[(10,0,0),(10,1,0)],bl:=[(0,[0])],ll:=[]} false Tryz.f117=some kN:=by kernel_rfl
theorem qD4:qe maps Tryz.prog {loc:=[],org:=[],mv:=[(1,1,0),(1,2,1),(1,0,0),(1,2,0)],bl:=[],ll:=[]} false Tryz.f119=some jC:=by kernel_rfl
theorem qFe:qe maps Tryz.prog {loc:=[],org:=[],mv:=[(1,0,0),(1,3,0),(1,1,0),(1,2,0),(15,0,0),(15,1,0),(13,0,0),(13,1,0),(11,0,0),(11,1,0),(9,0,0),(9,1,0),(4,1,0),(4,2,1),(4,0,0),(4,2,0)],bl:=[(0,[])],ll:=[]} false Tryz.f120=some f_genrisc_gen_reckon:=by kernel_rfl
theorem qFg:qe maps Tryz.prog {loc:=[3],org:=[(3,3),(4,3),(13,3),(19,3),(27,3),(33,3),(39,3)],mv:=[(16,0,0),(16,1,0),(14,0,0),(14,3,0),(12,0,0),(12,3,0),(10,0,0),(10,3,0),(7,0,0),(7,3,0),(5,0,0),(5,3,0),(3,0,0),(3,1,0)],bl:=[(0,[])],ll:=[]} false Tryz.f121=some f_genrisc_gen_leads:=by kernel_rfl
theorem qEe:qe maps Tryz.prog {loc:=[1],org:=[(1,1),(8,1),(12,1),(17,1),(22,1),(28,1),(32,1),(37,1),(42,1),(47,1),(51,1),(56,1),(61,1),(66,1),(70,1),(75,1),(81,1),(84,1),(90,1),(95,1)],mv:=[],bl:=[(0,[1,4])],ll:=[]} false Tryz.f122=some qi4:=by kernel_rfl
theorem qCo:qe maps Tryz.prog {loc:=[2,4],org:=[(2,2),(4,4),(29,4),(38,4),(39,4),(40,4),(42,4),(52,4),(53,4),(54,4),(56,4),(63,4),(64,4),(66,4),(70,4),(26,4),(27,4)],mv:=[(2,8,1),(2,6,1),(10,3,1),(8,7,1),(8,5,1),(6,12,1),(6,10,1),(6,8,1),(4,11,1),(4,9,1),(4,7,1)],bl:=[(0,[0,2,4])],ll:=[]} false Tryz.f124=some qji:=by kernel_rfl
theorem qCm:qe maps Tryz.prog {loc:=[3],org:=[(3,3),(13,3),(20,3),(26,3),(29,3),(32,3),(36,3),(41,3),(44,3),(48,3),(52,3),(145,3)],mv:=[(40,3,0),(40,4,2),(40,0,0),(40,4,0),(39,8,1),(39,5,0),(33,5,0),(33,3,0),(33,4,3),(33,2,0),(33,4,2),(31,5,0),(31,3,0),(31,4,3),(31,2,0),(31,4,2),(20,6,0),(18,6,0),(16,6,0),(3,3,0)],bl:=[(0,[0,3,7])],ll:=[]} true Tryz.f125=some yB:=by kernel_rfl
theorem qEu:qe maps Tryz.prog {loc:=[3],org:=[(3,3),(11,3),(17,3),(37,3),(42,3),(51,3),(61,3),(76,3),(85,3),(122,3),(131,3),(142,3)],mv:=[(23,3,0),(23,4,2),(23,0,0),(23,4,0),(18,3,0),(18,4,2),(18,0,0),(18,4,0),(16,7,0),(12,17,1),(12,4,9),(12,14,0),(2,3,0)],bl:=[(0,[])],ll:=[]} true Tryz.f126=some qaG:=by kernel_rfl
theorem qEp:qe maps Tryz.prog {loc:=[3],org:=[(3,3),(14,3),(20,3),(24,3),(28,3),(36,3),(40,3),(44,3),(51,3),(56,3),(73,3)],mv:=[(15,6,1),(10,10,1),(6,8,0)],bl:=[(0,[7])],ll:=[]} false Tryz.f127=some yY:=by kernel_rfl
theorem qCn:qe maps Tryz.prog {loc:=[],org:=[],mv:=[(1,1,0)],bl:=[],ll:=[]} true Tryz.f128=some qaF:=by kernel_rfl
theorem qDf:qe maps Tryz.prog {loc:=[],org:=[],mv:=[(2,3,0),(1,2,0)],bl:=[(0,[])],ll:=[]} true Tryz.f129=some qeV:=by kernel_rfl
theorem qC9:qe maps Tryz.prog {loc:=[2,5,7],org:=[(2,2),(5,5),(18,5),(19,5),(25,5),(26,5),(31,5),(52,5),(53,5),(63,5),(64,5),(72,5),(73,5),(82,5),(7,7),(55,7),(56,7)],mv:=[(21,9,1),(19,3,1),(15,2,0),(13,2,0),(11,2,0),(9,7,1),(4,3,1),(3,2,0),(1,2,0)],bl:=[(2,[0,2,5,6]),(1,[0,2,5]),(0,[2])],ll:=[(0,[0,2,5])]} true Tryz.f130=some jR:=by kernel_rfl
theorem qEo:qe maps Tryz.prog {loc:=[4,5],org:=[(4,4),(7,4),(14,4),(5,5),(16,5),(21,5),(25,5),(31,5),(35,5)],mv:=[(10,15,0)],bl:=[(0,[])],ll:=[]} true Tryz.f131=some j6:=by kernel_rfl
theorem qEi:qe maps Tryz.prog {loc:=[3,4,5],org:=[(3,3),(4,4),(5,5)],mv:=[(5,1,0),(5,2,1),(5,0,0),(5,2,0)],bl:=[],ll:=[]} true Tryz.f132=some yw:=by kernel_rfl
theorem qC3:qe maps Tryz.prog {loc:=[2],org:=[(2,2)],mv:=[(1,2,1),(1,0,0),(1,1,0)],bl:=[],ll:=[]} true Tryz.f133=some qcQ:=by kernel_rfl
theorem qDp:qe maps Tryz.prog {loc:=[2,4],org:=[(2,2),(4,4),(23,4),(35,4),(40,4)],mv:=[(16,0,0),(16,1,0),(14,5,1),(14,1,0),(14,4,1),(11,4,1),(10,1,1),(8,1,1),(6,1,1),(4,1,1),(1,2,0)],bl:=[(0,[0,2,3])],ll:=[]} true Tryz.f134=some yj:=by kernel_rfl
theorem qBS:qe maps Tryz.prog {loc:=[4],org:=[(4,4)],mv:=[(1,0,0),(1,1,0)],bl:=[],ll:=[]} true Tryz.f140=some qfa:=by kernel_rfl
theorem qDa:qe maps Tryz.prog {loc:=[2,3],org:=[(2,2),(6,2),(11,2),(15,2),(21,2),(30,2),(36,2),(51,2),(3,3),(8,3),(17,3),(24,3),(41,3),(53,3)],mv:=[],bl:=[(2,[2,3,5]),(1,[]),(0,[])],ll:=[(1,[2,3,5])]} true Tryz.f141=some qd6:=by kernel_rfl
theorem qEV:qe maps Tryz.prog {loc:=[2],org:=[(2,2)],mv:=[(1,2,1),(1,0,0),(1,1,0)],bl:=[],ll:=[]} true Tryz.f144=some yi:=by kernel_rfl
theorem qC2:qe maps Tryz.prog {loc:=[2,4,6,7],org:=[(2,2),(4,4),(23,4),(29,4),(101,4),(102,4),(103,4),(108,4),(6,6),(55,6),(56,6),(61,6),(62,6),(72,6),(73,6),(80,6),(84,6),(7,7),(45,7),(49,7),(50,7),(69,7),(86,7)],mv:=[(21,3,1),(21,1,0),(21,2,1),(21,0,0),(21,2,0),(20,3,0),(20,4,2),(20,0,0),(20,4,0),(15,5,1),(14,0,0),(14,17,0),(12,3,1),(9,7,1),(4,3,1),(4,1,0),(4,2,1),(4,0,0),(4,2,0)],bl:=[(0,[0,2,5])],ll:=[]} true Tryz.f147=some zM:=by kernel_rfl
theorem qBM:qe maps Tryz.prog {loc:=[3],org:=[(3,3),(21,3),(26,3),(39,3),(45,3),(52,3),(63,3),(66,3),(99,3)],mv:=[(5,5,0),(5,6,2),(5,4,0),(5,6,1)],bl:=[(2,[1,2,3,12,14,15]),(1,[2,3,14]),(0,[])],ll:=[(1,[1,2,3,12,14,15])]} false Tryz.f148=some qcV:=by kernel_rfl
theorem qD8:qe maps Tryz.prog {loc:=[1,7],org:=[(1,1),(10,1),(26,1),(7,7),(17,7),(22,7)],mv:=[(10,2,0),(10,3,1)],bl:=[(1,[1,3,4,5,11,12,13]),(0,[1,3,5])],ll:=[(0,[1,3,4,5,11,12,13])]} true Tryz.f153=some ql1:=by kernel_rfl
theorem qDv:qe maps Tryz.prog {loc:=[2,9],org:=[(2,2),(18,2),(9,9),(26,9)],mv:=[(1,6,0)],bl:=[(1,[6,7,19,20,21]),(0,[7])],ll:=[(0,[6,7,19,20,21])]} false Tryz.f154=some qlW:=by kernel_rfl
theorem qDs:qe maps Tryz.prog {loc:=[1,5],org:=[(1,1),(6,1),(9,1),(13,1),(5,5),(21,5)],mv:=[],bl:=[(1,[1,3,14,15,16]),(0,[1,3])],ll:=[(0,[1,3,14,15,16])]} true Tryz.f155=some qj5:=by kernel_rfl
theorem qD7:qe maps Tryz.prog {loc:=[],org:=[],mv:=[],bl:=[],ll:=[]} true Tryz.f156=some kR:=by kernel_rfl
theorem qC5:qe maps Tryz.prog {loc:=[3],org:=[(3,3),(7,3),(11,3),(14,3),(27,3),(47,3)],mv:=[(3,2,0),(3,7,0)],bl:=[(0,[])],ll:=[]} true Tryz.f157=some qd8:=by kernel_rfl
theorem qCc:qe maps Tryz.prog {loc:=[],org:=[],mv:=[(0,1,0),(0,2,2),(0,0,0),(0,2,0)],bl:=[],ll:=[]} false Tryz.f158=some qe8:=by kernel_rfl
theorem qD0:qe maps Tryz.prog {loc:=[],org:=[],mv:=[(3,1,0),(3,2,1)],bl:=[(1,[0,6,7,8]),(0,[])],ll:=[(0,[0,6,7,8])]} false Tryz.f159=some qgb:=by kernel_rfl
theorem qBG:qe maps Tryz.prog {loc:=[],org:=[],mv:=[],bl:=[(1,[0,5,6,7]),(0,[])],ll:=[(0,[0,5,6,7])]} false Tryz.f160=some qbo:=by kernel_rfl
theorem qER:qe maps Tryz.prog {loc:=[],org:=[],mv:=[],bl:=[],ll:=[]} true Tryz.f161=some qdM:=by kernel_rfl
theorem qDX:qe maps Tryz.prog {loc:=[5],org:=[(5,5)],mv:=[],bl:=[(1,[0,7,8,9]),(0,[])],ll:=[(0,[0,7,8,9])]} false Tryz.f162=some qes:=by kernel_rfl
theorem qCs:qe maps Tryz.prog {loc:=[],org:=[],mv:=[(0,12,1)],bl:=[],ll:=[]} false Tryz.f163=some qdh:=by kernel_rfl
theorem qDM:qe maps Tryz.prog {loc:=[],org:=[],mv:=[],bl:=[],ll:=[]} false Tryz.f164=some qeK:=by kernel_rfl
theorem qBQ:qe maps Tryz.prog {loc:=[],org:=[],mv:=[(0,12,1),(0,9,7)],bl:=[],ll:=[]} false Tryz.f165=some qeP:=by kernel_rfl
theorem qBL:qe maps Tryz.prog {loc:=[],org:=[],mv:=[(10,0,0),(10,1,0)],bl:=[],ll:=[]} false Tryz.f166=some qbm:=by kernel_rfl
theorem qDg:qe maps Tryz.prog {loc:=[],org:=[],mv:=[(24,0,0),(24,1,0),(22,1,0),(22,2,1),(21,1,0),(21,2,2),(16,1,0),(16,2,1),(7,2,0),(1,5,0),(1,4,0)],bl:=[],ll:=[]} false Tryz.f167=some qbP:=by kernel_rfl
theorem qEL:qe maps Tryz.prog {loc:=[],org:=[],mv:=[(20,0,0),(20,1,0)],bl:=[],ll:=[]} false Tryz.f168=some qda:=by kernel_rfl
theorem qCA:qe maps Tryz.prog {loc:=[],org:=[],mv:=[(13,0,0),(13,1,0),(11,1,0),(11,2,1),(1,2,0)],bl:=[],ll:=[]} false Tryz.f169=some qdg:=by kernel_rfl
theorem qBz:qe maps Tryz.prog {loc:=[],org:=[],mv:=[(22,0,0),(22,1,0),(20,1,0),(20,2,1),(5,1,0),(5,2,1),(1,2,0)],bl:=[(1,[0,2,13]),(0,[0,2])],ll:=[(0,[0,2,13])]} false Tryz.f170=some qa6:=by kernel_rfl
theorem qEg:qe maps Tryz.prog {loc:=[],org:=[],mv:=[(42,0,0),(42,1,0),(41,1,0),(41,2,1),(40,1,0),(40,2,2),(32,1,0),(32,2,2),(1,8,0),(1,7,0),(1,6,0)],bl:=[],ll:=[]} false Tryz.f171=some qbf:=by kernel_rfl
theorem qBU:qe maps Tryz.prog {loc:=[],org:=[],mv:=[(15,0,0),(15,1,0),(14,1,0),(14,2,1),(12,1,0),(12,2,1),(11,1,0),(11,2,2),(2,2,0),(1,5,0),(1,4,0)],bl:=[],ll:=[]} false Tryz.f172=some qbK:=by kernel_rfl
theorem qCO:qe maps Tryz.prog {loc:=[],org:=[],mv:=[],bl:=[],ll:=[]} false Tryz.f173=some qd7:=by kernel_rfl
theorem qE3:qe maps Tryz.prog {loc:=[],org:=[],mv:=[(1,0,0),(1,2,0)],bl:=[],ll:=[]} false Tryz.f175=some qeS:=by kernel_rfl
theorem qCN:qe maps Tryz.prog {loc:=[3],org:=[(3,3),(4,3),(33,3),(50,3),(68,3),(84,3),(94,3),(7,3),(12,3),(17,3)],mv:=[(6,0,0),(6,2,0),(5,0,0),(5,2,0),(35,0,0),(35,2,0),(33,0,0),(33,2,0),(31,0,0),(31,2,0),(28,0,0),(28,2,0),(22,0,0),(22,1,0),(14,0,0),(14,2,0),(8,0,0),(8,3,0)],bl:=[(0,[])],ll:=[]} false Tryz.f176=some qd3:=by kernel_rfl
theorem qEk:qe maps Tryz.prog {loc:=[],org:=[],mv:=[(0,0,0),(0,6,0)],bl:=[],ll:=[]} false Tryz.f177=some ju:=by kernel_rfl
theorem qDt:qe maps Tryz.prog {loc:=[],org:=[],mv:=[(0,0,0),(0,5,0)],bl:=[],ll:=[]} false Tryz.f178=some z7:=by kernel_rfl
theorem qCX:qe maps Tryz.prog {loc:=[],org:=[],mv:=[(1,0,0),(1,1,0)],bl:=[],ll:=[]} false Tryz.f179=some zp:=by kernel_rfl
theorem qCC:qe maps Tryz.prog {loc:=[],org:=[],mv:=[(6,0,0),(6,1,0),(2,1,0),(2,2,1)],bl:=[],ll:=[]} false Tryz.f180=some kU:=by kernel_rfl
theorem qDq:qe maps Tryz.prog {loc:=[],org:=[],mv:=[(2,0,0),(2,1,0),(1,1,0),(1,2,1)],bl:=[],ll:=[]} false Tryz.f181=some jH:=by kernel_rfl
theorem qEx:qe maps Tryz.prog {loc:=[],org:=[],mv:=[],bl:=[(0,[])],ll:=[]} true Tryz.f182=some f_genrisc_operation:=by kernel_rfl
theorem qFi:qe maps Tryz.prog {loc:=[],org:=[],mv:=[(0,0,0),(0,3,0)],bl:=[],ll:=[]} false Tryz.f183=some jB:=by kernel_rfl
theorem qFf:qe maps Tryz.prog {loc:=[],org:=[],mv:=[(0,15,1),(0,4,9),(0,12,0)],bl:=[],ll:=[]} false Tryz.f184=some ji:=by kernel_rfl
theorem qDI:qe maps Tryz.prog {loc:=[],org:=[],mv:=[(12,0,0),(12,1,0),(7,1,0),(7,2,2)],bl:=[],ll:=[]} false Tryz.f185=some kn:=by kernel_rfl
theorem qB2:qe maps Tryz.prog {loc:=[],org:=[],mv:=[(4,0,0),(4,2,0)],bl:=[],ll:=[]} false Tryz.f186=some zE:=by kernel_rfl
theorem qEX:qe maps Tryz.prog {loc:=[1],org:=[(1,1),(3,1),(8,1),(14,1),(20,1),(25,1),(29,1),(34,1),(38,1),(43,1),(49,1),(53,1),(58,1),(64,1),(68,1),(72,1),(74,1),(78,1),(82,1),(86,1)],mv:=[],bl:=[(0,[])],ll:=[]} true Tryz.f187=some qkn:=by kernel_rfl
theorem qDh:qe maps Tryz.prog {loc:=[],org:=[],mv:=[],bl:=[],ll:=[]} true Tryz.f188=some qnw:=by kernel_rfl
theorem qCS:qe maps Tryz.prog {loc:=[],org:=[],mv:=[(1,5,0)],bl:=[],ll:=[]} true Tryz.f189=some qkj:=by kernel_rfl
theorem qCU:qe maps Tryz.prog {loc:=[],org:=[],mv:=[],bl:=[],ll:=[]} true Tryz.f190=some qjh:=by kernel_rfl
theorem qE0:qe maps Tryz.prog {loc:=[],org:=[],mv:=[(1,1,0),(1,2,0)],bl:=[],ll:=[]} true Tryz.f191=some qmh:=by kernel_rfl
theorem qCt:qe maps Tryz.prog {loc:=[5],org:=[(5,5),(26,5)],mv:=[(5,2,0),(5,3,2),(5,1,0),(5,3,1),(5,0,0),(5,3,0),(1,3,0)],bl:=[],ll:=[]} true Tryz.f194=some qa9:=by kernel_rfl
theorem qC7:qe maps Tryz.prog {loc:=[],org:=[],mv:=[],bl:=[],ll:=[]} false Tryz.f196=some qme:=by kernel_rfl
theorem qFh:qe maps Tryz.prog {loc:=[],org:=[],mv:=[],bl:=[],ll:=[]} false Tryz.f197=some ql0:=by kernel_rfl
theorem qCd:qe maps Tryz.prog {loc:=[],org:=[],mv:=[],bl:=[],ll:=[]} false Tryz.f198=some qaD:=by kernel_rfl
theorem qD1:qe maps Tryz.prog {loc:=[],org:=[],mv:=[],bl:=[(0,[1,5])],ll:=[]} true Tryz.f199=some qai:=by kernel_rfl
theorem qBY:qe maps Tryz.prog {loc:=[2,3,7],org:=[(2,2),(3,3),(10,3),(11,3),(55,3),(7,7),(46,7),(47,7)],mv:=[(18,9,1),(16,3,1),(12,2,0),(10,2,0),(8,2,0),(6,2,0),(5,3,0),(4,2,0),(1,3,1)],bl:=[(2,[0,2,3,4,5,6]),(1,[0,2,3]),(0,[2])],ll:=[(0,[0,2,3])]} true Tryz.f200=some yE:=by kernel_rfl
theorem qDK:qe maps Tryz.prog {loc:=[],org:=[],mv:=[],bl:=[],ll:=[]} true Tryz.f201=some qbO:=by kernel_rfl
theorem qCq:qe maps Tryz.prog {loc:=[1,2],org:=[(1,1),(18,1),(19,1),(2,2)],mv:=[(6,5,1),(6,3,0),(6,4,1)],bl:=[],ll:=[]} false Tryz.f202=some qdW:=by kernel_rfl
theorem qCY:qe maps Tryz.prog {loc:=[2],org:=[(2,2)],mv:=[],bl:=[],ll:=[]} true Tryz.f203=some qcW:=by kernel_rfl
theorem qEI:qe maps Tryz.prog {loc:=[4,5],org:=[(4,4),(5,5)],mv:=[],bl:=[],ll:=[]} true Tryz.f204=some jS:=by kernel_rfl
theorem qEH:qe maps Tryz.prog {loc:=[6,7],org:=[(6,6),(7,7),(21,7),(27,7),(36,7),(43,7),(51,7),(57,7),(66,7),(73,7),(81,7),(87,7),(96,7),(110,7),(116,7),(125,7),(132,7),(140,7),(146,7),(155,7),(162,7)],mv:=[(1,0,0),(1,2,0)],bl:=[(1,[1,2,6,7,9]),(0,[1,2,6,7]),(3,[1,2,6,7,10]),(2,[1,2,6,7]),(5,[1,2,6,7,11]),(4,[2,6,7]),(7,[2,6,7,12]),(6,[2,6,7]),(9,[2,6,7,13]),(8,[6])],ll:=[(0,[1,2,6,7,9]),(2,[1,2,6,7,10]),(4,[1,2,6,7,11]),(6,[2,6,7,12]),(8,[2,6,7,13])]} true Tryz.f205=some j7:=by kernel_rfl
theorem qEG:qe maps Tryz.prog {loc:=[4,5],org:=[(4,4),(5,5),(13,5),(14,5)],mv:=[(2,0,0),(2,6,0),(1,7,1)],bl:=[],ll:=[]} true Tryz.f207=some y8:=by kernel_rfl
theorem qCJ:qe maps Tryz.prog {loc:=[2,5],org:=[(2,2),(5,5),(12,5),(29,5),(33,5)],mv:=[(6,8,1),(6,0,0),(6,3,0),(5,2,0),(2,4,1),(1,2,0)],bl:=[],ll:=[]} false Tryz.f208=some yd:=by kernel_rfl
theorem qEN:qe maps Tryz.prog {loc:=[3],org:=[(3,3),(6,3),(11,3),(17,3),(22,3),(36,3),(41,3)],mv:=[(11,6,0),(11,0,0),(11,5,0)],bl:=[(2,[0,3,5]),(1,[]),(0,[3])],ll:=[(1,[0,3,5])]} true Tryz.f209=some zR:=by kernel_rfl
theorem qDU:qe maps Tryz.prog {loc:=[2,3],org:=[(2,2),(3,3),(7,3),(8,3)],mv:=[(2,0,0),(2,5,0),(1,3,1)],bl:=[],ll:=[]} true Tryz.f210=some jF:=by kernel_rfl
theorem qCV:qe maps Tryz.prog {loc:=[4,5,6],org:=[(4,4),(5,5),(16,5),(19,5),(24,5),(27,5),(35,5),(38,5),(49,5),(55,5),(56,5),(62,5),(63,5),(6,6)],mv:=[(25,0,0),(25,1,0),(24,6,1),(22,6,1),(20,5,1),(18,3,1),(12,5,1),(10,5,1),(10,3,7)],bl:=[(0,[0,4,5])],ll:=[],fz:=[(26,0,5)]} true Tryz.f212=some jj:=by kernel_rfl
theorem qDB:qe maps Tryz.prog {loc:=[3,4,5],org:=[(3,3),(15,3),(16,3),(22,3),(23,3),(51,3),(52,3),(59,3),(60,3),(79,3),(80,3),(4,4),(5,5),(73,5),(77,5),(93,5),(96,5)],mv:=[(17,3,1),(15,2,1),(13,2,0),(11,3,1),(9,3,1),(8,2,0),(7,5,1),(5,2,1),(3,2,0)],bl:=[(4,[0,3,4]),(3,[0,3,4]),(2,[0,3,4]),(1,[0,3,4]),(0,[3,4])],ll:=[(0,[0,3,4]),(3,[0,3,4])]} true Tryz.f213=some z4:=by kernel_rfl
theorem qDk:qe maps Tryz.prog {loc:=[4,5,7],org:=[(4,4),(5,5),(15,5),(79,5),(80,5),(86,5),(87,5),(93,5),(94,5),(72,5),(73,5),(7,7),(41,7),(45,7),(46,7),(54,7),(55,7),(60,7),(61,7)],mv:=[(21,0,0),(21,1,0),(14,5,1),(13,13,0),(12,3,1),(20,6,1),(18,6,1),(16,6,1),(4,0,0),(4,1,0)],bl:=[(0,[0,4,5])],ll:=[]} true Tryz.f215=some jE:=by kernel_rfl
theorem qEC:qe maps Tryz.prog {loc:=[1],org:=[(1,1),(3,1),(10,1),(14,1),(19,1),(26,1),(30,1),(35,1),(40,1),(46,1),(55,1),(59,1),(64,1)],mv:=[],bl:=[(0,[])],ll:=[]} true Tryz.f216=some qcI:=by kernel_rfl
theorem qDj:qe maps Tryz.prog {loc:=[4],org:=[(4,4)],mv:=[],bl:=[(1,[1,5,6,7]),(0,[])],ll:=[(0,[1,5,6,7])]} false Tryz.f228=some qjg:=by kernel_rfl
theorem qBZ:qe maps Tryz.prog {loc:=[1,5],org:=[(1,1),(6,1),(5,5)],mv:=[],bl:=[(1,[3,7,8,9]),(0,[3])],ll:=[(0,[3,7,8,9])]} true Tryz.f229=some qmf:=by kernel_rfl
theorem qDJ:qe maps Tryz.prog {loc:=[2],org:=[(2,2),(4,2)],mv:=[],bl:=[],ll:=[]} false Tryz.f230=some qjc:=by kernel_rfl
theorem qBR:qe maps Tryz.prog {loc:=[7,9],org:=[(7,7),(21,7),(32,7),(9,9)],mv:=[(12,0,0),(12,3,0)],bl:=[(3,[1,2,7,12,13,14,22,23,24]),(2,[1,2,7,12,13,14]),(5,[1,2,12,13,14,33,34,35]),(4,[1,2,12,13,14]),(1,[1,2,12,13,14]),(0,[])],ll:=[(0,[1,2,12,13,14]),(2,[1,2,7,12,13,14,22,23,24]),(4,[1,2,12,13,14,33,34,35])]} false Tryz.f231=some qlP:=by kernel_rfl
theorem qBF:qe maps Tryz.prog {loc:=[1],org:=[(1,1)],mv:=[],bl:=[],ll:=[]} false Tryz.f233=some qiX:=by kernel_rfl
theorem qCH:qe maps Tryz.prog {loc:=[],org:=[],mv:=[(13,3,0),(13,0,0),(9,2,0),(9,0,0),(9,1,1),(13,2,7)],bl:=[(1,[0,3,9,10,11]),(0,[0,3]),(3,[6,25,26,27]),(2,[6])],ll:=[(0,[0,3,9,10,11]),(2,[6,25,26,27])],fz:=[(15,0,6)]} true Tryz.f234=some kv:=by kernel_rfl
theorem qE2:qe maps Tryz.prog {loc:=[2],org:=[(2,2)],mv:=[(2,3,0),(2,0,0),(2,2,0)],bl:=[],ll:=[]} false Tryz.f235=some qi0:=by kernel_rfl
theorem qD3:qe maps Tryz.prog {loc:=[3,7,9,11],org:=[(3,3),(12,3),(24,3),(48,3),(7,7),(19,7),(9,9),(31,9),(36,9),(11,11)],mv:=[(16,3,0),(16,4,2),(16,2,0),(16,4,1)],bl:=[(1,[1,2,3,13,14,15]),(0,[1,2,3]),(5,[1,2,3,25,26,27,37,38,39]),(4,[1,2,3,25,26,27]),(3,[1,2,3,25,26,27]),(2,[1,2,3])],ll:=[(0,[1,2,3,13,14,15]),(2,[1,2,3,25,26,27]),(4,[1,2,3,25,26,27,37,38,39])]} false Tryz.f236=some qdU:=by kernel_rfl
theorem qDA:qe maps Tryz.prog {loc:=[2],org:=[(2,2),(4,2)],mv:=[],bl:=[],ll:=[]} false Tryz.f237=some qh0:=by kernel_rfl
theorem qE1:qe maps Tryz.prog {loc:=[2],org:=[(2,2),(4,2)],mv:=[],bl:=[],ll:=[]} false Tryz.f238=some qhc:=by kernel_rfl
theorem qB8:qe maps Tryz.prog {loc:=[],org:=[],mv:=[],bl:=[(1,[0,1,3]),(0,[])],ll:=[(0,[0,1,3])]} false Tryz.f239=some kI:=by kernel_rfl
theorem qED:qe maps Tryz.prog {loc:=[3],org:=[(3,3),(6,3),(14,3),(18,3),(26,3),(51,3),(57,3)],mv:=[(2,0,0),(2,2,0),(25,0,0),(25,2,0),(20,0,0),(20,2,0),(18,0,0),(18,2,0),(16,1,0),(16,2,2),(16,0,0),(16,2,0),(13,2,0),(11,2,0),(11,3,2),(11,0,0),(11,3,0),(10,2,0),(8,3,0),(6,0,0),(6,5,0),(4,0,0),(4,9,0)],bl:=[(0,[])],ll:=[]} false Tryz.f240=some qeD:=by kernel_rfl
theorem qC6:qe maps Tryz.prog {loc:=[],org:=[],mv:=[(5,1,0),(5,2,1),(0,1,0),(0,2,1)],bl:=[(1,[0,16,17]),(0,[])],ll:=[(0,[0,16,17])]} false Tryz.f241=some qea:=by kernel_rfl
theorem qBJ:qe maps Tryz.prog {loc:=[],org:=[],mv:=[(1,0,0),(1,2,0)],bl:=[],ll:=[]} false Tryz.f242=some qeQ:=by kernel_rfl
theorem qEf:qe maps Tryz.prog {loc:=[],org:=[],mv:=[(0,0,0),(0,2,0)],bl:=[],ll:=[]} false Tryz.f243=some qdX:=by kernel_rfl
theorem qES:qe maps Tryz.prog {loc:=[],org:=[],mv:=[(1,1,0),(1,4,1),(1,0,0),(1,4,0),(0,14,1),(0,11,7)],bl:=[],ll:=[]} false Tryz.f244=some qey:=by kernel_rfl
theorem qB1:qe maps Tryz.prog {loc:=[],org:=[],mv:=[(2,0,0),(2,2,0),(1,2,0)],bl:=[],ll:=[]} true Tryz.f245=some qe1:=by kernel_rfl
theorem qEy:qe maps Tryz.prog {loc:=[],org:=[],mv:=[(2,0,0),(2,2,0)],bl:=[],ll:=[]} false Tryz.f246=some qf6:=by kernel_rfl
theorem qDn:qe maps Tryz.prog {loc:=[],org:=[],mv:=[(3,0,0),(3,2,0)],bl:=[],ll:=[]} false Tryz.f247=some qdQ:=by kernel_rfl
theorem qCw:qe maps Tryz.prog {loc:=[],org:=[],mv:=[(6,0,0),(6,1,0),(0,0,7)],bl:=[(1,[0,5,6,7]),(0,[0])],ll:=[(0,[0,5,6,7])]} false Tryz.f248=some qdY:=by kernel_rfl
theorem qBH:qe maps Tryz.prog {loc:=[],org:=[],mv:=[(2,1,0),(2,2,1),(2,0,0),(2,2,0),(1,1,0),(1,2,1)],bl:=[],ll:=[]} false Tryz.f249=some qeN:=by kernel_rfl
theorem qCh:qe maps Tryz.prog {loc:=[3],org:=[(3,3),(4,3),(9,3),(20,3),(27,3),(33,3),(40,3)],mv:=[(13,0,0),(13,1,0),(8,10,0),(5,0,0),(5,2,0),(3,0,0),(3,3,0)],bl:=[(0,[])],ll:=[]} false Tryz.f250=some qdK:=by kernel_rfl
theorem qDx:qe maps Tryz.prog {loc:=[4],org:=[(4,4)],mv:=[(7,1,0),(7,2,1),(4,2,0)],bl:=[],ll:=[]} false Tryz.f254=some qcE:=by kernel_rfl
theorem qBC:qe maps Tryz.prog {loc:=[3],org:=[(3,3),(4,3),(5,3),(9,3),(12,3),(46,3),(15,3)],mv:=[(4,0,0),(4,3,0),(27,0,0),(27,2,0),(25,0,0),(25,2,0),(23,0,0),(23,2,0),(19,0,0),(19,2,0),(18,0,0),(18,2,0),(10,0,0),(10,2,0),(8,0,0),(8,2,0),(6,0,0),(6,2,0),(2,0,0),(2,3,0)],bl:=[(0,[])],ll:=[]} false Tryz.f255=some qf9:=by kernel_rfl
theorem qDm:qe maps Tryz.prog {loc:=[],org:=[],mv:=[],bl:=[],ll:=[]} true Tryz.f257=some qi2:=by kernel_rfl
theorem qEc:qe maps Tryz.prog {loc:=[],org:=[],mv:=[],bl:=[],ll:=[]} true Tryz.f258=some qi9:=by kernel_rfl
theorem qCQ:qe maps Tryz.prog {loc:=[],org:=[],mv:=[],bl:=[],ll:=[]} true Tryz.f259=some qnY:=by kernel_rfl
theorem qCZ:qe maps Tryz.prog {loc:=[3],org:=[(3,3),(5,3)],mv:=[],bl:=[],ll:=[]} true Tryz.f261=some qae:=by kernel_rfl
theorem qBO:qe maps Tryz.prog {loc:=[],org:=[],mv:=[(3,3,0),(2,2,0)],bl:=[],ll:=[]} false Tryz.f262=some qd1:=by kernel_rfl
theorem qDZ:qe maps Tryz.prog {loc:=[],org:=[],mv:=[],bl:=[],ll:=[]} false Tryz.f263=some qef:=by kernel_rfl
theorem qDi:qe maps Tryz.prog {loc:=[2,3,4,5],org:=[(2,2),(3,3),(9,3),(14,3),(18,3),(23,3),(27,3),(33,3),(103,3),(4,4),(55,4),(56,4),(5,5)],mv:=[(33,0,0),(33,1,0),(32,2,1),(32,0,0),(32,1,0),(30,2,1),(30,0,0),(30,1,0),(29,2,0),(27,1,0),(27,2,0),(25,3,1),(21,2,0),(20,6,1),(20,0,0),(20,5,0),(18,3,1),(17,2,0),(16,1,1),(15,2,0),(14,1,1),(13,2,0),(11,2,0),(9,0,0),(9,1,0),(7,3,1),(6,0,0),(6,1,0),(4,3,1),(3,0,0),(3,1,0),(1,3,1)],bl:=[(0,[0,2])],ll:=[]} true Tryz.f264=some jM:=by kernel_rfl
theorem qEm:qe maps Tryz.prog {loc:=[1,4],org:=[(1,1),(5,1),(8,1),(12,1),(17,1),(19,1),(25,1),(31,1),(4,4),(36,4),(40,4),(45,4),(47,4)],mv:=[],bl:=[(1,[1,3]),(0,[])],ll:=[(0,[1,3])]} true Tryz.f265=some qaH:=by kernel_rfl
theorem qEt:qe maps Tryz.prog {loc:=[],org:=[],mv:=[(0,1,0),(0,2,0)],bl:=[],ll:=[]} false Tryz.f267=some yD:=by kernel_rfl
theorem qDN:qe maps Tryz.prog {loc:=[],org:=[],mv:=[(0,1,0),(0,2,0)],bl:=[],ll:=[]} false Tryz.f269=some yA:=by kernel_rfl
theorem qDW:qe maps Tryz.prog {loc:=[2,5],org:=[(2,2),(9,2),(5,5)],mv:=[],bl:=[(1,[1,10,11,12]),(0,[])],ll:=[(0,[1,10,11,12])]} false Tryz.f283=some qf8:=by kernel_rfl
theorem qBK:qe maps Tryz.prog {loc:=[],org:=[],mv:=[(5,5,7),(5,8,7)],bl:=[],ll:=[]} true Tryz.f284=some kG:=by kernel_rfl
theorem qFj:qe maps Tryz.prog {loc:=[3],org:=[(3,3),(11,3),(15,3),(24,3),(30,3),(34,3),(38,3)],mv:=[(9,4,0),(9,0,0),(9,3,0),(4,6,0),(4,0,0),(4,5,0)],bl:=[(0,[])],ll:=[]} true Tryz.f285=some qbU:=by kernel_rfl
theorem qDC:qe maps Tryz.prog {loc:=[4,5],org:=[(4,4),(12,4),(61,4),(62,4),(66,4),(67,4),(5,5),(25,5),(29,5),(30,5),(34,5),(48,5)],mv:=[(4,0,0),(4,2,0),(19,0,0),(19,2,0),(18,1,0),(18,2,2),(18,0,0),(18,2,0),(14,0,0),(14,2,0),(11,3,0),(11,4,1),(2,5,0)],bl:=[(2,[0,5,37,38]),(1,[0]),(0,[])],ll:=[(1,[0,5,37,38])]} false Tryz.f286=some qcY:=by kernel_rfl
theorem qE4:qe maps Tryz.prog {loc:=[3,4],org:=[(3,3),(5,3),(9,3),(17,3),(50,3),(60,3),(71,3),(86,3),(104,3),(4,4),(33,4)],mv:=[(25,0,0),(25,5,0),(23,0,0),(23,2,0),(20,0,0),(20,2,0),(14,0,0),(14,2,0),(11,0,0),(11,1,0),(8,0,0),(8,2,0)],bl:=[(0,[])],ll:=[]} false Tryz.f291=some qdm:=by kernel_rfl
theorem qET:qe maps Tryz.prog {loc:=[4],org:=[(4,4),(22,4),(26,4)],mv:=[(5,0,0),(5,2,0)],bl:=[],ll:=[]} false Tryz.f292=some qa2:=by kernel_rfl
theorem qBV:qe maps Tryz.prog {loc:=[1],org:=[(1,1)],mv:=[],bl:=[],ll:=[]} true Tryz.f295=some qi5:=by kernel_rfl
theorem qCI:qe maps Tryz.prog {loc:=[],org:=[],mv:=[(13,0,0),(13,2,0),(11,0,0),(11,2,0),(9,0,0),(9,2,0),(7,0,0),(7,2,0),(5,0,0),(5,1,0),(2,0,0),(2,2,0)],bl:=[(0,[])],ll:=[]} false Tryz.f299=some qbg:=by kernel_rfl
theorem qC1:qe maps Tryz.prog {loc:=[2,4],org:=[(2,2),(4,4),(21,4),(25,4),(31,4),(39,4),(40,4),(41,4),(50,4)],mv:=[(20,0,0),(20,1,0),(18,1,0),(18,2,0),(15,5,1),(15,3,0),(15,4,2),(15,0,0),(15,4,0),(11,6,1),(11,0,0),(11,5,0),(4,3,1),(4,1,0),(4,2,1),(4,0,0),(4,2,0)],bl:=[(0,[0,2,5])],ll:=[]} true Tryz.f302=some jG:=by kernel_rfl
theorem qDR:qe maps Tryz.prog {loc:=[],org:=[],mv:=[],bl:=[(1,[0,1,5]),(0,[0,1])],ll:=[(0,[0,1,5])]} true Tryz.f303=some qcT:=by kernel_rfl
theorem qDd:qe maps Tryz.prog {loc:=[],org:=[],mv:=[],bl:=[(0,[0])],ll:=[]} true Tryz.f304=some qde:=by kernel_rfl
theorem qFb:qe maps Tryz.prog {loc:=[1],org:=[(1,1),(4,1),(7,1),(11,1),(16,1),(22,1),(25,1),(29,1),(34,1),(39,1),(45,1),(52,1),(56,1),(60,1),(64,1),(69,1)],mv:=[(1,3,0)],bl:=[(0,[])],ll:=[]} true Tryz.f308=some qi1:=by kernel_rfl
theorem qBN:qe maps Tryz.prog {loc:=[],org:=[],mv:=[(1,1,0),(1,2,1),(1,0,0),(1,2,0)],bl:=[],ll:=[]} true Tryz.f313=some qc2:=by kernel_rfl
theorem qEl:qe maps Tryz.prog {loc:=[2],org:=[(2,2),(5,2)],mv:=[],bl:=[],ll:=[]} false Tryz.f315=some qga:=by kernel_rfl
theorem qDE:qe maps Tryz.prog {loc:=[],org:=[],mv:=[],bl:=[],ll:=[]} true Tryz.f324=some qja:=by kernel_rfl
theorem qDy:qe maps Tryz.prog {loc:=[],org:=[],mv:=[(1,3,0),(1,1,0),(1,2,1),(1,0,0),(1,2,0)],bl:=[],ll:=[]} true Tryz.f326=some qf5:=by kernel_rfl
theorem qBX:qe maps Tryz.prog {loc:=[],org:=[],mv:=[(31,5,0),(31,3,0),(31,4,1),(26,3,0),(26,4,1),(17,7,0),(9,1,0),(9,2,1),(9,0,0),(9,2,0),(5,4,0),(5,0,0),(5,3,0)],bl:=[(0,[0,1,5]),(2,[0,1,5,6,7,8,9,10]),(1,[])],ll:=[(1,[0,1,5,6,7,8,9,10])]} true Tryz.f328=some jl:=by kernel_rfl
theorem qD5:qe maps Tryz.prog {loc:=[],org:=[],mv:=[(1,1,0),(1,2,1),(1,0,0),(1,2,0)],bl:=[],ll:=[]} true Tryz.f329=some zm:=by kernel_rfl
theorem qHe:qGj Tryz.prog maps pg0:=by
 intro f' i hl fn' hf
 have e:f'=i:=qiy hl
 subst e
 show FOk Tryz.prog maps f' fn'
 revert hf
 unfold pg0 prog
 simp only []
 refine qa ⟨_,_,_,Tryz.func4,by decide +kernel,qGP⟩ ?_
 refine qa ⟨_,_,_,Tryz.func7,by decide +kernel,qGQ⟩ ?_
 refine qa ⟨_,_,_,Tryz.func8,by decide +kernel,qG4⟩ ?_
 refine qa ⟨_,_,_,Tryz.func11,by decide +kernel,qFJ⟩ ?_
 refine qa ⟨_,_,_,Tryz.func12,by decide +kernel,qGv⟩ ?_
 refine qa ⟨_,_,_,Tryz.func13,by decide +kernel,qGD⟩ ?_
 refine qa ⟨_,_,_,Tryz.func15,by decide +kernel,qGL⟩ ?_
 refine qa ⟨_,_,_,Tryz.func16,by decide +kernel,qFY⟩ ?_
 refine qa ⟨_,_,_,Tryz.func17,by decide +kernel,qFX⟩ ?_
 refine qa ⟨_,_,_,Tryz.func23,by decide +kernel,qGt⟩ ?_
 refine qa ⟨_,_,_,Tryz.func24,by decide +kernel,qGq⟩ ?_
 refine qa ⟨_,_,_,Tryz.func25,by decide +kernel,qFV⟩ ?_
 refine qa ⟨_,_,_,Tryz.func26,by decide +kernel,qFL⟩ ?_
 refine qa ⟨_,_,_,Tryz.func27,by decide +kernel,qFy⟩ ?_
 refine qa ⟨_,_,_,Tryz.func28,by decide +kernel,qFr⟩ ?_
 refine qa ⟨_,_,_,Tryz.func29,by decide +kernel,qF5⟩ ?_
 refine qa ⟨_,_,_,Tryz.func30,by decide +kernel,qGo⟩ ?_
 refine qa ⟨_,_,_,Tryz.func31,by decide +kernel,qFG⟩ ?_
 refine qa ⟨_,_,_,Tryz.func32,by decide +kernel,qFR⟩ ?_
 refine qa ⟨_,_,_,Tryz.func33,by decide +kernel,qGi⟩ ?_
 refine qa ⟨_,_,_,Tryz.func35,by decide +kernel,qFQ⟩ ?_
 refine qa ⟨_,_,_,Tryz.func36,by decide +kernel,qFD⟩ ?_
 refine qa ⟨_,_,_,Tryz.func39,by decide +kernel,qFA⟩ ?_
 refine qa ⟨_,_,_,Tryz.func40,by decide +kernel,qGl⟩ ?_
 refine qa ⟨_,_,_,Tryz.func42,by decide +kernel,qFN⟩ ?_
 refine qa ⟨_,_,_,Tryz.func43,by decide +kernel,qFH⟩ ?_
 refine qa ⟨_,_,_,Tryz.func44,by decide +kernel,qF7⟩ ?_
 refine qa ⟨_,_,_,Tryz.func45,by decide +kernel,qF3⟩ ?_
 refine qa ⟨_,_,_,Tryz.func46,by decide +kernel,qFZ⟩ ?_
 refine qa ⟨_,_,_,Tryz.func47,by decide +kernel,qGs⟩ ?_
 refine qa ⟨_,_,_,Tryz.func48,by decide +kernel,qFW⟩ ?_
 refine qa ⟨_,_,_,Tryz.func54,by decide +kernel,qGA⟩ ?_
 refine qa ⟨_,_,_,Tryz.func55,by decide +kernel,qGb⟩ ?_
 refine qa ⟨_,_,_,Tryz.func56,by decide +kernel,qFT⟩ ?_
 refine qa ⟨_,_,_,Tryz.func57,by decide +kernel,qGe⟩ ?_
 refine qa ⟨_,_,_,Tryz.func58,by decide +kernel,qGm⟩ ?_
 refine qa ⟨_,_,_,Tryz.func59,by decide +kernel,qGh⟩ ?_
 refine qa ⟨_,_,_,Tryz.func60,by decide +kernel,qFp⟩ ?_
 refine qa ⟨_,_,_,Tryz.func61,by decide +kernel,qF9⟩ ?_
 refine qa ⟨_,_,_,Tryz.func62,by decide +kernel,qFU⟩ ?_
 refine qa ⟨_,_,_,Tryz.func63,by decide +kernel,qF1⟩ ?_
 refine qa ⟨_,_,_,Tryz.func64,by decide +kernel,qGE⟩ ?_
 refine qa ⟨_,_,_,Tryz.func65,by decide +kernel,qGd⟩ ?_
 refine qa ⟨_,_,_,Tryz.func66,by decide +kernel,qFu⟩ ?_
 refine qa ⟨_,_,_,Tryz.func68,by decide +kernel,qGB⟩ ?_
 refine qa ⟨_,_,_,Tryz.func69,by decide +kernel,qFm⟩ ?_
 refine qa ⟨_,_,_,Tryz.func70,by decide +kernel,qGg⟩ ?_
 refine qa ⟨_,_,_,Tryz.func71,by decide +kernel,qFC⟩ ?_
 refine qa ⟨_,_,_,Tryz.func72,by decide +kernel,qGy⟩ ?_
 refine qa ⟨_,_,_,Tryz.func73,by decide +kernel,qGn⟩ ?_
 refine qa ⟨_,_,_,Tryz.func74,by decide +kernel,qGp⟩ ?_
 refine qa ⟨_,_,_,Tryz.func75,by decide +kernel,qGc⟩ ?_
 refine qa ⟨_,_,_,Tryz.func76,by decide +kernel,qFo⟩ ?_
 refine qa ⟨_,_,_,Tryz.func78,by decide +kernel,qGk⟩ ?_
 refine qa ⟨_,_,_,Tryz.func79,by decide +kernel,qGF⟩ ?_
 refine qa ⟨_,_,_,Tryz.func80,by decide +kernel,qFz⟩ ?_
 refine qa ⟨_,_,_,Tryz.func84,by decide +kernel,qF4⟩ ?_
 refine qa ⟨_,_,_,Tryz.func85,by decide +kernel,qGf⟩ ?_
 refine qa ⟨_,_,_,Tryz.func86,by decide +kernel,qFB⟩ ?_
 refine qa ⟨_,_,_,Tryz.func87,by decide +kernel,qGH⟩ ?_
 refine qa ⟨_,_,_,Tryz.func88,by decide +kernel,qGM⟩ ?_
 refine qa ⟨_,_,_,Tryz.func89,by decide +kernel,qF8⟩ ?_
 refine qa ⟨_,_,_,Tryz.func92,by decide +kernel,qGa⟩ ?_
 refine qa ⟨_,_,_,Tryz.func98,by decide +kernel,qFx⟩ ?_
 refine qa ⟨_,_,_,Tryz.func99,by decide +kernel,qFI⟩ ?_
 refine qa ⟨_,_,_,Tryz.func100,by decide +kernel,qC0⟩ ?_
 refine qa ⟨_,_,_,Tryz.func101,by decide +kernel,qEs⟩ ?_
 refine qa ⟨_,_,_,Tryz.func102,by decide +kernel,qB3⟩ ?_
 refine qa ⟨_,_,_,Tryz.func103,by decide +kernel,qFl⟩ ?_
 refine qa ⟨_,_,_,Tryz.func104,by decide +kernel,qCv⟩ ?_
 refine qa ⟨_,_,_,Tryz.func105,by decide +kernel,qCG⟩ ?_
 refine qa ⟨_,_,_,Tryz.func106,by decide +kernel,qCP⟩ ?_
 refine qa ⟨_,_,_,Tryz.func107,by decide +kernel,qE6⟩ ?_
 refine qa ⟨_,_,_,Tryz.func109,by decide +kernel,qEW⟩ ?_
 refine qa ⟨_,_,_,Tryz.func110,by decide +kernel,qDO⟩ ?_
 refine qa ⟨_,_,_,Tryz.func111,by decide +kernel,qD6⟩ ?_
 refine qa ⟨_,_,_,Tryz.func112,by decide +kernel,qCl⟩ ?_
 refine qa ⟨_,_,_,Tryz.func113,by decide +kernel,qEZ⟩ ?_
 refine qa ⟨_,_,_,Tryz.func114,by decide +kernel,qCz⟩ ?_
 refine qa ⟨_,_,_,Tryz.func115,by decide +kernel,qFa⟩ ?_
 refine qa ⟨_,_,_,Tryz.func116,by decide +kernel,qDP⟩ ?_
 refine qa ⟨_,_,_,Tryz.func117,by decide +kernel,qFd⟩ ?_
 refine qa ⟨_,_,_,Tryz.func119,by decide +kernel,qD4⟩ ?_
 refine qa ⟨_,_,_,Tryz.func120,by decide +kernel,qFe⟩ ?_
 refine qa ⟨_,_,_,Tryz.func121,by decide +kernel,qFg⟩ ?_
 refine qa ⟨_,_,_,Tryz.func122,by decide +kernel,qEe⟩ ?_
 refine qa ⟨_,_,_,Tryz.func124,by decide +kernel,qCo⟩ ?_
 refine qa ⟨_,_,_,Tryz.func125,by decide +kernel,qCm⟩ ?_
 refine qa ⟨_,_,_,Tryz.func126,by decide +kernel,qEu⟩ ?_
 refine qa ⟨_,_,_,Tryz.func127,by decide +kernel,qEp⟩ ?_
 refine qa ⟨_,_,_,Tryz.func128,by decide +kernel,qCn⟩ ?_
 refine qa ⟨_,_,_,Tryz.func129,by decide +kernel,qDf⟩ ?_
 refine qa ⟨_,_,_,Tryz.func130,by decide +kernel,qC9⟩ ?_
 refine qa ⟨_,_,_,Tryz.func131,by decide +kernel,qEo⟩ ?_
 refine qa ⟨_,_,_,Tryz.func132,by decide +kernel,qEi⟩ ?_
 refine qa ⟨_,_,_,Tryz.func133,by decide +kernel,qC3⟩ ?_
 refine qa ⟨_,_,_,Tryz.func134,by decide +kernel,qDp⟩ ?_
 refine qa ⟨_,_,_,Tryz.func140,by decide +kernel,qBS⟩ ?_
 refine qa ⟨_,_,_,Tryz.func141,by decide +kernel,qDa⟩ ?_
 refine qa ⟨_,_,_,Tryz.func144,by decide +kernel,qEV⟩ ?_
 refine qa ⟨_,_,_,Tryz.func147,by decide +kernel,qC2⟩ ?_
 refine qa ⟨_,_,_,Tryz.func148,by decide +kernel,qBM⟩ ?_
 refine qa ⟨_,_,_,Tryz.func153,by decide +kernel,qD8⟩ ?_
 refine qa ⟨_,_,_,Tryz.func154,by decide +kernel,qDv⟩ ?_
 refine qa ⟨_,_,_,Tryz.func155,by decide +kernel,qDs⟩ ?_
 refine qa ⟨_,_,_,Tryz.func156,by decide +kernel,qD7⟩ ?_
 refine qa ⟨_,_,_,Tryz.func157,by decide +kernel,qC5⟩ ?_
 refine qa ⟨_,_,_,Tryz.func158,by decide +kernel,qCc⟩ ?_
 refine qa ⟨_,_,_,Tryz.func159,by decide +kernel,qD0⟩ ?_
 refine qa ⟨_,_,_,Tryz.func160,by decide +kernel,qBG⟩ ?_
 refine qa ⟨_,_,_,Tryz.func161,by decide +kernel,qER⟩ ?_
 refine qa ⟨_,_,_,Tryz.func162,by decide +kernel,qDX⟩ ?_
 refine qa ⟨_,_,_,Tryz.func163,by decide +kernel,qCs⟩ ?_
 refine qa ⟨_,_,_,Tryz.func164,by decide +kernel,qDM⟩ ?_
 refine qa ⟨_,_,_,Tryz.func165,by decide +kernel,qBQ⟩ ?_
 refine qa ⟨_,_,_,Tryz.func166,by decide +kernel,qBL⟩ ?_
 refine qa ⟨_,_,_,Tryz.func167,by decide +kernel,qDg⟩ ?_
 refine qa ⟨_,_,_,Tryz.func168,by decide +kernel,qEL⟩ ?_
 refine qa ⟨_,_,_,Tryz.func169,by decide +kernel,qCA⟩ ?_
 refine qa ⟨_,_,_,Tryz.func170,by decide +kernel,qBz⟩ ?_
 refine qa ⟨_,_,_,Tryz.func171,by decide +kernel,qEg⟩ ?_
 refine qa ⟨_,_,_,Tryz.func172,by decide +kernel,qBU⟩ ?_
 refine qa ⟨_,_,_,Tryz.func173,by decide +kernel,qCO⟩ ?_
 refine qa ⟨_,_,_,Tryz.func175,by decide +kernel,qE3⟩ ?_
 refine qa ⟨_,_,_,Tryz.func176,by decide +kernel,qCN⟩ ?_
 refine qa ⟨_,_,_,Tryz.func177,by decide +kernel,qEk⟩ ?_
 refine qa ⟨_,_,_,Tryz.func178,by decide +kernel,qDt⟩ ?_
 refine qa ⟨_,_,_,Tryz.func179,by decide +kernel,qCX⟩ ?_
 refine qa ⟨_,_,_,Tryz.func180,by decide +kernel,qCC⟩ ?_
 refine qa ⟨_,_,_,Tryz.func181,by decide +kernel,qDq⟩ ?_
 refine qa ⟨_,_,_,Tryz.func182,by decide +kernel,qEx⟩ ?_
 refine qa ⟨_,_,_,Tryz.func183,by decide +kernel,qFi⟩ ?_
 refine qa ⟨_,_,_,Tryz.func184,by decide +kernel,qFf⟩ ?_
 refine qa ⟨_,_,_,Tryz.func185,by decide +kernel,qDI⟩ ?_
 refine qa ⟨_,_,_,Tryz.func186,by decide +kernel,qB2⟩ ?_
 refine qa ⟨_,_,_,Tryz.func187,by decide +kernel,qEX⟩ ?_
 refine qa ⟨_,_,_,Tryz.func188,by decide +kernel,qDh⟩ ?_
 refine qa ⟨_,_,_,Tryz.func189,by decide +kernel,qCS⟩ ?_
 refine qa ⟨_,_,_,Tryz.func190,by decide +kernel,qCU⟩ ?_
 refine qa ⟨_,_,_,Tryz.func191,by decide +kernel,qE0⟩ ?_
 refine qa ⟨_,_,_,Tryz.func194,by decide +kernel,qCt⟩ ?_
 refine qa ⟨_,_,_,Tryz.func196,by decide +kernel,qC7⟩ ?_
 refine qa ⟨_,_,_,Tryz.func197,by decide +kernel,qFh⟩ ?_
 refine qa ⟨_,_,_,Tryz.func198,by decide +kernel,qCd⟩ ?_
 refine qa ⟨_,_,_,Tryz.func199,by decide +kernel,qD1⟩ ?_
 refine qa ⟨_,_,_,Tryz.func200,by decide +kernel,qBY⟩ ?_
 refine qa ⟨_,_,_,Tryz.func201,by decide +kernel,qDK⟩ ?_
 refine qa ⟨_,_,_,Tryz.func202,by decide +kernel,qCq⟩ ?_
 refine qa ⟨_,_,_,Tryz.func203,by decide +kernel,qCY⟩ ?_
 refine qa ⟨_,_,_,Tryz.func204,by decide +kernel,qEI⟩ ?_
 refine qa ⟨_,_,_,Tryz.func205,by decide +kernel,qEH⟩ ?_
 refine qa ⟨_,_,_,Tryz.func207,by decide +kernel,qEG⟩ ?_
 refine qa ⟨_,_,_,Tryz.func208,by decide +kernel,qCJ⟩ ?_
 refine qa ⟨_,_,_,Tryz.func209,by decide +kernel,qEN⟩ ?_
 refine qa ⟨_,_,_,Tryz.func210,by decide +kernel,qDU⟩ ?_
 refine qa ⟨_,_,_,Tryz.func212,by decide +kernel,qCV⟩ ?_
 refine qa ⟨_,_,_,Tryz.func213,by decide +kernel,qDB⟩ ?_
 refine qa ⟨_,_,_,Tryz.func215,by decide +kernel,qDk⟩ ?_
 refine qa ⟨_,_,_,Tryz.func216,by decide +kernel,qEC⟩ ?_
 refine qa ⟨_,_,_,Tryz.func228,by decide +kernel,qDj⟩ ?_
 refine qa ⟨_,_,_,Tryz.func229,by decide +kernel,qBZ⟩ ?_
 refine qa ⟨_,_,_,Tryz.func230,by decide +kernel,qDJ⟩ ?_
 refine qa ⟨_,_,_,Tryz.func231,by decide +kernel,qBR⟩ ?_
 refine qa ⟨_,_,_,Tryz.func233,by decide +kernel,qBF⟩ ?_
 refine qa ⟨_,_,_,Tryz.func234,by decide +kernel,qCH⟩ ?_
 refine qa ⟨_,_,_,Tryz.func235,by decide +kernel,qE2⟩ ?_
 refine qa ⟨_,_,_,Tryz.func236,by decide +kernel,qD3⟩ ?_
 refine qa ⟨_,_,_,Tryz.func237,by decide +kernel,qDA⟩ ?_
 refine qa ⟨_,_,_,Tryz.func238,by decide +kernel,qE1⟩ ?_
 refine qa ⟨_,_,_,Tryz.func239,by decide +kernel,qB8⟩ ?_
 refine qa ⟨_,_,_,Tryz.func240,by decide +kernel,qED⟩ ?_
 refine qa ⟨_,_,_,Tryz.func241,by decide +kernel,qC6⟩ ?_
 refine qa ⟨_,_,_,Tryz.func242,by decide +kernel,qBJ⟩ ?_
 refine qa ⟨_,_,_,Tryz.func243,by decide +kernel,qEf⟩ ?_
 refine qa ⟨_,_,_,Tryz.func244,by decide +kernel,qES⟩ ?_
 refine qa ⟨_,_,_,Tryz.func245,by decide +kernel,qB1⟩ ?_
 refine qa ⟨_,_,_,Tryz.func246,by decide +kernel,qEy⟩ ?_
 refine qa ⟨_,_,_,Tryz.func247,by decide +kernel,qDn⟩ ?_
 refine qa ⟨_,_,_,Tryz.func248,by decide +kernel,qCw⟩ ?_
 refine qa ⟨_,_,_,Tryz.func249,by decide +kernel,qBH⟩ ?_
 refine qa ⟨_,_,_,Tryz.func250,by decide +kernel,qCh⟩ ?_
 refine qa ⟨_,_,_,Tryz.func254,by decide +kernel,qDx⟩ ?_
 refine qa ⟨_,_,_,Tryz.func255,by decide +kernel,qBC⟩ ?_
 refine qa ⟨_,_,_,Tryz.func257,by decide +kernel,qDm⟩ ?_
 refine qa ⟨_,_,_,Tryz.func258,by decide +kernel,qEc⟩ ?_
 refine qa ⟨_,_,_,Tryz.func259,by decide +kernel,qCQ⟩ ?_
 refine qa ⟨_,_,_,Tryz.func261,by decide +kernel,qCZ⟩ ?_
 refine qa ⟨_,_,_,Tryz.func262,by decide +kernel,qBO⟩ ?_
 refine qa ⟨_,_,_,Tryz.func263,by decide +kernel,qDZ⟩ ?_
 refine qa ⟨_,_,_,Tryz.func264,by decide +kernel,qDi⟩ ?_
 refine qa ⟨_,_,_,Tryz.func265,by decide +kernel,qEm⟩ ?_
 refine qa ⟨_,_,_,Tryz.func267,by decide +kernel,qEt⟩ ?_
 refine qa ⟨_,_,_,Tryz.func269,by decide +kernel,qDN⟩ ?_
 refine qa ⟨_,_,_,Tryz.func283,by decide +kernel,qDW⟩ ?_
 refine qa ⟨_,_,_,Tryz.func284,by decide +kernel,qBK⟩ ?_
 refine qa ⟨_,_,_,Tryz.func285,by decide +kernel,qFj⟩ ?_
 refine qa ⟨_,_,_,Tryz.func286,by decide +kernel,qDC⟩ ?_
 refine qa ⟨_,_,_,Tryz.func291,by decide +kernel,qE4⟩ ?_
 refine qa ⟨_,_,_,Tryz.func292,by decide +kernel,qET⟩ ?_
 refine qa ⟨_,_,_,Tryz.func295,by decide +kernel,qBV⟩ ?_
 refine qa ⟨_,_,_,Tryz.func299,by decide +kernel,qCI⟩ ?_
 refine qa ⟨_,_,_,Tryz.func302,by decide +kernel,qC1⟩ ?_
 refine qa ⟨_,_,_,Tryz.func303,by decide +kernel,qDR⟩ ?_
 refine qa ⟨_,_,_,Tryz.func304,by decide +kernel,qDd⟩ ?_
 refine qa ⟨_,_,_,Tryz.func308,by decide +kernel,qFb⟩ ?_
 refine qa ⟨_,_,_,Tryz.func313,by decide +kernel,qBN⟩ ?_
 refine qa ⟨_,_,_,Tryz.func315,by decide +kernel,qEl⟩ ?_
 refine qa ⟨_,_,_,Tryz.func324,by decide +kernel,qDE⟩ ?_
 refine qa ⟨_,_,_,Tryz.func326,by decide +kernel,qDy⟩ ?_
 refine qa ⟨_,_,_,Tryz.func328,by decide +kernel,qBX⟩ ?_
 refine qa ⟨_,_,_,Tryz.func329,by decide +kernel,qD5⟩ ?_
 exact qGJ
theorem qB5:qt6 Tryz.prog maps:=by
 intro f' k l hl hk
 have e:f'=k:=qiy hl
 subst e
 simp only [maps,W.look,qHn] at hk
 by_cases h239:f'=239
 ·subst h239
  simp at hk
  subst hk
  exact ⟨26,102,268,3,4,0,Tryz.f239,Tryz.func239,by decide +kernel,by kernel_rfl,by kernel_rfl,by kernel_rfl,Tryz.underlying26,by kernel_rfl,by kernel_rfl,Tryz.underlying3,Tryz.underlying4⟩
 rw [if_neg (by simpa using h239)] at hk
 cases hk
theorem tab:Tab Tryz.prog maps pg0:=⟨qHe,qB5⟩
end Go.Proofs.YtfgmbblhhmeefaaGreat
/-
  The same evaluator, in forms that the kernel reckons fast.
-/
set_option linter.unusedSimpArgs false
set_option linter.unusedVariables false
namespace W
open Go (IntKind BinOp UnOp)
noncomputable def fget (n:Nat) (e:Env):V:=List.rec (motive:=fun _=>V) .undef (fun p _ ih=>Bool.rec ih p.2 (qHm n p.1)) e
theorem j0 (n:Nat) (e:Env):fget n e=get n e:=by
 induction e with
 | nil=>rfl
 | cons p e ih=>
  obtain ⟨m,v⟩:=p
  show Bool.rec (fget n e) v (qHm n m)=bif qHm n m then v else get n e
  rw [ih]
  cases qHm n m<;>rfl
noncomputable def fnth {α:Type} (l:List α) (n:Nat):Option α:=
 List.rec (motive:=fun _=>Nat→Option α) (fun _=>none) (fun x _ ih n=>Nat.rec (motive:=fun _=>Option α) (some x) (fun m _=>ih m) n) l n
theorem zF {α:Type} (l:List α) (n:Nat):fnth l n=l[n]?:=by
 induction l generalizing n with
 | nil=>rfl
 | cons x l ih=>
  cases n with
  | zero=>rfl
  | succ n=>exact ih n
noncomputable def frd (e:Env) (o:O):V:=O.rec (motive:=fun _=>V) (fun n=>qdl n (fget n e)) (fun x=>.d x) (fun i=>.fn i [] []) (fun n=>qer (fget n e)) (fun _ x=>.cp x) o
theorem yb (e:Env) (o:O):frd e o=rd e o:=by cases o<;>simp only [frd,j0]<;>rfl
noncomputable def qt {α:Type} (a:Nat) (k:Nat→α):α:=Nat.rec (motive:=fun _=>α) (k 0) (fun m _=>k (Nat.succ m)) a
noncomputable def qm0 {α:Type} (n:Int) (k:Int→α):α:=Int.rec (motive:=fun _=>α) (fun a=>qt a fun a=>k (.ofNat a)) (fun a=>qt a fun a=>k (.negSucc a)) n
noncomputable def qtw {α:Type} (b:Bool) (k:Bool→α):α:=Bool.rec (motive:=fun _=>α) (k false) (k true) b
theorem qR {α:Type} (a:Nat) (k:Nat→α):qt a k=k a:=by cases a<;>rfl
theorem qlt {α:Type} (n:Int) (k:Int→α):qm0 n k=k n:=by
 cases n with
 | ofNat a=>exact qR a fun a=>k (.ofNat a)
 | negSucc a=>exact qR a fun a=>k (.negSucc a)
theorem qpn {α:Type} (b:Bool) (k:Bool→α):qtw b k=k b:=by cases b<;>rfl
noncomputable def qsK {α:Type} (l:List Nat) (k:List Nat→α):α:=
 List.rec (motive:=fun _=>(List Nat→α)→α) (fun k=>k []) (fun x _ ih k=>qt x fun x=>ih fun r=>k (x::r)) l k
theorem qvx {α:Type} (l:List Nat) (k:List Nat→α):qsK l k=k l:=by
 induction l generalizing k with
 | nil=>rfl
 | cons x l ih=>exact (qR x fun x=>qsK l fun r=>k (x::r)).trans (ih fun r=>k (x::r))
noncomputable def zA {β α:Type} (f:β→(β→α)→α) (l:List β) (k:List β→α):α:=
 List.rec (motive:=fun _=>(List β→α)→α) (fun k=>k []) (fun x _ ih k=>f x fun x=>ih fun r=>k (x::r)) l k
theorem qZ {β α:Type} {f:β→(β→α)→α} (hf:∀x k,f x k=k x) (l:List β) (k:List β→α):zA f l k=k l:=by
 induction l generalizing k with
 | nil=>rfl
 | cons x l ih=>exact (hf x fun x=>zA f l fun r=>k (x::r)).trans (ih fun r=>k (x::r))
noncomputable def qfV {α:Type} (x:D) (k:D→α):α:=
 D.casesOn (motive_1:=fun _=>α) x (fun z=>qtw z fun z=>k (.b z)) (fun kk n=>qm0 n fun n=>k (.i kk n)) (fun t=>k (.s t)) (k .nil) (fun xs=>k (.sl xs)) (fun cs=>k (.agg cs)) (k .np) (k .nf) (k .ni) (k .nm)
theorem qaK {α:Type} (x:D) (k:D→α):qfV x k=k x:=by
 cases x with
 | b z=>exact qpn z fun z=>k (.b z)
 | i kk n=>exact qlt n fun n=>k (.i kk n)
 | _=>rfl
noncomputable def qzw {α:Type} (x:D) (k:D→α):α:=
 D.casesOn (motive_1:=fun _=>α) x (fun z=>qtw z fun z=>k (.b z)) (fun kk n=>qm0 n fun n=>k (.i kk n)) (fun t=>qsK t fun t=>k (.s t)) (k .nil) (fun xs=>zA qfV xs fun xs=>k (.sl xs)) (fun cs=>zA qfV cs fun cs=>k (.agg cs)) (k .np) (k .nf) (k .ni) (k .nm)
theorem qw9 {α:Type} (x:D) (k:D→α):qzw x k=k x:=by
 cases x with
 | b z=>exact qpn z fun z=>k (.b z)
 | i kk n=>exact qlt n fun n=>k (.i kk n)
 | s t=>exact qvx t fun t=>k (.s t)
 | sl xs=>exact qZ qaK xs fun xs=>k (.sl xs)
 | agg xs=>exact qZ qaK xs fun xs=>k (.agg xs)
 | _=>rfl
noncomputable def jb {α:Type} (v:V) (k:V→α):α:=
 V.casesOn (motive_1:=fun _=>α) v (fun x=>qfV x fun x=>k (.d x)) (fun xs=>k (.osl xs)) (fun xs=>k (.fsl xs)) (fun i o=>qt i fun i=>qt o fun o=>k (.ptr i o)) (fun i o=>qt i fun i=>qt o fun o=>k (.lp i o)) (fun cs=>k (.box cs)) (fun x=>k (.cp x))
  (fun i o n c=>k (.rs i o n c)) (fun i o n=>qt i fun i=>qt o fun o=>qt n fun n=>k (.row i o n)) (fun i=>qt i fun i=>k (.map i)) (fun f a b=>k (.fn f a b)) (fun t x=>k (.ifc t x)) (fun cs=>k (.agg cs)) (fun vs=>k (.tup vs)) (k .undef)
theorem ze {α:Type} (v:V) (k:V→α):jb v k=k v:=by
 cases v with
 | d x=>exact qaK x fun x=>k (.d x)
 | _=>simp only [jb,qR]
noncomputable def qbw {α:Type} (v:V) (k:V→α):α:=
 V.casesOn (motive_1:=fun _=>α) v (fun x=>qzw x fun x=>k (.d x)) (fun xs=>zA qfV xs fun xs=>k (.osl xs)) (fun xs=>zA qfV xs fun xs=>k (.fsl xs)) (fun i o=>qt i fun i=>qt o fun o=>k (.ptr i o)) (fun i o=>qt i fun i=>qt o fun o=>k (.lp i o)) (fun cs=>zA jb cs fun cs=>k (.box cs)) (fun x=>qfV x fun x=>k (.cp x))
  (fun i o n c=>qt i fun i=>qt o fun o=>qt n fun n=>qt c fun c=>k (.rs i o n c)) (fun i o n=>qt i fun i=>qt o fun o=>qt n fun n=>k (.row i o n)) (fun i=>qt i fun i=>k (.map i)) (fun f a b=>qt f fun f=>k (.fn f a b)) (fun t x=>k (.ifc t x)) (fun cs=>zA jb cs fun cs=>k (.agg cs)) (fun vs=>zA jb vs fun vs=>k (.tup vs)) (k .undef)
theorem qaP {α:Type} (v:V) (k:V→α):qbw v k=k v:=by
 cases v with
 | d x=>exact qw9 x fun x=>k (.d x)
 | osl xs=>exact qZ qaK xs fun xs=>k (.osl xs)
 | fsl xs=>exact qZ qaK xs fun xs=>k (.fsl xs)
 | box cs=>exact qZ ze cs fun cs=>k (.box cs)
 | cp x=>exact qaK x fun x=>k (.cp x)
 | agg cs=>exact qZ ze cs fun cs=>k (.agg cs)
 | tup cs=>exact qZ ze cs fun cs=>k (.tup cs)
 | _=>simp only [qbw,qR]
noncomputable def qyJ {α:Type} (o:Obj) (k:Obj→α):α:=
 Obj.casesOn (motive:=fun _=>α) o (fun cs=>zA jb cs fun cs=>k (.cells cs)) (fun es=>zA (fun p k=>jb p.2 fun v=>k (p.1,v)) es fun es=>k (.map es)) (fun l cs=>zA jb cs fun cs=>k (.row l cs)) (k .dead) (fun i=>qt i fun i=>k (.iter i))
theorem qwA {α:Type} (o:Obj) (k:Obj→α):qyJ o k=k o:=by
 cases o with
 | cells cs=>exact qZ ze cs fun cs=>k (.cells cs)
 | map es=>exact qZ (fun p k=>ze p.2 fun v=>k (p.1,v)) es fun es=>k (.map es)
 | row l cs=>exact qZ ze cs fun cs=>k (.row l cs)
 | dead=>rfl
 | iter i=>exact qR i fun i=>k (.iter i)
noncomputable def qyN {α:Type} (H:List Obj) (k:List Obj→α):α:=zA (fun o k=>qyJ o k) H k
theorem qw4 {α:Type} (H:List Obj) (k:List Obj→α):qyN H k=k H:=qZ qwA _ _
noncomputable def qtW {α:Type} (o:Obj) (k:Obj→α):α:=
 Obj.casesOn (motive:=fun _=>α) o (fun cs=>zA jb cs fun cs=>k (.cells cs)) (fun es=>zA (fun p k=>jb p.2 fun v=>k (p.1,v)) es fun es=>k (.map es)) (fun l cs=>zA (fun v k=>k v) cs fun cs=>k (.row l cs)) (k .dead) (fun i=>qt i fun i=>k (.iter i))
theorem qwe {α:Type} (o:Obj) (k:Obj→α):qtW o k=k o:=by
 cases o with
 | cells cs=>exact qZ ze cs fun cs=>k (.cells cs)
 | map es=>exact qZ (fun p k=>ze p.2 fun v=>k (p.1,v)) es fun es=>k (.map es)
 | row l cs=>exact qZ (fun _ _=>rfl) cs fun cs=>k (.row l cs)
 | dead=>rfl
 | iter i=>exact qR i fun i=>k (.iter i)
noncomputable def qx4 (l:List Obj):Bool:=List.rec (motive:=fun _=>Bool) true (fun _ _ _=>false) l
noncomputable def qkP {α:Type} (f:Obj→(Obj→α)→α) (H:List Obj) (k:List Obj→α):α:=
 List.rec (motive:=fun _=>(List Obj→α)→α) (fun k=>k []) (fun o t ih k=>Bool.rec (motive:=fun _=>α) (f o fun o=>ih fun t=>k (o::t)) (qtW o fun o=>k [o]) (qx4 t)) H k
theorem qsD {α:Type} {f:Obj→(Obj→α)→α} (hf:∀o k,f o k=k o) (H:List Obj) (k:List Obj→α):qkP f H k=k H:=by
 induction H generalizing k with
 | nil=>rfl
 | cons o t ih=>
  show Bool.rec (motive:=fun _=>α) (f o fun o=>qkP f t fun t=>k (o::t)) (qtW o fun o=>k [o]) (qx4 t)=_
  cases t with
  | nil=>exact qwe o fun o=>k [o]
  | cons o' t=>
   show (f o fun o=>qkP f (o'::t) fun t=>k (o::t))=_
   rw [hf,ih]
noncomputable def qm8 {α:Type} (H:List Obj) (k:List Obj→α):α:=qkP (fun o k=>k o) H k
theorem qpb {α:Type} (H:List Obj) (k:List Obj→α):qm8 H k=k H:=qsD (fun _ _=>rfl) H k
noncomputable def qu1 (l:L) (off:Nat) (cs:List V):Option V:=Bool.rec (motive:=fun _=>Option V) ((fnth cs off).map zh) (V.part off l cs) l.agg
noncomputable def qqv (l:L) (st:St) (v:V):Option V:=
 match v with
 | .lp s off=>match fget s st.env with
  | .box cs=>qu1 l off cs
  | _=>none
 | .ptr id off=>match fnth st.H id with
  | some (.cells cs)=>qu1 l off cs
  | some (.row _ cs)=>qu1 l off cs
  | _=>none
 | v=>qI l st v
theorem qDD (l:L) (off:Nat) (cs:List V):qu1 l off cs=V.part off l cs:=by
 obtain ⟨n,agg⟩:=l
 cases agg with
 | true=>rfl
 | false=>show (fnth cs off).map zh=_;rw [zF];simp [V.part]
theorem qtO:qqv=qI:=by
 funext l st v
 cases v<;>simp only [qqv,qDD,j0,zF]<;>rfl
noncomputable def qC8 (x:O) (st:St):Option Or:=ok (frd st.env x) {st with env:=spent x st.env}
noncomputable def qyd (c:O) (a:O) (b:O) (st:St):Option Or:=
 match frd st.env c with
  | .d (.b z)=>ok (Bool.rec (motive:=fun _=>V) (frd st.env b) (frd st.env a) z) st
  | _=>none
noncomputable def qzt (mv:Bool) (sl:Option Nat) (l:L) (a:O) (st:St):Option Or:=
 Bool.rec (motive:=fun _=>Option Or) (bif !qC sl (frd st.env a) then none else (match qqv l st (frd st.env a) with|some v=>ok v st|none=>none)) (kS true sl l a st) mv
noncomputable def qlj (x:O) (st:St):Option Or:=
 match frd st.env x with
  | .ptr id off=>ok (.ptr id off) st
  | .lp s off=>ok (.lp s off) st
  | .cp y=>ok (.cp y) st
  | _=>none
noncomputable def qCL (op:BinOp) (kd:Kd) (x:O) (y:O) (st:St):Option Or:=
 match qa8 op kd (isC x || isC y) (frd st.env x) (frd st.env y) with
  | some v=>ok v st
  | none=>none
noncomputable def qjE (x:O) (off:Nat) (l:L) (st:St):Option Or:=
 match frd st.env x with
  | .ptr id o=>ok (.ptr id (o+off)) st
  | .lp s o=>ok (.lp s (o+off)) st
  | _=>qU x off l st
noncomputable def qjl (x:O) (i:O) (size:Nat) (arr:Option Nat) (st:St):Option Or:=
 match frd st.env i with
  | .d (.i _ n)=>match arr with
   | some len=>bif leI 0 n && !leI len n then (match frd st.env x with
    | .ptr id o=>ok (.ptr id (o+n.toNat * size)) st
    | .lp s o=>ok (.lp s (o+n.toNat * size)) st
    | .cp (.agg cs)=>bif qHm size 1 then (match fnth cs n.toNat with
     | some y=>if y.one then ok (.cp y) st else none
     | none=>none) else none
    | _=>none) else none
   | none=>bif leI 0 n then (match frd st.env x with
    | .d (.sl xs)=>match fnth xs n.toNat with
     | some y=>bif qHm y.cells.length size then ok (.cp y) st else none
     | none=>none
    | .rs id o len _=>bif !leI len n && qHm size 1 then ok (.ptr id (o+n.toNat)) st else none
    | .row id sz len=>bif !leI len n && qHm size sz then ok (.ptr id (n.toNat * sz)) st else none
    | _=>none) else none
  | _=>none
noncomputable def quq (x:O) (i:O) (st:St):Option Or:=
 match frd st.env x,frd st.env i with
  | .d (.s t),.d (.i _ n)=>bif leI 0 n then (match fnth t n.toNat with
    | some y=>ok (.d (.i .u8 y)) st
    | none=>none) else none
  | _,_=>none
noncomputable def qm4 (x:O) (i:Nat) (st:St):Option Or:=
 match x with
  | .t n=>match fget n st.env with
   | .tup vs=>match fnth vs i with
    | some v=>ok (copy v) st
    | none=>none
   | _=>none
  | _=>none
noncomputable def z6 {α:Type} (l:List α):Nat:=List.rec (motive:=fun _=>Nat) 0 (fun _ _ ih=>Nat.succ ih) l
theorem kh {α:Type} (l:List α):z6 l=l.length:=by
 induction l with
 | nil=>rfl
 | cons x l ih=>simp only [qHt,←ih];rfl
noncomputable def qBh (x:O) (st:St):Option Or:=
 match frd st.env x with
  | .d (.s t)=>ok (.d (.i .i64 (z6 t))) st
  | _=>none
noncomputable def qBl (x:O) (st:St):Option Or:=
 match frd st.env x with
  | .d .nil=>ok (.d (.i .i64 0)) st
  | .d (.sl xs)=>ok (.d (.i .i64 (z6 xs))) st
  | .rs _ _ n _=>ok (.d (.i .i64 n)) st
  | .row _ _ n=>ok (.d (.i .i64 n)) st
  | _=>none
noncomputable def fBi (b:Bi) (args:List O) (st:St):Option Or:=
 match b,args with
  | .lenS,[x]=>qBh x st
  | .lenL,[x]=>qBl x st
  | b,l=>eBi b l st
noncomputable def qcK (call:Call) (k:OpK) (st:St):Option Or:=
 match k with
 | .mov x=>qC8 x st
 | .pick c a b=>qyd c a b st
 | .load mv sl l a=>qzt mv sl l a st
 | .nilCheck x=>qlj x st
 | .bin op kd x y=>qCL op kd x y st
 | .fieldAddr x off l=>qjE x off l st
 | .indexAddr x i size arr=>qjl x i size arr st
 | .index x i=>quq x i st
 | .extract x i=>qm4 x i st
 | .bi b args=>fBi b args st
 | k=>qc call k st
theorem qvy:qcK=qc:=by
 funext call k st
 cases k with
 | mov x=>simp only [qcK,qC8,yb];rfl
 | pick c a b=>
  simp only [qcK,qyd,yb,qc,qfh]
  cases rd st.env c with
  | d w=>cases w with
   | b z=>cases z<;>rfl
   | _=>rfl
  | _=>rfl
 | load mv sl l a=>cases mv<;>simp only [qcK,qzt,yb,qtO]<;>rfl
 | nilCheck x=>simp only [qcK,qlj,yb];rfl
 | bin op kd x y=>simp only [qcK,qCL,yb];rfl
 | fieldAddr x off l=>
  simp only [qcK,qjE,yb,qc]
  split<;>rename_i h<;>(try simp only [qU,h])
 | indexAddr x i size arr=>simp only [qcK,qjl,yb,zF];rfl
 | index x i=>simp only [qcK,quq,yb,zF];rfl
 | extract x i=>simp only [qcK,qm4,j0,zF];rfl
 | bi b args=>
  simp only [qcK,fBi,qc]
  split
  ·rename_i x;simp only [qBh,yb,kh];rfl
  ·rename_i x
   simp only [qBl,yb,kh]
   show _=qbi x st
   unfold qbi
   cases rd st.env x with
   | d w=>cases w<;>rfl
   | _=>rfl
  ·rfl
 | _=>rfl
noncomputable def makes (k:OpK):Bool:=
 match k with
 | .mov _=>false
 | .load _ _ _ _=>false
 | .extract _ _=>false
 | .pick _ _ _=>false
 | .nilCheck _=>false
 | .store _ _ _ _=>false
 | .call _ _=>false
 | .indexAddr _ _ _ _=>false
 | .fieldAddr _ _ _=>false
 | .field _ _ _=>false
 | _=>true
noncomputable def qnJ {α:Type} (m:Bool) (v:V) (k:V→α):α:=Bool.rec (motive:=fun _=>α) (jb v k) (qbw v k) m
theorem qpx {α:Type} (m:Bool) (v:V) (k:V→α):qnJ m v k=k v:=by
 cases m
 ·exact ze v k
 ·exact qaP v k
end W
