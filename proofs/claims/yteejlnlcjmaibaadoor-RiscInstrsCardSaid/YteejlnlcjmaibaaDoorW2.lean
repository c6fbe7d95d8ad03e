/-
  RiscInstrs: any instruction is the document's word, and read back, or refused, and how it is told: part 2 of what the proof rests on (a value semantics for a part of the language, sound against the model; the walks).
-/
import Derived.Calls
import Derived.Orders
import Derived.Laws.Cells
import Derived.Laws.AppendOwn
import Derived.Lib.Strings
import Derived.Test.YteejlnlcjmaibaaDoorW1
set_option linter.unusedVariables false
namespace W
def glD (n : Nat) : D :=
  bif Nat.beq n 0 then gl_strings_asciiSpace else
  bif Nat.beq n 2 then gl_internal_strconv_uint64pow10 else
  bif Nat.beq n 4 then gl_math_bits_deBruijn32tab else
  bif Nat.beq n 5 then gl_math_bits_deBruijn64tab else .nil
def f_gosem_cut_init : Fn := ⟨0, [], false,
  .ops [⟨(some 0), .call (.f 1) [], none⟩]⟩
def f_waferlaw5_RiscWords_B0 : C :=
  (.seq (.ops [⟨(some 21), .bin .lss .num (.t 20) (.t 19), none⟩])
  ((.seq ((.cond (.t 21) (.skip)
   (.exit 0)))
  ((.seq ((.block 1 [18, 19, 20] ((.seq (.ops [⟨(some 22), .indexAddr (.t 18) (.t 20) 1 none, none⟩,
     ⟨(some 23), .load false none ⟨1, false⟩ (.t 22), none⟩,
     ⟨(some 4), .mov (.t 23), none⟩])
   ((.seq (.ops [⟨(some 25), .mov (.t 4), none⟩,
     ⟨(some 26), .call (.f 6) [(.t 25)], none⟩,
     ⟨(some 24), .mov (.t 26), none⟩,
     ⟨(some 27), .extract (.t 24) 0, none⟩,
     ⟨(some 28), .extract (.t 24) 1, none⟩,
     ⟨(some 5), .alloc true [(.i .i64 0), (.b false), (.b false), (.i .i64 0), (.i .i64 0), (.i .i64 0), (.i .i64 0), (.i .i32 0)], none⟩,
     ⟨none, .store (some 5) ⟨8, true⟩ (.t 5) (.t 27), none⟩,
     ⟨(some 6), .mov (.t 28), none⟩])
   ((.seq (.ops [⟨(some 30), .mov (.t 4), none⟩,
     ⟨(some 31), .call (.f 7) [(.t 30)], none⟩,
     ⟨(some 29), .mov (.t 31), none⟩,
     ⟨(some 32), .extract (.t 29) 0, none⟩,
     ⟨(some 33), .extract (.t 29) 1, none⟩,
     ⟨(some 7), .alloc true [(.i .i64 0), (.b false), (.b false), (.i .i64 0), (.i .i64 0), (.i .i64 0), (.i .i64 0), (.i .i32 0)], none⟩,
     ⟨none, .store (some 7) ⟨8, true⟩ (.t 7) (.t 32), none⟩,
     ⟨(some 8), .mov (.t 33), none⟩])
   ((.seq ((.seq (.ops [⟨(some 34), .load false (some 5) ⟨8, true⟩ (.t 5), none⟩,
     ⟨(some 35), .load false (some 7) ⟨8, true⟩ (.t 7), none⟩,
     ⟨(some 36), .bin .neq (.agg [1, 0, 0, 1, 1, 1, 1, 1]) (.t 34) (.t 35), none⟩,
     ⟨(some 37), .mov (.t 36), none⟩,
     ⟨(some 38), .mov (.t 6), some (37, false)⟩,
     ⟨(some 39), .mov (.t 8), some (37, false)⟩,
     ⟨(some 40), .bin .neq .bool (.t 38) (.t 39), some (37, false)⟩,
     ⟨(some 41), .pick (.t 37) (.c (.b true)) (.t 40), none⟩])
   ((.cond (.t 41) ((.seq (.ops [⟨(some 2), .mov (.c (.b false)), none⟩])
    (.ret)))
    (.skip)))))
   ((.seq ((.seq (.ops [⟨(some 42), .mov (.t 6), none⟩,
     ⟨(some 43), .un .not (.t 42), none⟩])
   ((.cond (.t 43) (.exit 1)
    (.skip)))))
   ((.seq (.ops [⟨(some 45), .load false (some 5) ⟨8, true⟩ (.t 5), none⟩,
     ⟨(some 46), .call (.f 8) [(.t 45)], none⟩,
     ⟨(some 44), .mov (.t 46), none⟩,
     ⟨(some 47), .extract (.t 44) 0, none⟩,
     ⟨(some 48), .extract (.t 44) 1, none⟩,
     ⟨(some 9), .mov (.t 47), none⟩,
     ⟨(some 10), .mov (.t 48), none⟩])
   ((.seq (.opsD [(⟨(some 49), .mov (.t 10), none⟩, false, []),
     (⟨(some 50), .bin .neq .num (.t 49) (.c (.i .i64 0)), none⟩, false, []),
     (⟨(some 51), .mov (.t 50), none⟩, false, []),
     (⟨(some 52), .mov (.t 9), some (51, false)⟩, false, []),
     (⟨(some 53), .mov (.t 4), some (51, false)⟩, false, []),
     (⟨(some 54), .bin .neq .num (.t 52) (.t 53), some (51, false)⟩, false, []),
     (⟨(some 55), .pick (.t 51) (.c (.b true)) (.t 54), none⟩, false, []),
     (⟨(some 56), .mov (.t 55), none⟩, false, []),
     (⟨(some 57), .load false (some 5) ⟨8, true⟩ (.t 5), some (56, false)⟩, false, []),
     (⟨(some 58), .call (.f 9) [(.t 57)], some (56, false)⟩, false, []),
     (⟨(some 59), .load false (some 5) ⟨8, true⟩ (.t 5), some (56, false)⟩, false, []),
     (⟨(some 60), .call (.f 10) [(.t 59)], some (56, false)⟩, false, []),
     (⟨(some 61), .bin .neq .num (.t 58) (.t 60), some (56, false)⟩, false, []),
     (⟨(some 62), .pick (.t 56) (.c (.b true)) (.t 61), none⟩, false, [])])
   ((.cond (.t 62) ((.seq (.ops [⟨(some 2), .mov (.c (.b false)), none⟩])
    (.ret)))
    (.skip)))))))))))))))))))
  (.ops [⟨(some 63), .bin .add .num (.t 20) (.c (.i .i64 1)), none⟩,
    ⟨(some 20), .mov (.t 63), none⟩]))))))
def f_waferlaw5_RiscWords_L0 : C := .loop [18, 19, 20] f_waferlaw5_RiscWords_B0
noncomputable def f_waferlaw5_RiscWords_l0 (pg : Pg) (v18 v19 v20 : V) (H : List Obj) (lo : Nat) : Option (Ex × St) := exL pg f_waferlaw5_RiscWords_L0 ⟨[(18, v18), (19, v19), (20, v20)], H, lo⟩
theorem f_waferlaw5_RiscWords_l0_in {pg : Pg} {e : Env} {H : List Obj} {lo : Nat} : exL pg f_waferlaw5_RiscWords_L0 ⟨e, H, lo⟩ = f_waferlaw5_RiscWords_l0 pg (keepV (get 18 e)) (keepV (get 19 e)) (keepV (get 20 e)) H lo := loop_in
theorem f_waferlaw5_RiscWords_l0_eq {pg : Pg} {v18 v19 v20 : V} {H : List Obj} {lo : Nat} : f_waferlaw5_RiscWords_l0 pg v18 v19 v20 H lo = thenC pg (exL pg f_waferlaw5_RiscWords_B0 ⟨[(18, keepV v18), (19, keepV v19), (20, keepV v20)], H, lo⟩) f_waferlaw5_RiscWords_L0 := by
  unfold f_waferlaw5_RiscWords_l0 f_waferlaw5_RiscWords_L0; rw [exL_loop]; simp only [restrict_cons, restrict_nil, get_eq, get_ne, Nat.reduceEqDiff]
def f_waferlaw5_RiscWords_R1 : C :=
  (.seq (.ops [⟨(some 2), .mov (.c (.b true)), none⟩])
  (.ret))
def f_waferlaw5_RiscWords : Fn := ⟨1, [(.t 2)], true,
  (.seq (.ops [⟨(some 2), .mov (.c (.b false)), none⟩])
  ((.seq ((.seq (.ops [⟨(some 11), .call (.f 5) [], none⟩,
    ⟨(some 12), .un .not (.t 11), none⟩])
  ((.cond (.t 12) ((.seq (.ops [⟨(some 2), .mov (.c (.b false)), none⟩])
   (.ret)))
   (.skip)))))
  ((.seq ((.seq (.ops [⟨(some 13), .mov (.t 0), none⟩,
    ⟨(some 14), .mov (.t 0), none⟩,
    ⟨(some 15), .bin .andNot .num (.t 14) (.c (.i .u32 65520)), none⟩,
    ⟨(some 16), .mov (.t 0), none⟩,
    ⟨(some 17), .bin .andNot .num (.t 16) (.c (.i .u32 16776960)), none⟩,
    ⟨(some 18), .buildSlice (.i .u32 0) 3 [(0, (.t 13)), (1, (.t 15)), (2, (.t 17))], none⟩,
    ⟨(some 19), .bi .lenL [(.t 18)], none⟩,
    ⟨(some 20), .mov (.c (.i .i64 0)), none⟩])
  ((.block 0 [] (f_waferlaw5_RiscWords_L0)))))
  (f_waferlaw5_RiscWords_R1))))))⟩
def f_waferlaw5_RiscInstrs_B0 : C :=
  (.seq (.ops [⟨(some 70), .bin .lss .num (.t 69) (.t 68), none⟩])
  ((.seq ((.cond (.t 70) (.skip)
   (.exit 1)))
  ((.seq ((.block 2 [67, 68, 69] ((.seq (.ops [⟨(some 71), .indexAddr (.t 67) (.t 69) 8 none, none⟩,
     ⟨(some 72), .load false none ⟨8, true⟩ (.t 71), none⟩,
     ⟨(some 7), .alloc true [(.i .i64 0), (.b false), (.b false), (.i .i64 0), (.i .i64 0), (.i .i64 0), (.i .i64 0), (.i .i32 0)], none⟩,
     ⟨none, .store (some 7) ⟨8, true⟩ (.t 7) (.t 72), none⟩])
   ((.seq (.ops [⟨(some 74), .load false (some 7) ⟨8, true⟩ (.t 7), none⟩,
     ⟨(some 75), .call (.f 8) [(.t 74)], none⟩,
     ⟨(some 73), .mov (.t 75), none⟩,
     ⟨(some 76), .extract (.t 73) 0, none⟩,
     ⟨(some 77), .extract (.t 73) 1, none⟩,
     ⟨(some 8), .mov (.t 76), none⟩,
     ⟨(some 9), .mov (.t 77), none⟩])
   ((.seq (.ops [⟨(some 79), .load false (some 7) ⟨8, true⟩ (.t 7), none⟩,
     ⟨(some 80), .call (.f 11) [(.t 79)], none⟩,
     ⟨(some 78), .mov (.t 80), none⟩,
     ⟨(some 81), .extract (.t 78) 0, none⟩,
     ⟨(some 82), .extract (.t 78) 1, none⟩,
     ⟨(some 10), .mov (.t 81), none⟩,
     ⟨(some 11), .mov (.t 82), none⟩])
   ((.seq ((.seq (.ops [⟨(some 83), .mov (.t 11), none⟩,
     ⟨(some 84), .un .not (.t 83), none⟩])
   ((.cond (.t 84) (.ops [⟨(some 10), .mov (.c (.i .u32 0)), none⟩])
    (.skip)))))
   ((.seq ((.seq (.opsD [(⟨(some 85), .mov (.t 8), none⟩, false, []),
     (⟨(some 86), .mov (.t 10), none⟩, false, []),
     (⟨(some 87), .bin .neq .num (.t 85) (.t 86), none⟩, false, []),
     (⟨(some 88), .mov (.t 87), none⟩, false, []),
     (⟨(some 89), .mov (.t 9), some (88, false)⟩, false, []),
     (⟨(some 90), .bin .eql .num (.t 89) (.c (.i .i64 0)), some (88, false)⟩, false, []),
     (⟨(some 91), .mov (.t 11), some (88, false)⟩, false, []),
     (⟨(some 92), .bin .neq .bool (.t 90) (.t 91), some (88, false)⟩, false, []),
     (⟨(some 93), .pick (.t 88) (.c (.b true)) (.t 92), none⟩, false, []),
     (⟨(some 94), .mov (.t 93), none⟩, false, []),
     (⟨(some 95), .mov (.t 11), some (94, false)⟩, false, []),
     (⟨(some 96), .un .not (.t 95), some (94, false)⟩, false, []),
     (⟨(some 97), .mov (.t 96), some (94, false)⟩, false, []),
     (⟨(some 98), .mov (.t 9), some (97, true)⟩, false, []),
     (⟨(some 99), .bin .neq .num (.t 98) (.c (.i .i64 23)), some (97, true)⟩, false, []),
     (⟨(some 100), .pick (.t 97) (.t 99) (.c (.b false)), some (94, false)⟩, false, []),
     (⟨(some 101), .pick (.t 94) (.c (.b true)) (.t 100), none⟩, false, []),
     (⟨(some 102), .mov (.t 101), none⟩, false, []),
     (⟨(some 103), .load false (some 7) ⟨8, true⟩ (.t 7), some (102, false)⟩, false, []),
     (⟨(some 104), .call (.f 9) [(.t 103)], some (102, false)⟩, false, []),
     (⟨(some 105), .load false (some 7) ⟨8, true⟩ (.t 7), some (102, false)⟩, false, []),
     (⟨(some 106), .call (.f 10) [(.t 105)], some (102, false)⟩, false, []),
     (⟨(some 107), .bin .neq .num (.t 104) (.t 106), some (102, false)⟩, false, []),
     (⟨(some 108), .pick (.t 102) (.c (.b true)) (.t 107), none⟩, false, [])])
   ((.cond (.t 108) ((.seq (.ops [⟨(some 4), .mov (.c (.b false)), none⟩])
    (.ret)))
    (.skip)))))
   ((.seq (.ops [⟨(some 109), .mov (.t 11), none⟩])
   ((.cond (.t 109) ((.seq (.ops [⟨(some 111), .mov (.mv 8), none⟩,
      ⟨(some 112), .call (.f 6) [(.mv 111)], none⟩,
      ⟨(some 110), .mov (.t 112), none⟩,
      ⟨(some 113), .extract (.t 110) 0, none⟩,
      ⟨(some 114), .extract (.t 110) 1, none⟩,
      ⟨(some 12), .alloc true [(.i .i64 0), (.b false), (.b false), (.i .i64 0), (.i .i64 0), (.i .i64 0), (.i .i64 0), (.i .i32 0)], none⟩,
      ⟨none, .store (some 12) ⟨8, true⟩ (.t 12) (.t 113), none⟩,
      ⟨(some 13), .mov (.t 114), none⟩])
    ((.seq (.ops [⟨(some 115), .mov (.t 13), none⟩,
      ⟨(some 116), .un .not (.t 115), none⟩,
      ⟨(some 117), .mov (.t 116), none⟩,
      ⟨(some 118), .load false (some 12) ⟨8, true⟩ (.t 12), some (117, false)⟩,
      ⟨(some 119), .load false (some 7) ⟨8, true⟩ (.t 7), some (117, false)⟩,
      ⟨(some 120), .bin .neq (.agg [1, 0, 0, 1, 1, 1, 1, 1]) (.t 118) (.t 119), some (117, false)⟩,
      ⟨(some 121), .pick (.t 117) (.c (.b true)) (.t 120), none⟩])
    ((.cond (.t 121) ((.seq (.ops [⟨(some 4), .mov (.c (.b false)), none⟩])
     (.ret)))
     (.skip)))))))
    (.skip)))))))))))))))))
  (.ops [⟨(some 122), .bin .add .num (.t 69) (.c (.i .i64 1)), none⟩,
    ⟨(some 69), .mov (.t 122), none⟩]))))))
def f_waferlaw5_RiscInstrs_L0 : C := .loop [67, 68, 69] f_waferlaw5_RiscInstrs_B0
noncomputable def f_waferlaw5_RiscInstrs_l0 (pg : Pg) (v67 v68 v69 : V) (H : List Obj) (lo : Nat) : Option (Ex × St) := exL pg f_waferlaw5_RiscInstrs_L0 ⟨[(67, v67), (68, v68), (69, v69)], H, lo⟩
theorem f_waferlaw5_RiscInstrs_l0_in {pg : Pg} {e : Env} {H : List Obj} {lo : Nat} : exL pg f_waferlaw5_RiscInstrs_L0 ⟨e, H, lo⟩ = f_waferlaw5_RiscInstrs_l0 pg (keepV (get 67 e)) (keepV (get 68 e)) (keepV (get 69 e)) H lo := loop_in
theorem f_waferlaw5_RiscInstrs_l0_eq {pg : Pg} {v67 v68 v69 : V} {H : List Obj} {lo : Nat} : f_waferlaw5_RiscInstrs_l0 pg v67 v68 v69 H lo = thenC pg (exL pg f_waferlaw5_RiscInstrs_B0 ⟨[(67, keepV v67), (68, keepV v68), (69, keepV v69)], H, lo⟩) f_waferlaw5_RiscInstrs_L0 := by
  unfold f_waferlaw5_RiscInstrs_l0 f_waferlaw5_RiscInstrs_L0; rw [exL_loop]; simp only [restrict_cons, restrict_nil, get_eq, get_ne, Nat.reduceEqDiff]
def f_waferlaw5_RiscInstrs_R1 : C :=
  (.seq (.ops [⟨(some 4), .mov (.c (.b true)), none⟩])
  (.ret))
def f_waferlaw5_RiscInstrs : Fn := ⟨2, [(.t 4)], true,
  (.seq (.ops [⟨(some 2), .box true (.t 0), none⟩,
    ⟨(some 4), .mov (.c (.b false)), none⟩])
  ((.seq ((.seq (.ops [⟨(some 14), .call (.f 5) [], none⟩,
    ⟨(some 15), .un .not (.t 14), none⟩])
  ((.cond (.t 15) ((.seq (.ops [⟨(some 4), .mov (.c (.b false)), none⟩])
   (.ret)))
   (.skip)))))
  ((.seq (.ops [⟨(some 16), .load false (some 2) ⟨8, true⟩ (.t 2), none⟩,
    ⟨(some 5), .alloc true [(.i .i64 0), (.b false), (.b false), (.i .i64 0), (.i .i64 0), (.i .i64 0), (.i .i64 0), (.i .i32 0)], none⟩,
    ⟨none, .store (some 5) ⟨8, true⟩ (.t 5) (.t 16), none⟩])
  ((.seq (.opsD [(⟨(some 17), .fieldAddr (.t 2) 0 ⟨1, false⟩, none⟩, false, []),
    (⟨(some 18), .load false (some 2) ⟨1, false⟩ (.t 17), none⟩, false, []),
    (⟨(some 19), .bin .and .num (.t 18) (.c (.i .i64 3)), none⟩, false, []),
    (⟨(some 20), .fieldAddr (.t 2) 3 ⟨1, false⟩, none⟩, false, []),
    (⟨(some 21), .load false (some 2) ⟨1, false⟩ (.t 20), none⟩, false, []),
    (⟨(some 22), .bin .and .num (.t 21) (.c (.i .i64 15)), none⟩, false, []),
    (⟨(some 23), .fieldAddr (.t 2) 4 ⟨1, false⟩, none⟩, false, []),
    (⟨(some 24), .load false (some 2) ⟨1, false⟩ (.t 23), none⟩, false, []),
    (⟨(some 25), .bin .and .num (.t 24) (.c (.i .i64 15)), none⟩, false, []),
    (⟨(some 26), .fieldAddr (.t 2) 5 ⟨1, false⟩, none⟩, false, []),
    (⟨(some 27), .load false (some 2) ⟨1, false⟩ (.t 26), none⟩, false, []),
    (⟨(some 28), .bin .and .num (.t 27) (.c (.i .i64 15)), none⟩, false, []),
    (⟨(some 29), .fieldAddr (.t 2) 6 ⟨1, false⟩, none⟩, false, []),
    (⟨(some 30), .load false (some 2) ⟨1, false⟩ (.t 29), none⟩, false, []),
    (⟨(some 31), .bin .and .num (.t 30) (.c (.i .i64 15)), none⟩, false, []),
    (⟨(some 32), .fieldAddr (.t 2) 7 ⟨1, false⟩, none⟩, false, []),
    (⟨(some 33), .load false (some 2) ⟨1, false⟩ (.t 32), none⟩, false, []),
    (⟨(some 34), .bin .and .num (.t 33) (.c (.i .i32 15)), none⟩, false, []),
    (⟨(some 35), .fieldAddr (.t 5) 0 ⟨1, false⟩, none⟩, false, []),
    (⟨none, .store (some 5) ⟨1, false⟩ (.t 35) (.t 19), none⟩, false, []),
    (⟨(some 36), .fieldAddr (.t 5) 3 ⟨1, false⟩, none⟩, false, []),
    (⟨none, .store (some 5) ⟨1, false⟩ (.t 36) (.t 22), none⟩, false, []),
    (⟨(some 37), .fieldAddr (.t 5) 4 ⟨1, false⟩, none⟩, false, []),
    (⟨none, .store (some 5) ⟨1, false⟩ (.t 37) (.t 25), none⟩, false, []),
    (⟨(some 38), .fieldAddr (.t 5) 5 ⟨1, false⟩, none⟩, false, []),
    (⟨none, .store (some 5) ⟨1, false⟩ (.t 38) (.t 28), none⟩, false, []),
    (⟨(some 39), .fieldAddr (.t 5) 6 ⟨1, false⟩, none⟩, false, []),
    (⟨none, .store (some 5) ⟨1, false⟩ (.t 39) (.t 31), none⟩, false, []),
    (⟨(some 40), .fieldAddr (.t 5) 7 ⟨1, false⟩, none⟩, false, []),
    (⟨none, .store (some 5) ⟨1, false⟩ (.t 40) (.t 34), none⟩, false, [])])
  ((.seq ((.seq (.ops [⟨(some 41), .fieldAddr (.t 5) 0 ⟨1, false⟩, none⟩,
    ⟨(some 42), .load false (some 5) ⟨1, false⟩ (.t 41), none⟩])
  ((.block 0 [1, 2, 5] ((.seq (.ops [⟨(some 49), .bin .eql .num (.t 42) (.c (.i .i64 0)), none⟩,
     ⟨(some 48), .mov (.t 49), none⟩])
   ((.cond (.t 48) (.ops [⟨(some 50), .fieldAddr (.t 5) 7 ⟨1, false⟩, none⟩,
      ⟨none, .store (some 5) ⟨1, false⟩ (.t 50) (.c (.i .i32 0)), none⟩])
    ((.seq (.ops [⟨(some 52), .bin .eql .num (.t 42) (.c (.i .i64 1)), none⟩,
      ⟨(some 51), .mov (.t 52), none⟩])
    ((.cond (.t 51) (.ops [⟨(some 53), .fieldAddr (.t 5) 5 ⟨1, false⟩, none⟩,
       ⟨none, .store (some 5) ⟨1, false⟩ (.t 53) (.c (.i .i64 0)), none⟩])
     ((.seq (.ops [⟨(some 55), .bin .eql .num (.t 42) (.c (.i .i64 2)), none⟩,
       ⟨(some 54), .mov (.t 55), none⟩])
     ((.cond (.t 54) (.ops [⟨(some 56), .fieldAddr (.t 5) 5 ⟨1, false⟩, none⟩,
        ⟨none, .store (some 5) ⟨1, false⟩ (.t 56) (.c (.i .i64 0)), none⟩,
        ⟨(some 57), .fieldAddr (.t 5) 6 ⟨1, false⟩, none⟩,
        ⟨none, .store (some 5) ⟨1, false⟩ (.t 57) (.c (.i .i64 0)), none⟩])
      ((.seq (.ops [⟨(some 43), .fieldAddr (.t 5) 4 ⟨1, false⟩, none⟩,
        ⟨none, .store (some 5) ⟨1, false⟩ (.t 43) (.c (.i .i64 0)), none⟩,
        ⟨(some 44), .fieldAddr (.t 5) 6 ⟨1, false⟩, none⟩,
        ⟨none, .store (some 5) ⟨1, false⟩ (.t 44) (.c (.i .i64 0)), none⟩])
      ((.seq (.ops [⟨(some 45), .fieldAddr (.t 5) 1 ⟨1, false⟩, none⟩,
        ⟨(some 46), .load false (some 5) ⟨1, false⟩ (.t 45), none⟩])
      ((.cond (.t 46) (.ops [⟨(some 47), .fieldAddr (.t 5) 5 ⟨1, false⟩, none⟩,
         ⟨none, .store (some 5) ⟨1, false⟩ (.t 47) (.c (.i .i64 0)), none⟩])
       (.skip)))))))))))))))))))))))
  ((.seq ((.seq (.ops [⟨(some 58), .mov (.t 1), none⟩,
    ⟨(some 59), .bin .rem .num (.t 58) (.c (.i .u8 4)), none⟩,
    ⟨(some 60), .bin .eql .num (.t 59) (.c (.i .u8 0)), none⟩])
  ((.cond (.t 60) (.ops [⟨(some 61), .fieldAddr (.t 2) 7 ⟨1, false⟩, none⟩,
     ⟨(some 62), .load false (some 2) ⟨1, false⟩ (.t 61), none⟩,
     ⟨(some 63), .bin .shr .num (.t 62) (.c (.i .u64 12)), none⟩,
     ⟨(some 64), .fieldAddr (.t 5) 7 ⟨1, false⟩, none⟩,
     ⟨none, .store (some 5) ⟨1, false⟩ (.t 64) (.t 63), none⟩])
   (.skip)))))
  ((.seq ((.seq (.ops [⟨(some 65), .load false (some 2) ⟨8, true⟩ (.t 2), none⟩,
    ⟨(some 66), .load false (some 5) ⟨8, true⟩ (.t 5), none⟩,
    ⟨(some 67), .buildSlice (.agg [(.i .i64 0), (.b false), (.b false), (.i .i64 0), (.i .i64 0), (.i .i64 0), (.i .i64 0), (.i .i32 0)]) 2 [(0, (.t 65)), (1, (.t 66))], none⟩,
    ⟨(some 68), .bi .lenL [(.t 67)], none⟩,
    ⟨(some 69), .mov (.c (.i .i64 0)), none⟩])
  ((.block 1 [] (f_waferlaw5_RiscInstrs_L0)))))
  (f_waferlaw5_RiscInstrs_R1))))))))))))))⟩
def f_waferlaw5_known : Fn := ⟨0, [(.t 0)], true,
  (.seq (.ops [⟨(some 0), .mov (.c (.b false)), none⟩])
  ((.seq (.ops [⟨(some 8), .build [(.i .i64 0), (.b false), (.b false), (.i .i64 0), (.i .i64 0), (.i .i64 0), (.i .i64 0), (.i .i32 0)] [(0, 1, (.c (.i .i64 1))), (3, 1, (.c (.i .i64 1))), (7, 1, (.c (.i .i32 5)))], none⟩,
    ⟨(some 9), .call (.f 8) [(.t 8)], none⟩,
    ⟨(some 7), .mov (.t 9), none⟩,
    ⟨(some 10), .extract (.t 7) 0, none⟩,
    ⟨(some 11), .extract (.t 7) 1, none⟩,
    ⟨(some 1), .mov (.t 10), none⟩,
    ⟨(some 2), .mov (.t 11), none⟩])
  ((.seq (.ops [⟨(some 13), .mov (.t 1), none⟩,
    ⟨(some 14), .call (.f 6) [(.t 13)], none⟩,
    ⟨(some 12), .mov (.t 14), none⟩,
    ⟨(some 15), .extract (.t 12) 0, none⟩,
    ⟨(some 16), .extract (.t 12) 1, none⟩,
    ⟨(some 3), .alloc true [(.i .i64 0), (.b false), (.b false), (.i .i64 0), (.i .i64 0), (.i .i64 0), (.i .i64 0), (.i .i32 0)], none⟩,
    ⟨none, .store (some 3) ⟨8, true⟩ (.t 3) (.t 15), none⟩,
    ⟨(some 4), .mov (.t 16), none⟩])
  ((.seq (.ops [⟨(some 18), .build [(.i .i64 0), (.b false), (.b false), (.i .i64 0), (.i .i64 0), (.i .i64 0), (.i .i64 0), (.i .i32 0)] [(0, 1, (.c (.i .i64 4)))], none⟩,
    ⟨(some 19), .call (.f 8) [(.t 18)], none⟩,
    ⟨(some 17), .mov (.t 19), none⟩,
    ⟨(some 20), .extract (.t 17) 0, none⟩,
    ⟨(some 21), .extract (.t 17) 1, none⟩,
    ⟨(some 5), .mov (.t 20), none⟩,
    ⟨(some 6), .mov (.t 21), none⟩])
  ((.seq (.ops [⟨(some 22), .mov (.t 1), none⟩,
    ⟨(some 23), .bin .eql .num (.t 22) (.c (.i .u32 1090519045)), none⟩,
    ⟨(some 24), .mov (.t 23), none⟩,
    ⟨(some 25), .mov (.t 2), some (24, true)⟩,
    ⟨(some 26), .bin .eql .num (.t 25) (.c (.i .i64 0)), some (24, true)⟩,
    ⟨(some 27), .pick (.t 24) (.t 26) (.c (.b false)), none⟩,
    ⟨(some 28), .mov (.t 27), none⟩,
    ⟨(some 29), .mov (.t 4), some (28, true)⟩,
    ⟨(some 30), .pick (.t 28) (.t 29) (.c (.b false)), none⟩,
    ⟨(some 31), .mov (.t 30), none⟩,
    ⟨(some 32), .load false (some 3) ⟨8, true⟩ (.t 3), some (31, true)⟩,
    ⟨(some 33), .build [(.i .i64 0), (.b false), (.b false), (.i .i64 0), (.i .i64 0), (.i .i64 0), (.i .i64 0), (.i .i32 0)] [(0, 1, (.c (.i .i64 1))), (3, 1, (.c (.i .i64 1))), (7, 1, (.c (.i .i32 5)))], some (31, true)⟩,
    ⟨(some 34), .bin .eql (.agg [1, 0, 0, 1, 1, 1, 1, 1]) (.t 32) (.t 33), some (31, true)⟩,
    ⟨(some 35), .pick (.t 31) (.t 34) (.c (.b false)), none⟩,
    ⟨(some 36), .mov (.t 35), none⟩,
    ⟨(some 37), .mov (.t 6), some (36, true)⟩,
    ⟨(some 38), .bin .eql .num (.t 37) (.c (.i .i64 23)), some (36, true)⟩,
    ⟨(some 39), .pick (.t 36) (.t 38) (.c (.b false)), none⟩,
    ⟨(some 40), .mov (.t 39), none⟩,
    ⟨(some 41), .load false (some 3) ⟨8, true⟩ (.t 3), some (40, true)⟩,
    ⟨(some 42), .call (.f 9) [(.t 41)], some (40, true)⟩,
    ⟨(some 43), .bin .eql .num (.t 42) (.c (.s [77, 79, 86, 32, 82, 49, 44, 32, 82, 48, 44, 32, 53])), some (40, true)⟩,
    ⟨(some 44), .pick (.t 40) (.t 43) (.c (.b false)), none⟩,
    ⟨(some 0), .mov (.t 44), none⟩])
  (.ret))))))))))⟩
def f_risc_Decode : Fn := ⟨1, [(.cell 2 ⟨8, true⟩), (.t 3)], false,
  (.seq (.ops [⟨(some 2), .alloc true [(.i .i64 0), (.b false), (.b false), (.i .i64 0), (.i .i64 0), (.i .i64 0), (.i .i64 0), (.i .i32 0)], none⟩,
    ⟨(some 3), .mov (.c (.b false)), none⟩])
  ((.seq (.ops [⟨(some 7), .mov (.t 0), none⟩,
    ⟨(some 8), .bin .shr .num (.t 7) (.c (.i .u64 30)), none⟩,
    ⟨(some 9), .conv .i64 (.t 8), none⟩,
    ⟨(some 10), .mov (.t 0), none⟩,
    ⟨(some 11), .bin .shr .num (.t 10) (.c (.i .u64 29)), none⟩,
    ⟨(some 12), .bin .and .num (.t 11) (.c (.i .u32 1)), none⟩,
    ⟨(some 13), .bin .eql .num (.t 12) (.c (.i .u32 1)), none⟩,
    ⟨(some 14), .mov (.t 0), none⟩,
    ⟨(some 15), .bin .shr .num (.t 14) (.c (.i .u64 28)), none⟩,
    ⟨(some 16), .bin .and .num (.t 15) (.c (.i .u32 1)), none⟩,
    ⟨(some 17), .bin .eql .num (.t 16) (.c (.i .u32 1)), none⟩,
    ⟨(some 18), .mov (.t 0), none⟩,
    ⟨(some 19), .call (.f 12) [(.t 18), (.c (.i .u64 24))], none⟩,
    ⟨(some 20), .build [(.i .i64 0), (.b false), (.b false), (.i .i64 0), (.i .i64 0), (.i .i64 0), (.i .i64 0), (.i .i32 0)] [(0, 1, (.t 9)), (1, 1, (.t 13)), (2, 1, (.t 17)), (3, 1, (.t 19))], none⟩,
    ⟨(some 4), .alloc true [(.i .i64 0), (.b false), (.b false), (.i .i64 0), (.i .i64 0), (.i .i64 0), (.i .i64 0), (.i .i32 0)], none⟩,
    ⟨none, .store (some 4) ⟨8, true⟩ (.t 4) (.t 20), none⟩])
  ((.seq ((.block 0 [0, 2, 4] ((.seq (.ops [⟨(some 29), .fieldAddr (.t 4) 0 ⟨1, false⟩, none⟩,
     ⟨(some 30), .load false (some 4) ⟨1, false⟩ (.t 29), none⟩,
     ⟨(some 31), .bin .eql .num (.t 30) (.c (.i .i64 0)), none⟩,
     ⟨(some 28), .mov (.t 31), none⟩])
   ((.cond (.t 28) (.ops [⟨(some 32), .mov (.t 0), none⟩,
      ⟨(some 33), .call (.f 12) [(.t 32), (.c (.i .u64 20))], none⟩,
      ⟨(some 34), .mov (.t 0), none⟩,
      ⟨(some 35), .call (.f 12) [(.t 34), (.c (.i .u64 16))], none⟩,
      ⟨(some 36), .mov (.t 0), none⟩,
      ⟨(some 37), .call (.f 12) [(.t 36), (.c (.i .u64 0))], none⟩,
      ⟨(some 38), .fieldAddr (.t 4) 4 ⟨1, false⟩, none⟩,
      ⟨none, .store (some 4) ⟨1, false⟩ (.t 38) (.mv 33), none⟩,
      ⟨(some 39), .fieldAddr (.t 4) 6 ⟨1, false⟩, none⟩,
      ⟨none, .store (some 4) ⟨1, false⟩ (.t 39) (.mv 35), none⟩,
      ⟨(some 40), .fieldAddr (.t 4) 5 ⟨1, false⟩, none⟩,
      ⟨none, .store (some 4) ⟨1, false⟩ (.t 40) (.mv 37), none⟩])
    ((.seq (.ops [⟨(some 42), .fieldAddr (.t 4) 0 ⟨1, false⟩, none⟩,
      ⟨(some 43), .load false (some 4) ⟨1, false⟩ (.t 42), none⟩,
      ⟨(some 44), .bin .eql .num (.t 43) (.c (.i .i64 1)), none⟩,
      ⟨(some 41), .mov (.t 44), none⟩])
    ((.cond (.t 41) (.ops [⟨(some 45), .mov (.t 0), none⟩,
       ⟨(some 46), .call (.f 12) [(.t 45), (.c (.i .u64 20))], none⟩,
       ⟨(some 47), .mov (.t 0), none⟩,
       ⟨(some 48), .call (.f 12) [(.t 47), (.c (.i .u64 16))], none⟩,
       ⟨(some 49), .mov (.t 0), none⟩,
       ⟨(some 50), .bin .and .num (.t 49) (.c (.i .u32 65535)), none⟩,
       ⟨(some 51), .conv .i32 (.t 50), none⟩,
       ⟨(some 52), .fieldAddr (.t 4) 4 ⟨1, false⟩, none⟩,
       ⟨none, .store (some 4) ⟨1, false⟩ (.t 52) (.mv 46), none⟩,
       ⟨(some 53), .fieldAddr (.t 4) 6 ⟨1, false⟩, none⟩,
       ⟨none, .store (some 4) ⟨1, false⟩ (.t 53) (.mv 48), none⟩,
       ⟨(some 54), .fieldAddr (.t 4) 7 ⟨1, false⟩, none⟩,
       ⟨none, .store (some 4) ⟨1, false⟩ (.t 54) (.mv 51), none⟩])
     ((.seq (.ops [⟨(some 56), .fieldAddr (.t 4) 0 ⟨1, false⟩, none⟩,
       ⟨(some 57), .load false (some 4) ⟨1, false⟩ (.t 56), none⟩,
       ⟨(some 58), .bin .eql .num (.t 57) (.c (.i .i64 2)), none⟩,
       ⟨(some 55), .mov (.t 58), none⟩])
     ((.cond (.t 55) (.ops [⟨(some 59), .mov (.t 0), none⟩,
        ⟨(some 60), .call (.f 12) [(.t 59), (.c (.i .u64 20))], none⟩,
        ⟨(some 61), .mov (.t 0), none⟩,
        ⟨(some 62), .call (.f 13) [(.t 61), (.c (.i .u64 20))], none⟩,
        ⟨(some 63), .fieldAddr (.t 4) 4 ⟨1, false⟩, none⟩,
        ⟨none, .store (some 4) ⟨1, false⟩ (.t 63) (.mv 60), none⟩,
        ⟨(some 64), .fieldAddr (.t 4) 7 ⟨1, false⟩, none⟩,
        ⟨none, .store (some 4) ⟨1, false⟩ (.t 64) (.mv 62), none⟩])
      ((.seq (.ops [⟨(some 66), .fieldAddr (.t 4) 1 ⟨1, false⟩, none⟩,
        ⟨(some 67), .load false (some 4) ⟨1, false⟩ (.t 66), none⟩,
        ⟨(some 65), .mov (.t 67), none⟩])
      ((.cond (.t 65) (.ops [⟨(some 68), .mov (.t 0), none⟩,
         ⟨(some 69), .call (.f 13) [(.t 68), (.c (.i .u64 24))], none⟩,
         ⟨(some 70), .fieldAddr (.t 4) 7 ⟨1, false⟩, none⟩,
         ⟨none, .store (some 4) ⟨1, false⟩ (.t 70) (.mv 69), none⟩])
       (.ops [⟨(some 21), .mov (.t 0), none⟩,
         ⟨(some 22), .call (.f 12) [(.t 21), (.c (.i .u64 4))], none⟩,
         ⟨(some 23), .conv .i32 (.t 22), none⟩,
         ⟨(some 24), .mov (.t 0), none⟩,
         ⟨(some 25), .call (.f 12) [(.t 24), (.c (.i .u64 0))], none⟩,
         ⟨(some 26), .fieldAddr (.t 4) 7 ⟨1, false⟩, none⟩,
         ⟨none, .store (some 4) ⟨1, false⟩ (.t 26) (.mv 23), none⟩,
         ⟨(some 27), .fieldAddr (.t 4) 5 ⟨1, false⟩, none⟩,
         ⟨none, .store (some 4) ⟨1, false⟩ (.t 27) (.mv 25), none⟩])))))))))))))))))))
  ((.seq ((.seq (.ops [⟨(some 72), .load false (some 4) ⟨8, true⟩ (.t 4), none⟩,
    ⟨(some 73), .call (.f 8) [(.t 72)], none⟩,
    ⟨(some 71), .mov (.t 73), none⟩,
    ⟨(some 74), .extract (.t 71) 0, none⟩,
    ⟨(some 75), .extract (.t 71) 1, none⟩,
    ⟨(some 5), .mov (.t 74), none⟩,
    ⟨(some 6), .mov (.t 75), none⟩])
  ((.seq (.ops [⟨(some 76), .mov (.t 6), none⟩,
    ⟨(some 77), .bin .neq .num (.t 76) (.c (.i .i64 0)), none⟩,
    ⟨(some 78), .mov (.t 77), none⟩,
    ⟨(some 79), .mov (.t 5), some (78, false)⟩,
    ⟨(some 80), .mov (.t 0), some (78, false)⟩,
    ⟨(some 81), .bin .neq .num (.t 79) (.t 80), some (78, false)⟩,
    ⟨(some 82), .pick (.t 78) (.c (.b true)) (.t 81), none⟩])
  ((.cond (.t 82) ((.seq (.ops [⟨(some 83), .build [(.i .i64 0), (.b false), (.b false), (.i .i64 0), (.i .i64 0), (.i .i64 0), (.i .i64 0), (.i .i32 0)] [], none⟩,
     ⟨none, .store (some 2) ⟨8, true⟩ (.t 2) (.t 83), none⟩,
     ⟨(some 3), .mov (.c (.b false)), none⟩])
   (.ret)))
   (.skip)))))))
  ((.seq (.ops [⟨(some 84), .load false (some 4) ⟨8, true⟩ (.t 4), none⟩,
    ⟨none, .store (some 2) ⟨8, true⟩ (.t 2) (.t 84), none⟩,
    ⟨(some 3), .mov (.c (.b true)), none⟩])
  (.ret))))))))))⟩
def f_waferref5_Decode : Fn := ⟨1, [(.cell 2 ⟨8, true⟩), (.t 3)], false,
  (.seq (.ops [⟨(some 2), .alloc true [(.i .i64 0), (.b false), (.b false), (.i .i64 0), (.i .i64 0), (.i .i64 0), (.i .i64 0), (.i .i32 0)], none⟩,
    ⟨(some 3), .mov (.c (.b false)), none⟩])
  ((.seq (.ops [⟨(some 5), .mov (.t 0), none⟩,
    ⟨(some 6), .bin .shr .num (.t 5) (.c (.i .u64 30)), none⟩,
    ⟨(some 7), .conv .i64 (.t 6), none⟩,
    ⟨(some 8), .mov (.t 0), none⟩,
    ⟨(some 9), .bin .shr .num (.t 8) (.c (.i .u64 29)), none⟩,
    ⟨(some 10), .bin .and .num (.t 9) (.c (.i .u32 1)), none⟩,
    ⟨(some 11), .bin .eql .num (.t 10) (.c (.i .u32 1)), none⟩,
    ⟨(some 12), .mov (.t 0), none⟩,
    ⟨(some 13), .bin .shr .num (.t 12) (.c (.i .u64 28)), none⟩,
    ⟨(some 14), .bin .and .num (.t 13) (.c (.i .u32 1)), none⟩,
    ⟨(some 15), .bin .eql .num (.t 14) (.c (.i .u32 1)), none⟩,
    ⟨(some 16), .mov (.t 0), none⟩,
    ⟨(some 17), .bin .shr .num (.t 16) (.c (.i .u64 24)), none⟩,
    ⟨(some 18), .bin .and .num (.t 17) (.c (.i .u32 15)), none⟩,
    ⟨(some 19), .conv .i64 (.t 18), none⟩,
    ⟨(some 20), .build [(.i .i64 0), (.b false), (.b false), (.i .i64 0), (.i .i64 0), (.i .i64 0), (.i .i64 0), (.i .i32 0)] [(0, 1, (.t 7)), (1, 1, (.t 11)), (2, 1, (.t 15)), (3, 1, (.t 19))], none⟩,
    ⟨(some 4), .alloc true [(.i .i64 0), (.b false), (.b false), (.i .i64 0), (.i .i64 0), (.i .i64 0), (.i .i64 0), (.i .i32 0)], none⟩,
    ⟨none, .store (some 4) ⟨8, true⟩ (.t 4) (.t 20), none⟩])
  ((.seq ((.seq (.ops [⟨(some 21), .fieldAddr (.t 4) 0 ⟨1, false⟩, none⟩,
    ⟨(some 22), .load false (some 4) ⟨1, false⟩ (.t 21), none⟩,
    ⟨(some 23), .bin .lss .num (.t 22) (.c (.i .i64 3)), none⟩])
  ((.cond (.t 23) (.ops [⟨(some 24), .mov (.t 0), none⟩,
     ⟨(some 25), .bin .shr .num (.t 24) (.c (.i .u64 20)), none⟩,
     ⟨(some 26), .bin .and .num (.t 25) (.c (.i .u32 15)), none⟩,
     ⟨(some 27), .conv .i64 (.t 26), none⟩,
     ⟨(some 28), .fieldAddr (.t 4) 4 ⟨1, false⟩, none⟩,
     ⟨none, .store (some 4) ⟨1, false⟩ (.t 28) (.mv 27), none⟩])
   (.skip)))))
  ((.seq ((.seq (.ops [⟨(some 29), .fieldAddr (.t 4) 0 ⟨1, false⟩, none⟩,
    ⟨(some 30), .load false (some 4) ⟨1, false⟩ (.t 29), none⟩,
    ⟨(some 31), .bin .lss .num (.t 30) (.c (.i .i64 2)), none⟩])
  ((.cond (.t 31) (.ops [⟨(some 32), .mov (.t 0), none⟩,
     ⟨(some 33), .bin .shr .num (.t 32) (.c (.i .u64 16)), none⟩,
     ⟨(some 34), .bin .and .num (.t 33) (.c (.i .u32 15)), none⟩,
     ⟨(some 35), .conv .i64 (.t 34), none⟩,
     ⟨(some 36), .fieldAddr (.t 4) 6 ⟨1, false⟩, none⟩,
     ⟨none, .store (some 4) ⟨1, false⟩ (.t 36) (.mv 35), none⟩])
   (.skip)))))
  ((.seq ((.block 0 [2, 4] ((.seq (.ops [⟨(some 42), .fieldAddr (.t 4) 0 ⟨1, false⟩, none⟩,
     ⟨(some 43), .load false (some 4) ⟨1, false⟩ (.t 42), none⟩,
     ⟨(some 44), .bin .eql .num (.t 43) (.c (.i .i64 0)), none⟩,
     ⟨(some 41), .mov (.t 44), none⟩])
   ((.cond (.t 41) ((.seq ((.seq (.ops [⟨(some 45), .mov (.t 0), none⟩,
      ⟨(some 46), .bin .and .num (.t 45) (.c (.i .u32 65520)), none⟩,
      ⟨(some 47), .bin .neq .num (.t 46) (.c (.i .u32 0)), none⟩])
    ((.cond (.t 47) ((.seq (.ops [⟨(some 48), .build [(.i .i64 0), (.b false), (.b false), (.i .i64 0), (.i .i64 0), (.i .i64 0), (.i .i64 0), (.i .i32 0)] [], none⟩,
       ⟨none, .store (some 2) ⟨8, true⟩ (.t 2) (.t 48), none⟩,
       ⟨(some 3), .mov (.c (.b false)), none⟩])
     (.ret)))
     (.skip)))))
    (.ops [⟨(some 49), .mov (.t 0), none⟩,
      ⟨(some 50), .bin .and .num (.t 49) (.c (.i .u32 15)), none⟩,
      ⟨(some 51), .conv .i64 (.t 50), none⟩,
      ⟨(some 52), .fieldAddr (.t 4) 5 ⟨1, false⟩, none⟩,
      ⟨none, .store (some 4) ⟨1, false⟩ (.t 52) (.mv 51), none⟩])))
    ((.seq (.ops [⟨(some 54), .fieldAddr (.t 4) 0 ⟨1, false⟩, none⟩,
      ⟨(some 55), .load false (some 4) ⟨1, false⟩ (.t 54), none⟩,
      ⟨(some 56), .bin .eql .num (.t 55) (.c (.i .i64 1)), none⟩,
      ⟨(some 53), .mov (.t 56), none⟩])
    ((.cond (.t 53) (.ops [⟨(some 57), .mov (.t 0), none⟩,
       ⟨(some 58), .bin .and .num (.t 57) (.c (.i .u32 65535)), none⟩,
       ⟨(some 59), .conv .i32 (.t 58), none⟩,
       ⟨(some 60), .fieldAddr (.t 4) 7 ⟨1, false⟩, none⟩,
       ⟨none, .store (some 4) ⟨1, false⟩ (.t 60) (.mv 59), none⟩])
     ((.seq (.ops [⟨(some 62), .fieldAddr (.t 4) 0 ⟨1, false⟩, none⟩,
       ⟨(some 63), .load false (some 4) ⟨1, false⟩ (.t 62), none⟩,
       ⟨(some 64), .bin .eql .num (.t 63) (.c (.i .i64 2)), none⟩,
       ⟨(some 61), .mov (.t 64), none⟩])
     ((.cond (.t 61) (.ops [⟨(some 65), .mov (.t 0), none⟩,
        ⟨(some 66), .bin .and .num (.t 65) (.c (.i .u32 1048575)), none⟩,
        ⟨(some 67), .call (.f 14) [(.t 66), (.c (.i .i64 20))], none⟩,
        ⟨(some 68), .fieldAddr (.t 4) 7 ⟨1, false⟩, none⟩,
        ⟨none, .store (some 4) ⟨1, false⟩ (.t 68) (.mv 67), none⟩])
      ((.seq (.ops [⟨(some 70), .fieldAddr (.t 4) 1 ⟨1, false⟩, none⟩,
        ⟨(some 71), .load false (some 4) ⟨1, false⟩ (.t 70), none⟩,
        ⟨(some 72), .un .not (.t 71), none⟩,
        ⟨(some 69), .mov (.t 72), none⟩])
      ((.cond (.t 69) ((.seq ((.seq (.ops [⟨(some 73), .mov (.t 0), none⟩,
         ⟨(some 74), .bin .and .num (.t 73) (.c (.i .u32 16776960)), none⟩,
         ⟨(some 75), .bin .neq .num (.t 74) (.c (.i .u32 0)), none⟩])
       ((.cond (.t 75) ((.seq (.ops [⟨(some 76), .build [(.i .i64 0), (.b false), (.b false), (.i .i64 0), (.i .i64 0), (.i .i64 0), (.i .i64 0), (.i .i32 0)] [], none⟩,
          ⟨none, .store (some 2) ⟨8, true⟩ (.t 2) (.t 76), none⟩,
          ⟨(some 3), .mov (.c (.b false)), none⟩])
        (.ret)))
        (.skip)))))
       (.ops [⟨(some 77), .mov (.t 0), none⟩,
         ⟨(some 78), .bin .shr .num (.t 77) (.c (.i .u64 4)), none⟩,
         ⟨(some 79), .bin .and .num (.t 78) (.c (.i .u32 15)), none⟩,
         ⟨(some 80), .conv .i32 (.t 79), none⟩,
         ⟨(some 81), .mov (.t 0), none⟩,
         ⟨(some 82), .bin .and .num (.t 81) (.c (.i .u32 15)), none⟩,
         ⟨(some 83), .conv .i64 (.t 82), none⟩,
         ⟨(some 84), .fieldAddr (.t 4) 7 ⟨1, false⟩, none⟩,
         ⟨none, .store (some 4) ⟨1, false⟩ (.t 84) (.mv 80), none⟩,
         ⟨(some 85), .fieldAddr (.t 4) 5 ⟨1, false⟩, none⟩,
         ⟨none, .store (some 4) ⟨1, false⟩ (.t 85) (.mv 83), none⟩])))
       (.ops [⟨(some 37), .mov (.t 0), none⟩,
         ⟨(some 38), .bin .and .num (.t 37) (.c (.i .u32 16777215)), none⟩,
         ⟨(some 39), .call (.f 14) [(.t 38), (.c (.i .i64 24))], none⟩,
         ⟨(some 40), .fieldAddr (.t 4) 7 ⟨1, false⟩, none⟩,
         ⟨none, .store (some 4) ⟨1, false⟩ (.t 40) (.mv 39), none⟩])))))))))))))))))))
  ((.seq (.ops [⟨(some 86), .load false (some 4) ⟨8, true⟩ (.t 4), none⟩,
    ⟨none, .store (some 2) ⟨8, true⟩ (.t 2) (.t 86), none⟩,
    ⟨(some 3), .mov (.c (.b true)), none⟩])
  (.ret))))))))))))⟩
def f_risc_Encode : Fn := ⟨1, [(.t 2), (.t 3)], false,
  (.seq (.ops [⟨(some 1), .box true (.t 0), none⟩,
    ⟨(some 2), .mov (.c (.i .u32 0)), none⟩,
    ⟨(some 3), .mov (.c (.i .i64 0)), none⟩])
  ((.seq ((.seq (.ops [⟨(some 5), .load false (some 1) ⟨8, true⟩ (.t 1), none⟩,
    ⟨(some 6), .call (.f 15) [(.t 5)], none⟩,
    ⟨(some 7), .un .not (.t 6), none⟩])
  ((.cond (.t 7) ((.seq (.ops [⟨(some 2), .mov (.c (.i .u32 0)), none⟩,
     ⟨(some 3), .mov (.c (.i .i64 23)), none⟩])
   (.ret)))
   (.skip)))))
  ((.seq (.opsD [(⟨(some 8), .fieldAddr (.t 1) 0 ⟨1, false⟩, none⟩, false, []),
    (⟨(some 9), .load false (some 1) ⟨1, false⟩ (.t 8), none⟩, false, []),
    (⟨(some 10), .conv .u32 (.t 9), none⟩, false, []),
    (⟨(some 11), .bin .shl .num (.t 10) (.c (.i .u64 30)), none⟩, false, []),
    (⟨(some 12), .fieldAddr (.t 1) 1 ⟨1, false⟩, none⟩, false, []),
    (⟨(some 13), .load false (some 1) ⟨1, false⟩ (.t 12), none⟩, false, []),
    (⟨(some 14), .call (.f 16) [(.t 13)], none⟩, false, []),
    (⟨(some 15), .bin .shl .num (.t 14) (.c (.i .u64 29)), none⟩, false, []),
    (⟨(some 16), .bin .or .num (.t 11) (.t 15), none⟩, false, []),
    (⟨(some 17), .fieldAddr (.t 1) 2 ⟨1, false⟩, none⟩, false, []),
    (⟨(some 18), .load false (some 1) ⟨1, false⟩ (.t 17), none⟩, false, []),
    (⟨(some 19), .call (.f 16) [(.t 18)], none⟩, false, []),
    (⟨(some 20), .bin .shl .num (.t 19) (.c (.i .u64 28)), none⟩, false, []),
    (⟨(some 21), .bin .or .num (.t 16) (.t 20), none⟩, false, []),
    (⟨(some 22), .fieldAddr (.t 1) 3 ⟨1, false⟩, none⟩, false, []),
    (⟨(some 23), .load false (some 1) ⟨1, false⟩ (.t 22), none⟩, false, []),
    (⟨(some 24), .conv .u32 (.t 23), none⟩, false, []),
    (⟨(some 25), .bin .shl .num (.t 24) (.c (.i .u64 24)), none⟩, false, []),
    (⟨(some 26), .bin .or .num (.t 21) (.t 25), none⟩, false, []),
    (⟨(some 4), .mov (.t 26), none⟩, false, [])])
  ((.seq ((.block 0 [1, 4] ((.seq (.ops [⟨(some 28), .fieldAddr (.t 1) 0 ⟨1, false⟩, none⟩,
     ⟨(some 29), .load false (some 1) ⟨1, false⟩ (.t 28), none⟩,
     ⟨(some 30), .bin .eql .num (.t 29) (.c (.i .i64 0)), none⟩,
     ⟨(some 27), .mov (.t 30), none⟩])
   ((.cond (.t 27) ((.seq (.ops [⟨(some 31), .mov (.t 4), none⟩,
      ⟨(some 32), .fieldAddr (.t 1) 4 ⟨1, false⟩, none⟩,
      ⟨(some 33), .load false (some 1) ⟨1, false⟩ (.t 32), none⟩,
      ⟨(some 34), .conv .u32 (.t 33), none⟩,
      ⟨(some 35), .bin .shl .num (.t 34) (.c (.i .u64 20)), none⟩,
      ⟨(some 36), .bin .or .num (.t 31) (.t 35), none⟩,
      ⟨(some 37), .fieldAddr (.t 1) 6 ⟨1, false⟩, none⟩,
      ⟨(some 38), .load false (some 1) ⟨1, false⟩ (.t 37), none⟩,
      ⟨(some 39), .conv .u32 (.t 38), none⟩,
      ⟨(some 40), .bin .shl .num (.t 39) (.c (.i .u64 16)), none⟩,
      ⟨(some 41), .bin .or .num (.t 36) (.t 40), none⟩,
      ⟨(some 42), .fieldAddr (.t 1) 5 ⟨1, false⟩, none⟩,
      ⟨(some 43), .load false (some 1) ⟨1, false⟩ (.t 42), none⟩,
      ⟨(some 44), .conv .u32 (.t 43), none⟩,
      ⟨(some 45), .bin .or .num (.t 41) (.t 44), none⟩,
      ⟨(some 2), .mov (.t 45), none⟩,
      ⟨(some 3), .mov (.c (.i .i64 0)), none⟩])
    (.ret)))
    ((.seq (.ops [⟨(some 47), .fieldAddr (.t 1) 0 ⟨1, false⟩, none⟩,
      ⟨(some 48), .load false (some 1) ⟨1, false⟩ (.t 47), none⟩,
      ⟨(some 49), .bin .eql .num (.t 48) (.c (.i .i64 1)), none⟩,
      ⟨(some 46), .mov (.t 49), none⟩])
    ((.cond (.t 46) ((.seq (.ops [⟨(some 50), .mov (.t 4), none⟩,
       ⟨(some 51), .fieldAddr (.t 1) 4 ⟨1, false⟩, none⟩,
       ⟨(some 52), .load false (some 1) ⟨1, false⟩ (.t 51), none⟩,
       ⟨(some 53), .conv .u32 (.t 52), none⟩,
       ⟨(some 54), .bin .shl .num (.t 53) (.c (.i .u64 20)), none⟩,
       ⟨(some 55), .bin .or .num (.t 50) (.t 54), none⟩,
       ⟨(some 56), .fieldAddr (.t 1) 6 ⟨1, false⟩, none⟩,
       ⟨(some 57), .load false (some 1) ⟨1, false⟩ (.t 56), none⟩,
       ⟨(some 58), .conv .u32 (.t 57), none⟩,
       ⟨(some 59), .bin .shl .num (.t 58) (.c (.i .u64 16)), none⟩,
       ⟨(some 60), .bin .or .num (.t 55) (.t 59), none⟩,
       ⟨(some 61), .fieldAddr (.t 1) 7 ⟨1, false⟩, none⟩,
       ⟨(some 62), .load false (some 1) ⟨1, false⟩ (.t 61), none⟩,
       ⟨(some 63), .conv .u32 (.t 62), none⟩,
       ⟨(some 64), .bin .or .num (.t 60) (.t 63), none⟩,
       ⟨(some 2), .mov (.t 64), none⟩,
       ⟨(some 3), .mov (.c (.i .i64 0)), none⟩])
     (.ret)))
     ((.seq (.ops [⟨(some 66), .fieldAddr (.t 1) 0 ⟨1, false⟩, none⟩,
       ⟨(some 67), .load false (some 1) ⟨1, false⟩ (.t 66), none⟩,
       ⟨(some 68), .bin .eql .num (.t 67) (.c (.i .i64 2)), none⟩,
       ⟨(some 65), .mov (.t 68), none⟩])
     ((.cond (.t 65) ((.seq (.ops [⟨(some 69), .mov (.t 4), none⟩,
        ⟨(some 70), .fieldAddr (.t 1) 4 ⟨1, false⟩, none⟩,
        ⟨(some 71), .load false (some 1) ⟨1, false⟩ (.t 70), none⟩,
        ⟨(some 72), .conv .u32 (.t 71), none⟩,
        ⟨(some 73), .bin .shl .num (.t 72) (.c (.i .u64 20)), none⟩,
        ⟨(some 74), .bin .or .num (.t 69) (.t 73), none⟩,
        ⟨(some 75), .fieldAddr (.t 1) 7 ⟨1, false⟩, none⟩,
        ⟨(some 76), .load false (some 1) ⟨1, false⟩ (.t 75), none⟩,
        ⟨(some 77), .conv .u32 (.t 76), none⟩,
        ⟨(some 78), .bin .and .num (.t 77) (.c (.i .u32 1048575)), none⟩,
        ⟨(some 79), .bin .or .num (.t 74) (.t 78), none⟩,
        ⟨(some 2), .mov (.t 79), none⟩,
        ⟨(some 3), .mov (.c (.i .i64 0)), none⟩])
      (.ret)))
      ((.seq (.ops [⟨(some 81), .fieldAddr (.t 1) 1 ⟨1, false⟩, none⟩,
        ⟨(some 82), .load false (some 1) ⟨1, false⟩ (.t 81), none⟩,
        ⟨(some 80), .mov (.t 82), none⟩])
      ((.cond (.t 80) ((.seq (.ops [⟨(some 83), .mov (.t 4), none⟩,
         ⟨(some 84), .fieldAddr (.t 1) 7 ⟨1, false⟩, none⟩,
         ⟨(some 85), .load false (some 1) ⟨1, false⟩ (.t 84), none⟩,
         ⟨(some 86), .conv .u32 (.t 85), none⟩,
         ⟨(some 87), .bin .and .num (.t 86) (.c (.i .u32 16777215)), none⟩,
         ⟨(some 88), .bin .or .num (.t 83) (.t 87), none⟩,
         ⟨(some 2), .mov (.t 88), none⟩,
         ⟨(some 3), .mov (.c (.i .i64 0)), none⟩])
       (.ret)))
       (.skip)))))))))))))))))))
  ((.seq (.ops [⟨(some 89), .mov (.t 4), none⟩,
    ⟨(some 90), .fieldAddr (.t 1) 7 ⟨1, false⟩, none⟩,
    ⟨(some 91), .load false (some 1) ⟨1, false⟩ (.t 90), none⟩,
    ⟨(some 92), .conv .u32 (.t 91), none⟩,
    ⟨(some 93), .bin .shl .num (.t 92) (.c (.i .u64 4)), none⟩,
    ⟨(some 94), .bin .or .num (.t 89) (.t 93), none⟩,
    ⟨(some 95), .fieldAddr (.t 1) 5 ⟨1, false⟩, none⟩,
    ⟨(some 96), .load false (some 1) ⟨1, false⟩ (.t 95), none⟩,
    ⟨(some 97), .conv .u32 (.t 96), none⟩,
    ⟨(some 98), .bin .or .num (.t 94) (.t 97), none⟩,
    ⟨(some 2), .mov (.t 98), none⟩,
    ⟨(some 3), .mov (.c (.i .i64 0)), none⟩])
  (.ret))))))))))⟩
def f_risc_Text : Fn := ⟨1, [(.t 2)], true,
  (.seq (.ops [⟨(some 1), .box true (.t 0), none⟩,
    ⟨(some 2), .mov (.c (.s [])), none⟩])
  ((.seq ((.seq (.ops [⟨(some 6), .load false (some 1) ⟨8, true⟩ (.t 1), none⟩,
    ⟨(some 7), .call (.f 15) [(.t 6)], none⟩,
    ⟨(some 8), .un .not (.t 7), none⟩])
  ((.cond (.t 8) ((.seq (.ops [⟨(some 2), .mov (.c (.s [63])), none⟩])
   (.ret)))
   (.skip)))))
  ((.seq (.ops [⟨(some 9), .fieldAddr (.t 1) 7 ⟨1, false⟩, none⟩,
    ⟨(some 10), .load false (some 1) ⟨1, false⟩ (.t 9), none⟩,
    ⟨(some 11), .conv .i64 (.t 10), none⟩,
    ⟨(some 12), .call (.f 17) [(.t 11)], none⟩,
    ⟨(some 3), .mov (.mv 12), none⟩])
  ((.seq (.opsD [(⟨(some 13), .fieldAddr (.t 1) 3 ⟨1, false⟩, none⟩, false, []),
    (⟨(some 14), .load false (some 1) ⟨1, false⟩ (.t 13), none⟩, false, []),
    (⟨(some 15), .call (.f 18) [(.t 14)], none⟩, false, []),
    (⟨(some 16), .fieldAddr (.t 1) 4 ⟨1, false⟩, none⟩, false, []),
    (⟨(some 17), .load false (some 1) ⟨1, false⟩ (.t 16), none⟩, false, []),
    (⟨(some 18), .call (.f 18) [(.t 17)], none⟩, false, []),
    (⟨(some 19), .mov (.t 3), none⟩, false, []),
    (⟨(some 20), .buildRow (.s []) 3 [(0, (.t 15)), (1, (.t 18)), (2, (.t 19))], none⟩, true, []),
    (⟨(some 4), .mov (.c (.s [])), none⟩, false, []),
    (⟨(some 5), .mov (.t 20), none⟩, false, [])])
  ((.seq ((.block 0 [4, 5] ((.seq (.ops [⟨(some 40), .fieldAddr (.t 1) 0 ⟨1, false⟩, none⟩,
     ⟨(some 41), .load false (some 1) ⟨1, false⟩ (.t 40), none⟩,
     ⟨(some 42), .bin .lss .num (.t 41) (.c (.i .i64 2)), none⟩,
     ⟨(some 39), .mov (.t 42), none⟩])
   ((.cond (.t 39) ((.seq (.opsD [(⟨(some 43), .call (.f 19) [], none⟩, false, []),
      (⟨(some 44), .fieldAddr (.t 1) 6 ⟨1, false⟩, none⟩, false, []),
      (⟨(some 45), .load false (some 1) ⟨1, false⟩ (.t 44), none⟩, false, []),
      (⟨(some 46), .indexAddr (.t 43) (.t 45) 1 none, none⟩, false, []),
      (⟨(some 47), .load false none ⟨1, false⟩ (.t 46), none⟩, false, []),
      (⟨(some 48), .fieldAddr (.t 1) 1 ⟨1, false⟩, none⟩, false, []),
      (⟨(some 49), .load false (some 1) ⟨1, false⟩ (.t 48), none⟩, false, []),
      (⟨(some 50), .call (.f 20) [(.t 49), (.c (.s [39])), (.c (.s []))], none⟩, false, []),
      (⟨(some 51), .bin .add .num (.t 47) (.t 50), none⟩, false, []),
      (⟨(some 52), .fieldAddr (.t 1) 2 ⟨1, false⟩, none⟩, false, []),
      (⟨(some 53), .load false (some 1) ⟨1, false⟩ (.t 52), none⟩, false, []),
      (⟨(some 54), .call (.f 20) [(.t 53), (.c (.s [35])), (.c (.s []))], none⟩, false, []),
      (⟨(some 55), .bin .add .num (.t 51) (.t 54), none⟩, false, []),
      (⟨(some 4), .mov (.t 55), none⟩, false, [])])
    ((.seq (.ops [⟨(some 56), .fieldAddr (.t 1) 0 ⟨1, false⟩, none⟩,
      ⟨(some 57), .load false (some 1) ⟨1, false⟩ (.t 56), none⟩,
      ⟨(some 58), .bin .eql .num (.t 57) (.c (.i .i64 0)), none⟩])
    ((.cond (.t 58) (.ops [⟨(some 59), .mov (.t 5), none⟩,
       ⟨(some 60), .fieldAddr (.t 1) 5 ⟨1, false⟩, none⟩,
       ⟨(some 61), .load false (some 1) ⟨1, false⟩ (.t 60), none⟩,
       ⟨(some 62), .call (.f 18) [(.t 61)], none⟩,
       ⟨(some 63), .indexAddr (.t 59) (.c (.i .i64 2)) 1 none, none⟩,
       ⟨none, .store none ⟨1, false⟩ (.t 63) (.mv 62), none⟩])
     (.skip)))))))
    ((.seq (.ops [⟨(some 65), .fieldAddr (.t 1) 0 ⟨1, false⟩, none⟩,
      ⟨(some 66), .load false (some 1) ⟨1, false⟩ (.t 65), none⟩,
      ⟨(some 67), .bin .eql .num (.t 66) (.c (.i .i64 2)), none⟩,
      ⟨(some 64), .mov (.t 67), none⟩])
    ((.cond (.t 64) (.opsD [(⟨(some 68), .fieldAddr (.t 1) 1 ⟨1, false⟩, none⟩, false, []),
       (⟨(some 69), .load false (some 1) ⟨1, false⟩ (.t 68), none⟩, false, []),
       (⟨(some 70), .call (.f 20) [(.t 69), (.c (.s [83, 84, 82])), (.c (.s [76, 68, 82]))], none⟩, false, []),
       (⟨(some 71), .fieldAddr (.t 1) 2 ⟨1, false⟩, none⟩, false, []),
       (⟨(some 72), .load false (some 1) ⟨1, false⟩ (.t 71), none⟩, false, []),
       (⟨(some 73), .call (.f 20) [(.t 72), (.c (.s [66])), (.c (.s []))], none⟩, false, []),
       (⟨(some 74), .bin .add .num (.t 70) (.t 73), none⟩, false, []),
       (⟨(some 4), .mov (.t 74), none⟩, false, [])])
     ((.seq (.opsD [(⟨(some 21), .fieldAddr (.t 1) 2 ⟨1, false⟩, none⟩, false, []),
       (⟨(some 22), .load false (some 1) ⟨1, false⟩ (.t 21), none⟩, false, []),
       (⟨(some 23), .call (.f 20) [(.t 22), (.c (.s [66, 76])), (.c (.s [66]))], none⟩, false, []),
       (⟨(some 24), .call (.f 21) [], none⟩, false, []),
       (⟨(some 25), .fieldAddr (.t 1) 3 ⟨1, false⟩, none⟩, false, []),
       (⟨(some 26), .load false (some 1) ⟨1, false⟩ (.t 25), none⟩, false, []),
       (⟨(some 27), .indexAddr (.t 24) (.t 26) 1 none, none⟩, false, []),
       (⟨(some 28), .load false none ⟨1, false⟩ (.t 27), none⟩, false, []),
       (⟨(some 29), .bin .add .num (.t 23) (.t 28), none⟩, false, []),
       (⟨(some 4), .mov (.t 29), none⟩, false, [])])
     ((.seq (.ops [⟨(some 30), .fieldAddr (.t 1) 5 ⟨1, false⟩, none⟩,
       ⟨(some 31), .load false (some 1) ⟨1, false⟩ (.t 30), none⟩,
       ⟨(some 32), .call (.f 18) [(.t 31)], none⟩,
       ⟨(some 33), .mov (.t 3), none⟩,
       ⟨(some 34), .buildRow (.s []) 2 [(0, (.t 32)), (1, (.t 33))], none⟩,
       ⟨(some 5), .mov (.t 34), none⟩])
     ((.seq (.ops [⟨(some 35), .fieldAddr (.t 1) 1 ⟨1, false⟩, none⟩,
       ⟨(some 36), .load false (some 1) ⟨1, false⟩ (.t 35), none⟩])
     ((.cond (.t 36) (.ops [⟨(some 37), .mov (.t 5), none⟩,
        ⟨(some 38), .sliceL 1 (.t 37) (some (.c (.i .i64 1))) none, none⟩,
        ⟨(some 5), .mov (.t 38), none⟩])
      (.skip)))))))))))))))))))
  ((.seq (.ops [⟨(some 75), .mov (.t 4), none⟩,
    ⟨(some 76), .bin .add .num (.t 75) (.c (.s [32])), none⟩,
    ⟨(some 77), .mov (.mv 5), none⟩,
    ⟨(some 78), .call (.f 22) [(.mv 77), (.c (.s [44, 32]))], none⟩,
    ⟨(some 79), .bin .add .num (.t 76) (.t 78), none⟩,
    ⟨(some 2), .mov (.t 79), none⟩])
  (.ret))))))))))))⟩
def f_waferref5_Text : Fn := ⟨1, [(.t 2)], true,
  (.seq (.ops [⟨(some 1), .box true (.t 0), none⟩,
    ⟨(some 2), .mov (.c (.s [])), none⟩])
  ((.seq ((.seq (.ops [⟨(some 10), .load false (some 1) ⟨8, true⟩ (.t 1), none⟩,
    ⟨(some 11), .call (.f 11) [(.t 10)], none⟩,
    ⟨(some 9), .mov (.t 11), none⟩,
    ⟨(some 12), .extract (.t 9) 0, none⟩,
    ⟨(some 13), .extract (.t 9) 1, none⟩,
    ⟨(some 3), .mov (.t 12), none⟩,
    ⟨(some 4), .mov (.t 13), none⟩])
  ((.seq (.ops [⟨(some 14), .mov (.t 4), none⟩,
    ⟨(some 15), .un .not (.t 14), none⟩])
  ((.cond (.t 15) ((.seq (.ops [⟨(some 2), .mov (.c (.s [63])), none⟩])
   (.ret)))
   (.skip)))))))
  ((.seq (.ops [⟨(some 16), .fieldAddr (.t 1) 7 ⟨1, false⟩, none⟩,
    ⟨(some 17), .load false (some 1) ⟨1, false⟩ (.t 16), none⟩,
    ⟨(some 18), .conv .i64 (.t 17), none⟩,
    ⟨(some 19), .call (.f 23) [(.t 18)], none⟩,
    ⟨(some 5), .mov (.mv 19), none⟩])
  ((.seq ((.seq (.ops [⟨(some 20), .fieldAddr (.t 1) 0 ⟨1, false⟩, none⟩,
    ⟨(some 21), .load false (some 1) ⟨1, false⟩ (.t 20), none⟩])
  ((.block 0 [1, 5] ((.seq ((.seq (.ops [⟨(some 23), .bin .eql .num (.t 21) (.c (.i .i64 0)), none⟩,
     ⟨(some 22), .mov (.t 23), none⟩])
   ((.cond (.t 22) (.skip)
    (.ops [⟨(some 24), .bin .eql .num (.t 21) (.c (.i .i64 1)), none⟩,
      ⟨(some 22), .mov (.t 24), none⟩])))))
   ((.cond (.t 22) ((.seq (.ops [⟨(some 25), .buildSlice (.s []) 16 [(0, (.c (.s [77, 79, 86]))), (1, (.c (.s [76, 83, 76]))), (2, (.c (.s [65, 83, 82]))), (3, (.c (.s [82, 79, 82]))), (4, (.c (.s [65, 78, 68]))), (5, (.c (.s [65, 78, 78]))), (6, (.c (.s [73, 79, 82]))), (7, (.c (.s [88, 79, 82]))), (8, (.c (.s [65, 68, 68]))), (9, (.c (.s [83, 85, 66]))), (10, (.c (.s [77, 85, 76]))), (11, (.c (.s [68, 73, 86]))), (12, (.c (.s [70, 65, 68]))), (13, (.c (.s [70, 83, 66]))), (14, (.c (.s [70, 77, 76]))), (15, (.c (.s [70, 68, 86])))], none⟩,
      ⟨(some 26), .fieldAddr (.t 1) 6 ⟨1, false⟩, none⟩,
      ⟨(some 27), .load false (some 1) ⟨1, false⟩ (.t 26), none⟩,
      ⟨(some 28), .indexAddr (.t 25) (.t 27) 1 none, none⟩,
      ⟨(some 29), .load false none ⟨1, false⟩ (.t 28), none⟩,
      ⟨(some 6), .mov (.t 29), none⟩])
    ((.seq ((.seq (.ops [⟨(some 30), .fieldAddr (.t 1) 1 ⟨1, false⟩, none⟩,
      ⟨(some 31), .load false (some 1) ⟨1, false⟩ (.t 30), none⟩])
    ((.cond (.t 31) (.ops [⟨(some 32), .mov (.t 6), none⟩,
       ⟨(some 33), .bin .add .num (.t 32) (.c (.s [39])), none⟩,
       ⟨(some 6), .mov (.t 33), none⟩])
     (.skip)))))
    ((.seq ((.seq (.ops [⟨(some 34), .fieldAddr (.t 1) 2 ⟨1, false⟩, none⟩,
      ⟨(some 35), .load false (some 1) ⟨1, false⟩ (.t 34), none⟩])
    ((.cond (.t 35) (.ops [⟨(some 36), .mov (.t 6), none⟩,
       ⟨(some 37), .bin .add .num (.t 36) (.c (.s [35])), none⟩,
       ⟨(some 6), .mov (.t 37), none⟩])
     (.skip)))))
    ((.seq ((.seq (.ops [⟨(some 38), .fieldAddr (.t 1) 0 ⟨1, false⟩, none⟩,
      ⟨(some 39), .load false (some 1) ⟨1, false⟩ (.t 38), none⟩,
      ⟨(some 40), .bin .eql .num (.t 39) (.c (.i .i64 0)), none⟩])
    ((.cond (.t 40) (.ops [⟨(some 41), .fieldAddr (.t 1) 5 ⟨1, false⟩, none⟩,
       ⟨(some 42), .load false (some 1) ⟨1, false⟩ (.t 41), none⟩,
       ⟨(some 43), .call (.f 24) [(.t 42)], none⟩,
       ⟨(some 5), .mov (.mv 43), none⟩])
     (.skip)))))
    ((.seq (.opsD [(⟨(some 44), .mov (.t 6), none⟩, false, []),
      (⟨(some 45), .bin .add .num (.t 44) (.c (.s [32])), none⟩, false, []),
      (⟨(some 46), .fieldAddr (.t 1) 3 ⟨1, false⟩, none⟩, false, []),
      (⟨(some 47), .load false (some 1) ⟨1, false⟩ (.t 46), none⟩, false, []),
      (⟨(some 48), .call (.f 24) [(.t 47)], none⟩, false, []),
      (⟨(some 49), .bin .add .num (.t 45) (.t 48), none⟩, false, []),
      (⟨(some 50), .bin .add .num (.t 49) (.c (.s [44, 32])), none⟩, false, []),
      (⟨(some 51), .fieldAddr (.t 1) 4 ⟨1, false⟩, none⟩, false, []),
      (⟨(some 52), .load false (some 1) ⟨1, false⟩ (.t 51), none⟩, false, []),
      (⟨(some 53), .call (.f 24) [(.t 52)], none⟩, false, []),
      (⟨(some 54), .bin .add .num (.t 50) (.t 53), none⟩, false, []),
      (⟨(some 55), .bin .add .num (.t 54) (.c (.s [44, 32])), none⟩, false, []),
      (⟨(some 56), .mov (.t 5), none⟩, false, []),
      (⟨(some 57), .bin .add .num (.t 55) (.t 56), none⟩, false, []),
      (⟨(some 2), .mov (.t 57), none⟩, false, [])])
    (.ret)))))))))))
    ((.seq (.ops [⟨(some 59), .bin .eql .num (.t 21) (.c (.i .i64 2)), none⟩,
      ⟨(some 58), .mov (.t 59), none⟩])
    ((.cond (.t 58) ((.seq (.ops [⟨(some 7), .mov (.c (.s [76, 68, 82])), none⟩])
     ((.seq ((.seq (.ops [⟨(some 60), .fieldAddr (.t 1) 1 ⟨1, false⟩, none⟩,
       ⟨(some 61), .load false (some 1) ⟨1, false⟩ (.t 60), none⟩])
     ((.cond (.t 61) (.ops [⟨(some 7), .mov (.c (.s [83, 84, 82])), none⟩])
      (.skip)))))
     ((.seq ((.seq (.ops [⟨(some 62), .fieldAddr (.t 1) 2 ⟨1, false⟩, none⟩,
       ⟨(some 63), .load false (some 1) ⟨1, false⟩ (.t 62), none⟩])
     ((.cond (.t 63) (.ops [⟨(some 64), .mov (.t 7), none⟩,
        ⟨(some 65), .bin .add .num (.t 64) (.c (.s [66])), none⟩,
        ⟨(some 7), .mov (.t 65), none⟩])
      (.skip)))))
     ((.seq (.opsD [(⟨(some 66), .mov (.t 7), none⟩, false, []),
       (⟨(some 67), .bin .add .num (.t 66) (.c (.s [32])), none⟩, false, []),
       (⟨(some 68), .fieldAddr (.t 1) 3 ⟨1, false⟩, none⟩, false, []),
       (⟨(some 69), .load false (some 1) ⟨1, false⟩ (.t 68), none⟩, false, []),
       (⟨(some 70), .call (.f 24) [(.t 69)], none⟩, false, []),
       (⟨(some 71), .bin .add .num (.t 67) (.t 70), none⟩, false, []),
       (⟨(some 72), .bin .add .num (.t 71) (.c (.s [44, 32])), none⟩, false, []),
       (⟨(some 73), .fieldAddr (.t 1) 4 ⟨1, false⟩, none⟩, false, []),
       (⟨(some 74), .load false (some 1) ⟨1, false⟩ (.t 73), none⟩, false, []),
       (⟨(some 75), .call (.f 24) [(.t 74)], none⟩, false, []),
       (⟨(some 76), .bin .add .num (.t 72) (.t 75), none⟩, false, []),
       (⟨(some 77), .bin .add .num (.t 76) (.c (.s [44, 32])), none⟩, false, []),
       (⟨(some 78), .mov (.t 5), none⟩, false, []),
       (⟨(some 79), .bin .add .num (.t 77) (.t 78), none⟩, false, []),
       (⟨(some 2), .mov (.t 79), none⟩, false, [])])
     (.ret)))))))))
     (.skip)))))))))))))
  ((.seq (.ops [⟨(some 8), .mov (.c (.s [66])), none⟩])
  ((.seq ((.seq (.ops [⟨(some 80), .fieldAddr (.t 1) 2 ⟨1, false⟩, none⟩,
    ⟨(some 81), .load false (some 1) ⟨1, false⟩ (.t 80), none⟩])
  ((.cond (.t 81) (.ops [⟨(some 8), .mov (.c (.s [66, 76])), none⟩])
   (.skip)))))
  ((.seq (.ops [⟨(some 82), .mov (.t 8), none⟩,
    ⟨(some 83), .buildSlice (.s []) 16 [(0, (.c (.s [77, 73]))), (1, (.c (.s [69, 81]))), (2, (.c (.s [67, 83]))), (3, (.c (.s [86, 83]))), (4, (.c (.s [76, 83]))), (5, (.c (.s [76, 84]))), (6, (.c (.s [76, 69]))), (7, (.c (.s []))), (8, (.c (.s [80, 76]))), (9, (.c (.s [78, 69]))), (10, (.c (.s [67, 67]))), (11, (.c (.s [86, 67]))), (12, (.c (.s [72, 73]))), (13, (.c (.s [71, 69]))), (14, (.c (.s [71, 84]))), (15, (.c (.s [78, 86])))], none⟩,
    ⟨(some 84), .fieldAddr (.t 1) 3 ⟨1, false⟩, none⟩,
    ⟨(some 85), .load false (some 1) ⟨1, false⟩ (.t 84), none⟩,
    ⟨(some 86), .indexAddr (.t 83) (.t 85) 1 none, none⟩,
    ⟨(some 87), .load false none ⟨1, false⟩ (.t 86), none⟩,
    ⟨(some 88), .bin .add .num (.t 82) (.t 87), none⟩,
    ⟨(some 8), .mov (.t 88), none⟩])
  ((.seq ((.seq (.ops [⟨(some 89), .fieldAddr (.t 1) 1 ⟨1, false⟩, none⟩,
    ⟨(some 90), .load false (some 1) ⟨1, false⟩ (.t 89), none⟩])
  ((.cond (.t 90) ((.seq (.ops [⟨(some 91), .mov (.t 8), none⟩,
     ⟨(some 92), .bin .add .num (.t 91) (.c (.s [32])), none⟩,
     ⟨(some 93), .mov (.t 5), none⟩,
     ⟨(some 94), .bin .add .num (.t 92) (.t 93), none⟩,
     ⟨(some 2), .mov (.t 94), none⟩])
   (.ret)))
   (.skip)))))
  ((.seq (.ops [⟨(some 95), .mov (.t 8), none⟩,
    ⟨(some 96), .bin .add .num (.t 95) (.c (.s [32])), none⟩,
    ⟨(some 97), .fieldAddr (.t 1) 5 ⟨1, false⟩, none⟩,
    ⟨(some 98), .load false (some 1) ⟨1, false⟩ (.t 97), none⟩,
    ⟨(some 99), .call (.f 24) [(.t 98)], none⟩,
    ⟨(some 100), .bin .add .num (.t 96) (.t 99), none⟩,
    ⟨(some 101), .bin .add .num (.t 100) (.c (.s [44, 32])), none⟩,
    ⟨(some 102), .mov (.t 5), none⟩,
    ⟨(some 103), .bin .add .num (.t 101) (.t 102), none⟩,
    ⟨(some 2), .mov (.t 103), none⟩])
  (.ret))))))))))))))))))⟩
def f_waferref5_Encode : Fn := ⟨1, [(.t 2), (.t 3)], false,
  (.seq (.ops [⟨(some 1), .box true (.t 0), none⟩,
    ⟨(some 2), .mov (.c (.i .u32 0)), none⟩,
    ⟨(some 3), .mov (.c (.b false)), none⟩])
  ((.seq ((.seq (.ops [⟨(some 6), .fieldAddr (.t 1) 0 ⟨1, false⟩, none⟩,
    ⟨(some 7), .load false (some 1) ⟨1, false⟩ (.t 6), none⟩,
    ⟨(some 8), .call (.f 25) [(.t 7), (.c (.i .i64 0)), (.c (.i .i64 3))], none⟩,
    ⟨(some 9), .un .not (.t 8), none⟩,
    ⟨(some 10), .mov (.t 9), none⟩,
    ⟨(some 11), .fieldAddr (.t 1) 3 ⟨1, false⟩, some (10, false)⟩,
    ⟨(some 12), .load false (some 1) ⟨1, false⟩ (.t 11), some (10, false)⟩,
    ⟨(some 13), .call (.f 25) [(.t 12), (.c (.i .i64 0)), (.c (.i .i64 15))], some (10, false)⟩,
    ⟨(some 14), .un .not (.t 13), some (10, false)⟩,
    ⟨(some 15), .pick (.t 10) (.c (.b true)) (.t 14), none⟩])
  ((.cond (.t 15) ((.seq (.ops [⟨(some 2), .mov (.c (.i .u32 0)), none⟩,
     ⟨(some 3), .mov (.c (.b false)), none⟩])
   (.ret)))
   (.skip)))))
  ((.seq (.opsD [(⟨(some 16), .fieldAddr (.t 1) 0 ⟨1, false⟩, none⟩, false, []),
    (⟨(some 17), .load false (some 1) ⟨1, false⟩ (.t 16), none⟩, false, []),
    (⟨(some 18), .conv .u32 (.t 17), none⟩, false, []),
    (⟨(some 19), .bin .shl .num (.t 18) (.c (.i .u64 30)), none⟩, false, []),
    (⟨(some 20), .fieldAddr (.t 1) 1 ⟨1, false⟩, none⟩, false, []),
    (⟨(some 21), .load false (some 1) ⟨1, false⟩ (.t 20), none⟩, false, []),
    (⟨(some 22), .call (.f 26) [(.t 21)], none⟩, false, []),
    (⟨(some 23), .bin .shl .num (.t 22) (.c (.i .u64 29)), none⟩, false, []),
    (⟨(some 24), .bin .or .num (.t 19) (.t 23), none⟩, false, []),
    (⟨(some 25), .fieldAddr (.t 1) 2 ⟨1, false⟩, none⟩, false, []),
    (⟨(some 26), .load false (some 1) ⟨1, false⟩ (.t 25), none⟩, false, []),
    (⟨(some 27), .call (.f 26) [(.t 26)], none⟩, false, []),
    (⟨(some 28), .bin .shl .num (.t 27) (.c (.i .u64 28)), none⟩, false, []),
    (⟨(some 29), .bin .or .num (.t 24) (.t 28), none⟩, false, []),
    (⟨(some 30), .fieldAddr (.t 1) 3 ⟨1, false⟩, none⟩, false, []),
    (⟨(some 31), .load false (some 1) ⟨1, false⟩ (.t 30), none⟩, false, []),
    (⟨(some 32), .conv .u32 (.t 31), none⟩, false, []),
    (⟨(some 33), .bin .shl .num (.t 32) (.c (.i .u64 24)), none⟩, false, []),
    (⟨(some 34), .bin .or .num (.t 29) (.t 33), none⟩, false, []),
    (⟨(some 4), .mov (.t 34), none⟩, false, [])])
  ((.seq (.ops [⟨(some 35), .fieldAddr (.t 1) 7 ⟨1, false⟩, none⟩,
    ⟨(some 36), .load false (some 1) ⟨1, false⟩ (.t 35), none⟩,
    ⟨(some 37), .conv .i64 (.t 36), none⟩,
    ⟨(some 5), .mov (.mv 37), none⟩])
  ((.seq ((.seq (.ops [⟨(some 38), .fieldAddr (.t 1) 0 ⟨1, false⟩, none⟩,
    ⟨(some 39), .load false (some 1) ⟨1, false⟩ (.t 38), none⟩,
    ⟨(some 40), .bin .lss .num (.t 39) (.c (.i .i64 3)), none⟩])
  ((.cond (.t 40) ((.seq ((.seq (.ops [⟨(some 41), .fieldAddr (.t 1) 4 ⟨1, false⟩, none⟩,
     ⟨(some 42), .load false (some 1) ⟨1, false⟩ (.t 41), none⟩,
     ⟨(some 43), .call (.f 25) [(.t 42), (.c (.i .i64 0)), (.c (.i .i64 15))], none⟩,
     ⟨(some 44), .un .not (.t 43), none⟩])
   ((.cond (.t 44) ((.seq (.ops [⟨(some 2), .mov (.c (.i .u32 0)), none⟩,
      ⟨(some 3), .mov (.c (.b false)), none⟩])
    (.ret)))
    (.skip)))))
   (.ops [⟨(some 45), .mov (.t 4), none⟩,
     ⟨(some 46), .fieldAddr (.t 1) 4 ⟨1, false⟩, none⟩,
     ⟨(some 47), .load false (some 1) ⟨1, false⟩ (.t 46), none⟩,
     ⟨(some 48), .conv .u32 (.t 47), none⟩,
     ⟨(some 49), .bin .shl .num (.t 48) (.c (.i .u64 20)), none⟩,
     ⟨(some 50), .bin .or .num (.t 45) (.t 49), none⟩,
     ⟨(some 4), .mov (.t 50), none⟩])))
   (.skip)))))
  ((.seq ((.seq (.ops [⟨(some 51), .fieldAddr (.t 1) 0 ⟨1, false⟩, none⟩,
    ⟨(some 52), .load false (some 1) ⟨1, false⟩ (.t 51), none⟩,
    ⟨(some 53), .bin .lss .num (.t 52) (.c (.i .i64 2)), none⟩])
  ((.cond (.t 53) ((.seq ((.seq (.ops [⟨(some 54), .fieldAddr (.t 1) 6 ⟨1, false⟩, none⟩,
     ⟨(some 55), .load false (some 1) ⟨1, false⟩ (.t 54), none⟩,
     ⟨(some 56), .call (.f 25) [(.t 55), (.c (.i .i64 0)), (.c (.i .i64 15))], none⟩,
     ⟨(some 57), .un .not (.t 56), none⟩])
   ((.cond (.t 57) ((.seq (.ops [⟨(some 2), .mov (.c (.i .u32 0)), none⟩,
      ⟨(some 3), .mov (.c (.b false)), none⟩])
    (.ret)))
    (.skip)))))
   (.ops [⟨(some 58), .mov (.t 4), none⟩,
     ⟨(some 59), .fieldAddr (.t 1) 6 ⟨1, false⟩, none⟩,
     ⟨(some 60), .load false (some 1) ⟨1, false⟩ (.t 59), none⟩,
     ⟨(some 61), .conv .u32 (.t 60), none⟩,
     ⟨(some 62), .bin .shl .num (.t 61) (.c (.i .u64 16)), none⟩,
     ⟨(some 63), .bin .or .num (.t 58) (.t 62), none⟩,
     ⟨(some 4), .mov (.t 63), none⟩])))
   (.skip)))))
  ((.seq ((.block 0 [1, 4, 5] ((.seq (.ops [⟨(some 65), .fieldAddr (.t 1) 0 ⟨1, false⟩, none⟩,
     ⟨(some 66), .load false (some 1) ⟨1, false⟩ (.t 65), none⟩,
     ⟨(some 67), .bin .eql .num (.t 66) (.c (.i .i64 0)), none⟩,
     ⟨(some 64), .mov (.t 67), none⟩])
   ((.cond (.t 64) ((.seq (.opsD [(⟨(some 68), .mov (.t 4), none⟩, false, []),
      (⟨(some 69), .fieldAddr (.t 1) 5 ⟨1, false⟩, none⟩, false, []),
      (⟨(some 70), .load false (some 1) ⟨1, false⟩ (.t 69), none⟩, false, []),
      (⟨(some 71), .conv .u32 (.t 70), none⟩, false, []),
      (⟨(some 72), .bin .and .num (.t 71) (.c (.i .u32 15)), none⟩, false, []),
      (⟨(some 73), .bin .or .num (.t 68) (.t 72), none⟩, false, []),
      (⟨(some 74), .fieldAddr (.t 1) 5 ⟨1, false⟩, none⟩, false, []),
      (⟨(some 75), .load false (some 1) ⟨1, false⟩ (.t 74), none⟩, false, []),
      (⟨(some 76), .call (.f 25) [(.t 75), (.c (.i .i64 0)), (.c (.i .i64 15))], none⟩, false, []),
      (⟨(some 77), .mov (.mv 76), none⟩, false, []),
      (⟨(some 78), .mov (.t 5), some (77, true)⟩, false, []),
      (⟨(some 79), .bin .eql .num (.t 78) (.c (.i .i64 0)), some (77, true)⟩, false, []),
      (⟨(some 80), .pick (.t 77) (.t 79) (.c (.b false)), none⟩, false, []),
      (⟨(some 2), .mov (.t 73), none⟩, false, []),
      (⟨(some 3), .mov (.t 80), none⟩, false, [])])
    (.ret)))
    ((.seq (.ops [⟨(some 82), .fieldAddr (.t 1) 0 ⟨1, false⟩, none⟩,
      ⟨(some 83), .load false (some 1) ⟨1, false⟩ (.t 82), none⟩,
      ⟨(some 84), .bin .eql .num (.t 83) (.c (.i .i64 1)), none⟩,
      ⟨(some 81), .mov (.t 84), none⟩])
    ((.cond (.t 81) ((.seq (.opsD [(⟨(some 85), .mov (.t 4), none⟩, false, []),
       (⟨(some 86), .fieldAddr (.t 1) 7 ⟨1, false⟩, none⟩, false, []),
       (⟨(some 87), .load false (some 1) ⟨1, false⟩ (.t 86), none⟩, false, []),
       (⟨(some 88), .conv .u32 (.t 87), none⟩, false, []),
       (⟨(some 89), .bin .and .num (.t 88) (.c (.i .u32 65535)), none⟩, false, []),
       (⟨(some 90), .bin .or .num (.t 85) (.t 89), none⟩, false, []),
       (⟨(some 91), .fieldAddr (.t 1) 5 ⟨1, false⟩, none⟩, false, []),
       (⟨(some 92), .load false (some 1) ⟨1, false⟩ (.t 91), none⟩, false, []),
       (⟨(some 93), .bin .eql .num (.t 92) (.c (.i .i64 0)), none⟩, false, []),
       (⟨(some 94), .mov (.t 93), none⟩, false, []),
       (⟨(some 95), .mov (.t 5), some (94, true)⟩, false, []),
       (⟨(some 96), .call (.f 25) [(.t 95), (.c (.i .i64 0)), (.c (.i .i64 65535))], some (94, true)⟩, false, []),
       (⟨(some 97), .pick (.t 94) (.t 96) (.c (.b false)), none⟩, false, []),
       (⟨(some 2), .mov (.t 90), none⟩, false, []),
       (⟨(some 3), .mov (.t 97), none⟩, false, [])])
     (.ret)))
     ((.seq (.ops [⟨(some 99), .fieldAddr (.t 1) 0 ⟨1, false⟩, none⟩,
       ⟨(some 100), .load false (some 1) ⟨1, false⟩ (.t 99), none⟩,
       ⟨(some 101), .bin .eql .num (.t 100) (.c (.i .i64 2)), none⟩,
       ⟨(some 98), .mov (.t 101), none⟩])
     ((.cond (.t 98) ((.seq (.opsD [(⟨(some 102), .mov (.t 4), none⟩, false, []),
        (⟨(some 103), .fieldAddr (.t 1) 7 ⟨1, false⟩, none⟩, false, []),
        (⟨(some 104), .load false (some 1) ⟨1, false⟩ (.t 103), none⟩, false, []),
        (⟨(some 105), .conv .u32 (.t 104), none⟩, false, []),
        (⟨(some 106), .bin .and .num (.t 105) (.c (.i .u32 1048575)), none⟩, false, []),
        (⟨(some 107), .bin .or .num (.t 102) (.t 106), none⟩, false, []),
        (⟨(some 108), .fieldAddr (.t 1) 5 ⟨1, false⟩, none⟩, false, []),
        (⟨(some 109), .load false (some 1) ⟨1, false⟩ (.t 108), none⟩, false, []),
        (⟨(some 110), .bin .eql .num (.t 109) (.c (.i .i64 0)), none⟩, false, []),
        (⟨(some 111), .mov (.t 110), none⟩, false, []),
        (⟨(some 112), .fieldAddr (.t 1) 6 ⟨1, false⟩, some (111, true)⟩, false, []),
        (⟨(some 113), .load false (some 1) ⟨1, false⟩ (.t 112), some (111, true)⟩, false, []),
        (⟨(some 114), .bin .eql .num (.t 113) (.c (.i .i64 0)), some (111, true)⟩, false, []),
        (⟨(some 115), .pick (.t 111) (.t 114) (.c (.b false)), none⟩, false, []),
        (⟨(some 116), .mov (.t 115), none⟩, false, []),
        (⟨(some 117), .mov (.t 5), some (116, true)⟩, false, []),
        (⟨(some 118), .call (.f 25) [(.t 117), (.c (.i .i64 (-524288))), (.c (.i .i64 524287))], some (116, true)⟩, false, []),
        (⟨(some 119), .pick (.t 116) (.t 118) (.c (.b false)), none⟩, false, []),
        (⟨(some 2), .mov (.t 107), none⟩, false, []),
        (⟨(some 3), .mov (.t 119), none⟩, false, [])])
      (.ret)))
      ((.seq (.ops [⟨(some 121), .fieldAddr (.t 1) 1 ⟨1, false⟩, none⟩,
        ⟨(some 122), .load false (some 1) ⟨1, false⟩ (.t 121), none⟩,
        ⟨(some 123), .un .not (.t 122), none⟩,
        ⟨(some 120), .mov (.t 123), none⟩])
      ((.cond (.t 120) ((.seq (.opsD [(⟨(some 124), .mov (.t 4), none⟩, false, []),
         (⟨(some 125), .fieldAddr (.t 1) 7 ⟨1, false⟩, none⟩, false, []),
         (⟨(some 126), .load false (some 1) ⟨1, false⟩ (.t 125), none⟩, false, []),
         (⟨(some 127), .conv .u32 (.t 126), none⟩, false, []),
         (⟨(some 128), .bin .and .num (.t 127) (.c (.i .u32 15)), none⟩, false, []),
         (⟨(some 129), .bin .shl .num (.t 128) (.c (.i .u64 4)), none⟩, false, []),
         (⟨(some 130), .bin .or .num (.t 124) (.t 129), none⟩, false, []),
         (⟨(some 131), .fieldAddr (.t 1) 5 ⟨1, false⟩, none⟩, false, []),
         (⟨(some 132), .load false (some 1) ⟨1, false⟩ (.t 131), none⟩, false, []),
         (⟨(some 133), .conv .u32 (.t 132), none⟩, false, []),
         (⟨(some 134), .bin .and .num (.t 133) (.c (.i .u32 15)), none⟩, false, []),
         (⟨(some 135), .bin .or .num (.t 130) (.t 134), none⟩, false, []),
         (⟨(some 136), .fieldAddr (.t 1) 4 ⟨1, false⟩, none⟩, false, []),
         (⟨(some 137), .load false (some 1) ⟨1, false⟩ (.t 136), none⟩, false, []),
         (⟨(some 138), .bin .eql .num (.t 137) (.c (.i .i64 0)), none⟩, false, []),
         (⟨(some 139), .mov (.t 138), none⟩, false, []),
         (⟨(some 140), .fieldAddr (.t 1) 6 ⟨1, false⟩, some (139, true)⟩, false, []),
         (⟨(some 141), .load false (some 1) ⟨1, false⟩ (.t 140), some (139, true)⟩, false, []),
         (⟨(some 142), .bin .eql .num (.t 141) (.c (.i .i64 0)), some (139, true)⟩, false, []),
         (⟨(some 143), .pick (.t 139) (.t 142) (.c (.b false)), none⟩, false, []),
         (⟨(some 144), .mov (.t 143), none⟩, false, []),
         (⟨(some 145), .fieldAddr (.t 1) 5 ⟨1, false⟩, some (144, true)⟩, false, []),
         (⟨(some 146), .load false (some 1) ⟨1, false⟩ (.t 145), some (144, true)⟩, false, []),
         (⟨(some 147), .call (.f 25) [(.t 146), (.c (.i .i64 0)), (.c (.i .i64 15))], some (144, true)⟩, false, []),
         (⟨(some 148), .pick (.t 144) (.t 147) (.c (.b false)), none⟩, false, []),
         (⟨(some 149), .mov (.t 148), none⟩, false, []),
         (⟨(some 150), .mov (.t 5), some (149, true)⟩, false, []),
         (⟨(some 151), .call (.f 25) [(.t 150), (.c (.i .i64 0)), (.c (.i .i64 15))], some (149, true)⟩, false, []),
         (⟨(some 152), .pick (.t 149) (.t 151) (.c (.b false)), none⟩, false, []),
         (⟨(some 2), .mov (.t 135), none⟩, false, []),
         (⟨(some 3), .mov (.t 152), none⟩, false, [])])
       (.ret)))
       (.skip)))))))))))))))))))
  ((.seq (.opsD [(⟨(some 153), .mov (.t 4), none⟩, false, []),
    (⟨(some 154), .fieldAddr (.t 1) 7 ⟨1, false⟩, none⟩, false, []),
    (⟨(some 155), .load false (some 1) ⟨1, false⟩ (.t 154), none⟩, false, []),
    (⟨(some 156), .conv .u32 (.t 155), none⟩, false, []),
    (⟨(some 157), .bin .and .num (.t 156) (.c (.i .u32 16777215)), none⟩, false, []),
    (⟨(some 158), .bin .or .num (.t 153) (.t 157), none⟩, false, []),
    (⟨(some 159), .fieldAddr (.t 1) 4 ⟨1, false⟩, none⟩, false, []),
    (⟨(some 160), .load false (some 1) ⟨1, false⟩ (.t 159), none⟩, false, []),
    (⟨(some 161), .bin .eql .num (.t 160) (.c (.i .i64 0)), none⟩, false, []),
    (⟨(some 162), .mov (.t 161), none⟩, false, []),
    (⟨(some 163), .fieldAddr (.t 1) 6 ⟨1, false⟩, some (162, true)⟩, false, []),
    (⟨(some 164), .load false (some 1) ⟨1, false⟩ (.t 163), some (162, true)⟩, false, []),
    (⟨(some 165), .bin .eql .num (.t 164) (.c (.i .i64 0)), some (162, true)⟩, false, []),
    (⟨(some 166), .pick (.t 162) (.t 165) (.c (.b false)), none⟩, false, []),
    (⟨(some 167), .mov (.t 166), none⟩, false, []),
    (⟨(some 168), .fieldAddr (.t 1) 5 ⟨1, false⟩, some (167, true)⟩, false, []),
    (⟨(some 169), .load false (some 1) ⟨1, false⟩ (.t 168), some (167, true)⟩, false, []),
    (⟨(some 170), .bin .eql .num (.t 169) (.c (.i .i64 0)), some (167, true)⟩, false, []),
    (⟨(some 171), .pick (.t 167) (.t 170) (.c (.b false)), none⟩, false, []),
    (⟨(some 172), .mov (.t 171), none⟩, false, []),
    (⟨(some 173), .mov (.t 5), some (172, true)⟩, false, []),
    (⟨(some 174), .call (.f 25) [(.t 173), (.c (.i .i64 (-8388608))), (.c (.i .i64 8388607))], some (172, true)⟩, false, []),
    (⟨(some 175), .pick (.t 172) (.t 174) (.c (.b false)), none⟩, false, []),
    (⟨(some 2), .mov (.t 158), none⟩, false, []),
    (⟨(some 3), .mov (.t 175), none⟩, false, [])])
  (.ret))))))))))))))))⟩
def f_risc_field : Fn := ⟨2, [(.t 4)], true,
  (.seq (.ops [⟨(some 4), .mov (.c (.i .i64 0)), none⟩])
  ((.seq (.ops [⟨(some 5), .mov (.t 0), none⟩,
    ⟨(some 6), .mov (.t 1), none⟩,
    ⟨(some 7), .bin .shr .num (.t 5) (.t 6), none⟩,
    ⟨(some 8), .bin .and .num (.t 7) (.c (.i .u32 15)), none⟩,
    ⟨(some 9), .conv .i64 (.t 8), none⟩,
    ⟨(some 4), .mov (.mv 9), none⟩])
  (.ret))))⟩
def f_risc_extend : Fn := ⟨2, [(.t 4)], true,
  (.seq (.ops [⟨(some 4), .mov (.c (.i .i32 0)), none⟩])
  ((.seq (.ops [⟨(some 5), .mov (.t 0), none⟩,
    ⟨(some 6), .mov (.t 1), none⟩,
    ⟨(some 7), .bin .sub .num (.c (.i .u64 32)) (.t 6), none⟩,
    ⟨(some 8), .bin .shl .num (.t 5) (.t 7), none⟩,
    ⟨(some 9), .conv .i32 (.t 8), none⟩,
    ⟨(some 10), .mov (.t 1), none⟩,
    ⟨(some 11), .bin .sub .num (.c (.i .u64 32)) (.t 10), none⟩,
    ⟨(some 12), .bin .shr .num (.t 9) (.t 11), none⟩,
    ⟨(some 4), .mov (.t 12), none⟩])
  (.ret))))⟩
def f_waferref5_signed : Fn := ⟨2, [(.t 4)], true,
  (.seq (.ops [⟨(some 4), .mov (.c (.i .i32 0)), none⟩])
  ((.seq (.ops [⟨(some 5), .mov (.t 0), none⟩,
    ⟨(some 6), .mov (.t 1), none⟩,
    ⟨(some 7), .bin .sub .num (.c (.i .i64 32)) (.t 6), none⟩,
    ⟨(some 8), .bin .shl .num (.t 5) (.t 7), none⟩,
    ⟨(some 9), .conv .i32 (.t 8), none⟩,
    ⟨(some 10), .mov (.t 1), none⟩,
    ⟨(some 11), .bin .sub .num (.c (.i .i64 32)) (.t 10), none⟩,
    ⟨(some 12), .bin .shr .num (.t 9) (.t 11), none⟩,
    ⟨(some 4), .mov (.t 12), none⟩])
  (.ret))))⟩
def f_risc_right : Fn := ⟨1, [(.t 2)], true,
  (.seq (.ops [⟨(some 1), .box true (.t 0), none⟩,
    ⟨(some 2), .mov (.c (.b false)), none⟩])
  ((.seq ((.seq (.ops [⟨(some 3), .fieldAddr (.t 1) 3 ⟨1, false⟩, none⟩,
    ⟨(some 4), .load false (some 1) ⟨1, false⟩ (.t 3), none⟩,
    ⟨(some 5), .call (.f 27) [(.t 4)], none⟩,
    ⟨(some 6), .un .not (.t 5), none⟩,
    ⟨(some 7), .mov (.t 6), none⟩,
    ⟨(some 8), .fieldAddr (.t 1) 4 ⟨1, false⟩, some (7, false)⟩,
    ⟨(some 9), .load false (some 1) ⟨1, false⟩ (.t 8), some (7, false)⟩,
    ⟨(some 10), .call (.f 27) [(.t 9)], some (7, false)⟩,
    ⟨(some 11), .un .not (.t 10), some (7, false)⟩,
    ⟨(some 12), .pick (.t 7) (.c (.b true)) (.t 11), none⟩,
    ⟨(some 13), .mov (.t 12), none⟩,
    ⟨(some 14), .fieldAddr (.t 1) 5 ⟨1, false⟩, some (13, false)⟩,
    ⟨(some 15), .load false (some 1) ⟨1, false⟩ (.t 14), some (13, false)⟩,
    ⟨(some 16), .call (.f 27) [(.t 15)], some (13, false)⟩,
    ⟨(some 17), .un .not (.t 16), some (13, false)⟩,
    ⟨(some 18), .pick (.t 13) (.c (.b true)) (.t 17), none⟩,
    ⟨(some 19), .mov (.t 18), none⟩,
    ⟨(some 20), .fieldAddr (.t 1) 6 ⟨1, false⟩, some (19, false)⟩,
    ⟨(some 21), .load false (some 1) ⟨1, false⟩ (.t 20), some (19, false)⟩,
    ⟨(some 22), .call (.f 27) [(.t 21)], some (19, false)⟩,
    ⟨(some 23), .un .not (.t 22), some (19, false)⟩,
    ⟨(some 24), .pick (.t 19) (.c (.b true)) (.t 23), none⟩])
  ((.cond (.t 24) ((.seq (.ops [⟨(some 2), .mov (.c (.b false)), none⟩])
   (.ret)))
   (.skip)))))
  ((.seq ((.seq (.ops [⟨(some 25), .fieldAddr (.t 1) 0 ⟨1, false⟩, none⟩,
    ⟨(some 26), .load false (some 1) ⟨1, false⟩ (.t 25), none⟩])
  ((.block 0 [] ((.seq (.ops [⟨(some 28), .bin .eql .num (.t 26) (.c (.i .i64 0)), none⟩,
     ⟨(some 27), .mov (.t 28), none⟩])
   ((.cond (.t 27) ((.seq (.ops [⟨(some 29), .fieldAddr (.t 1) 7 ⟨1, false⟩, none⟩,
      ⟨(some 30), .load false (some 1) ⟨1, false⟩ (.t 29), none⟩,
      ⟨(some 31), .bin .eql .num (.t 30) (.c (.i .i32 0)), none⟩,
      ⟨(some 2), .mov (.t 31), none⟩])
    (.ret)))
    ((.seq (.ops [⟨(some 33), .bin .eql .num (.t 26) (.c (.i .i64 1)), none⟩,
      ⟨(some 32), .mov (.t 33), none⟩])
    ((.cond (.t 32) ((.seq (.ops [⟨(some 34), .fieldAddr (.t 1) 5 ⟨1, false⟩, none⟩,
       ⟨(some 35), .load false (some 1) ⟨1, false⟩ (.t 34), none⟩,
       ⟨(some 36), .bin .eql .num (.t 35) (.c (.i .i64 0)), none⟩,
       ⟨(some 37), .mov (.t 36), none⟩,
       ⟨(some 38), .fieldAddr (.t 1) 7 ⟨1, false⟩, some (37, true)⟩,
       ⟨(some 39), .load false (some 1) ⟨1, false⟩ (.t 38), some (37, true)⟩,
       ⟨(some 40), .bin .geq .num (.t 39) (.c (.i .i32 0)), some (37, true)⟩,
       ⟨(some 41), .pick (.t 37) (.t 40) (.c (.b false)), none⟩,
       ⟨(some 42), .mov (.t 41), none⟩,
       ⟨(some 43), .fieldAddr (.t 1) 7 ⟨1, false⟩, some (42, true)⟩,
       ⟨(some 44), .load false (some 1) ⟨1, false⟩ (.t 43), some (42, true)⟩,
       ⟨(some 45), .bin .lss .num (.t 44) (.c (.i .i32 65536)), some (42, true)⟩,
       ⟨(some 46), .pick (.t 42) (.t 45) (.c (.b false)), none⟩,
       ⟨(some 2), .mov (.t 46), none⟩])
     (.ret)))
     ((.seq (.ops [⟨(some 48), .bin .eql .num (.t 26) (.c (.i .i64 2)), none⟩,
       ⟨(some 47), .mov (.t 48), none⟩])
     ((.cond (.t 47) ((.seq (.ops [⟨(some 49), .fieldAddr (.t 1) 5 ⟨1, false⟩, none⟩,
        ⟨(some 50), .load false (some 1) ⟨1, false⟩ (.t 49), none⟩,
        ⟨(some 51), .bin .eql .num (.t 50) (.c (.i .i64 0)), none⟩,
        ⟨(some 52), .mov (.t 51), none⟩,
        ⟨(some 53), .fieldAddr (.t 1) 6 ⟨1, false⟩, some (52, true)⟩,
        ⟨(some 54), .load false (some 1) ⟨1, false⟩ (.t 53), some (52, true)⟩,
        ⟨(some 55), .bin .eql .num (.t 54) (.c (.i .i64 0)), some (52, true)⟩,
        ⟨(some 56), .pick (.t 52) (.t 55) (.c (.b false)), none⟩,
        ⟨(some 57), .mov (.t 56), none⟩,
        ⟨(some 58), .fieldAddr (.t 1) 7 ⟨1, false⟩, some (57, true)⟩,
        ⟨(some 59), .load false (some 1) ⟨1, false⟩ (.t 58), some (57, true)⟩,
        ⟨(some 60), .call (.f 28) [(.t 59), (.c (.i .u64 20))], some (57, true)⟩,
        ⟨(some 61), .pick (.t 57) (.t 60) (.c (.b false)), none⟩,
        ⟨(some 2), .mov (.t 61), none⟩])
      (.ret)))
      ((.seq (.ops [⟨(some 63), .bin .eql .num (.t 26) (.c (.i .i64 3)), none⟩,
        ⟨(some 62), .mov (.t 63), none⟩])
      ((.cond (.t 62) ((.seq ((.seq (.ops [⟨(some 64), .fieldAddr (.t 1) 4 ⟨1, false⟩, none⟩,
         ⟨(some 65), .load false (some 1) ⟨1, false⟩ (.t 64), none⟩,
         ⟨(some 66), .bin .neq .num (.t 65) (.c (.i .i64 0)), none⟩,
         ⟨(some 67), .mov (.t 66), none⟩,
         ⟨(some 68), .fieldAddr (.t 1) 6 ⟨1, false⟩, some (67, false)⟩,
         ⟨(some 69), .load false (some 1) ⟨1, false⟩ (.t 68), some (67, false)⟩,
         ⟨(some 70), .bin .neq .num (.t 69) (.c (.i .i64 0)), some (67, false)⟩,
         ⟨(some 71), .pick (.t 67) (.c (.b true)) (.t 70), none⟩])
       ((.cond (.t 71) ((.seq (.ops [⟨(some 2), .mov (.c (.b false)), none⟩])
        (.ret)))
        (.skip)))))
       ((.seq ((.seq (.ops [⟨(some 72), .fieldAddr (.t 1) 1 ⟨1, false⟩, none⟩,
         ⟨(some 73), .load false (some 1) ⟨1, false⟩ (.t 72), none⟩])
       ((.cond (.t 73) ((.seq (.ops [⟨(some 74), .fieldAddr (.t 1) 5 ⟨1, false⟩, none⟩,
          ⟨(some 75), .load false (some 1) ⟨1, false⟩ (.t 74), none⟩,
          ⟨(some 76), .bin .eql .num (.t 75) (.c (.i .i64 0)), none⟩,
          ⟨(some 77), .mov (.t 76), none⟩,
          ⟨(some 78), .fieldAddr (.t 1) 7 ⟨1, false⟩, some (77, true)⟩,
          ⟨(some 79), .load false (some 1) ⟨1, false⟩ (.t 78), some (77, true)⟩,
          ⟨(some 80), .call (.f 28) [(.t 79), (.c (.i .u64 24))], some (77, true)⟩,
          ⟨(some 81), .pick (.t 77) (.t 80) (.c (.b false)), none⟩,
          ⟨(some 2), .mov (.t 81), none⟩])
        (.ret)))
        (.skip)))))
       ((.seq (.ops [⟨(some 82), .fieldAddr (.t 1) 7 ⟨1, false⟩, none⟩,
         ⟨(some 83), .load false (some 1) ⟨1, false⟩ (.t 82), none⟩,
         ⟨(some 84), .bin .geq .num (.t 83) (.c (.i .i32 0)), none⟩,
         ⟨(some 85), .mov (.t 84), none⟩,
         ⟨(some 86), .fieldAddr (.t 1) 7 ⟨1, false⟩, some (85, true)⟩,
         ⟨(some 87), .load false (some 1) ⟨1, false⟩ (.t 86), some (85, true)⟩,
         ⟨(some 88), .bin .lss .num (.t 87) (.c (.i .i32 16)), some (85, true)⟩,
         ⟨(some 89), .pick (.t 85) (.t 88) (.c (.b false)), none⟩,
         ⟨(some 2), .mov (.t 89), none⟩])
       (.ret)))))))
       (.skip)))))))))))))))))))))
  ((.seq (.ops [⟨(some 2), .mov (.c (.b false)), none⟩])
  (.ret))))))))⟩
def f_risc_bit : Fn := ⟨1, [(.t 2)], true,
  (.seq (.ops [⟨(some 2), .mov (.c (.i .u32 0)), none⟩])
  ((.seq ((.seq (.ops [⟨(some 3), .mov (.t 0), none⟩])
  ((.cond (.t 3) ((.seq (.ops [⟨(some 2), .mov (.c (.i .u32 1)), none⟩])
   (.ret)))
   (.skip)))))
  ((.seq (.ops [⟨(some 2), .mov (.c (.i .u32 0)), none⟩])
  (.ret))))))⟩
def f_strconv_Itoa : Fn := ⟨1, [(.t 2)], true,
  (.seq (.ops [⟨(some 2), .mov (.c (.s [])), none⟩])
  ((.seq (.ops [⟨(some 3), .mov (.mv 0), none⟩,
    ⟨(some 4), .call (.f 29) [(.mv 3)], none⟩,
    ⟨(some 2), .mov (.mv 4), none⟩])
  (.ret))))⟩
def f_risc_reg : Fn := ⟨1, [(.t 2)], true,
  (.seq (.ops [⟨(some 2), .mov (.c (.s [])), none⟩])
  ((.seq (.ops [⟨(some 3), .mov (.mv 0), none⟩,
    ⟨(some 4), .call (.f 17) [(.mv 3)], none⟩,
    ⟨(some 5), .bin .add .num (.c (.s [82])) (.t 4), none⟩,
    ⟨(some 2), .mov (.t 5), none⟩])
  (.ret))))⟩
def f_risc_ops : Fn := ⟨0, [(.t 0)], true,
  (.seq (.ops [⟨(some 0), .mov (.c .nil), none⟩])
  ((.seq (.ops [⟨(some 1), .call (.f 30) [(.c (.s [77, 79, 86, 32, 76, 83, 76, 32, 65, 83, 82, 32, 82, 79, 82, 32, 65, 78, 68, 32, 65, 78, 78, 32, 73, 79, 82, 32, 88, 79, 82, 32, 65, 68, 68, 32, 83, 85, 66, 32, 77, 85, 76, 32, 68, 73, 86, 32, 70, 65, 68, 32, 70, 83, 66, 32, 70, 77, 76, 32, 70, 68, 86]))], none⟩,
    ⟨(some 0), .mov (.mv 1), none⟩])
  (.ret))))⟩
def f_risc_either : Fn := ⟨3, [(.t 6)], true,
  (.seq (.ops [⟨(some 6), .mov (.c (.s [])), none⟩])
  ((.seq ((.seq (.ops [⟨(some 7), .mov (.t 0), none⟩])
  ((.cond (.t 7) ((.seq (.ops [⟨(some 8), .mov (.t 1), none⟩,
     ⟨(some 6), .mov (.t 8), none⟩])
   (.ret)))
   (.skip)))))
  ((.seq (.ops [⟨(some 9), .mov (.t 2), none⟩,
    ⟨(some 6), .mov (.t 9), none⟩])
  (.ret))))))⟩
def f_risc_conditions : Fn := ⟨0, [(.t 0)], true,
  (.seq (.ops [⟨(some 0), .mov (.c .nil), none⟩])
  ((.seq (.ops [⟨(some 1), .buildSlice (.s []) 16 [(0, (.c (.s [77, 73]))), (1, (.c (.s [69, 81]))), (2, (.c (.s [67, 83]))), (3, (.c (.s [86, 83]))), (4, (.c (.s [76, 83]))), (5, (.c (.s [76, 84]))), (6, (.c (.s [76, 69]))), (7, (.c (.s []))), (8, (.c (.s [80, 76]))), (9, (.c (.s [78, 69]))), (10, (.c (.s [67, 67]))), (11, (.c (.s [86, 67]))), (12, (.c (.s [72, 73]))), (13, (.c (.s [71, 69]))), (14, (.c (.s [71, 84]))), (15, (.c (.s [78, 86])))], none⟩,
    ⟨(some 0), .mov (.mv 1), none⟩])
  (.ret))))⟩
def f_strings_Join_B0 : C :=
  (.seq (.ops [⟨(some 42), .bin .lss .num (.t 41) (.t 40), none⟩])
  ((.seq ((.cond (.t 42) (.skip)
   (.exit 1)))
  ((.seq ((.block 2 [0, 1, 5, 39, 40, 41] ((.seq (.ops [⟨(some 43), .indexAddr (.t 39) (.t 41) 1 none, none⟩,
     ⟨(some 44), .load false none ⟨1, false⟩ (.t 43), none⟩,
     ⟨(some 7), .mov (.t 44), none⟩])
   ((.seq ((.seq (.ops [⟨(some 45), .mov (.t 7), none⟩,
     ⟨(some 46), .bi .lenS [(.t 45)], none⟩,
     ⟨(some 47), .mov (.t 5), none⟩,
     ⟨(some 48), .bin .sub .num (.c (.i .i64 9223372036854775807)) (.t 47), none⟩,
     ⟨(some 49), .bin .gtr .num (.t 46) (.t 48), none⟩])
   ((.cond (.t 49) (.ops [⟨(some 50), .mkIfc 9 (.c (.s [115, 116, 114, 105, 110, 103, 115, 58, 32, 74, 111, 105, 110, 32, 111, 117, 116, 112, 117, 116, 32, 108, 101, 110, 103, 116, 104, 32, 111, 118, 101, 114, 102, 108, 111, 119])), none⟩,
      ⟨none, .panic (.t 50), none⟩])
    (.skip)))))
   (.ops [⟨(some 51), .mov (.t 5), none⟩,
     ⟨(some 52), .mov (.t 7), none⟩,
     ⟨(some 53), .bi .lenS [(.t 52)], none⟩,
     ⟨(some 54), .bin .add .num (.t 51) (.t 53), none⟩,
     ⟨(some 5), .mov (.t 54), none⟩])))))))
  (.ops [⟨(some 55), .bin .add .num (.t 41) (.c (.i .i64 1)), none⟩,
    ⟨(some 41), .mov (.t 55), none⟩]))))))
def f_strings_Join_L0 : C := .loop [0, 1, 5, 39, 40, 41] f_strings_Join_B0
noncomputable def f_strings_Join_l0 (pg : Pg) (v0 v1 v5 v39 v40 v41 : V) (H : List Obj) (lo : Nat) : Option (Ex × St) := exL pg f_strings_Join_L0 ⟨[(0, v0), (1, v1), (5, v5), (39, v39), (40, v40), (41, v41)], H, lo⟩
theorem f_strings_Join_l0_in {pg : Pg} {e : Env} {H : List Obj} {lo : Nat} : exL pg f_strings_Join_L0 ⟨e, H, lo⟩ = f_strings_Join_l0 pg (keepV (get 0 e)) (keepV (get 1 e)) (keepV (get 5 e)) (keepV (get 39 e)) (keepV (get 40 e)) (keepV (get 41 e)) H lo := loop_in
theorem f_strings_Join_l0_eq {pg : Pg} {v0 v1 v5 v39 v40 v41 : V} {H : List Obj} {lo : Nat} : f_strings_Join_l0 pg v0 v1 v5 v39 v40 v41 H lo = thenC pg (exL pg f_strings_Join_B0 ⟨[(0, keepV v0), (1, keepV v1), (5, keepV v5), (39, keepV v39), (40, keepV v40), (41, keepV v41)], H, lo⟩) f_strings_Join_L0 := by
  unfold f_strings_Join_l0 f_strings_Join_L0; rw [exL_loop]; simp only [restrict_cons, restrict_nil, get_eq, get_ne, Nat.reduceEqDiff]
def f_strings_Join_B1 : C :=
  (.seq (.ops [⟨(some 66), .bin .lss .num (.t 65) (.t 64), none⟩])
  ((.seq ((.cond (.t 66) (.skip)
   (.exit 3)))
  ((.seq ((.block 4 [1, 8, 63, 64, 65] ((.seq (.ops [⟨(some 67), .indexAddr (.t 63) (.t 65) 1 none, none⟩,
     ⟨(some 68), .load false none ⟨1, false⟩ (.t 67), none⟩,
     ⟨(some 10), .mov (.t 68), none⟩])
   ((.seq (.ops [⟨(some 69), .mov (.t 1), none⟩,
     ⟨(some 70), .call (.f 32) [(.t 8), (.t 69)], none⟩])
   (.ops [⟨(some 71), .mov (.mv 10), none⟩,
     ⟨(some 72), .call (.f 32) [(.t 8), (.mv 71)], none⟩])))))))
  (.ops [⟨(some 73), .bin .add .num (.t 65) (.c (.i .i64 1)), none⟩,
    ⟨(some 65), .mov (.t 73), none⟩]))))))
def f_strings_Join_L1 : C := .loop [1, 8, 63, 64, 65] f_strings_Join_B1
noncomputable def f_strings_Join_l1 (pg : Pg) (v1 v8 v63 v64 v65 : V) (H : List Obj) (lo : Nat) : Option (Ex × St) := exL pg f_strings_Join_L1 ⟨[(1, v1), (8, v8), (63, v63), (64, v64), (65, v65)], H, lo⟩
theorem f_strings_Join_l1_in {pg : Pg} {e : Env} {H : List Obj} {lo : Nat} : exL pg f_strings_Join_L1 ⟨e, H, lo⟩ = f_strings_Join_l1 pg (keepV (get 1 e)) (keepV (get 8 e)) (keepV (get 63 e)) (keepV (get 64 e)) (keepV (get 65 e)) H lo := loop_in
theorem f_strings_Join_l1_eq {pg : Pg} {v1 v8 v63 v64 v65 : V} {H : List Obj} {lo : Nat} : f_strings_Join_l1 pg v1 v8 v63 v64 v65 H lo = thenC pg (exL pg f_strings_Join_B1 ⟨[(1, keepV v1), (8, keepV v8), (63, keepV v63), (64, keepV v64), (65, keepV v65)], H, lo⟩) f_strings_Join_L1 := by
  unfold f_strings_Join_l1 f_strings_Join_L1; rw [exL_loop]; simp only [restrict_cons, restrict_nil, get_eq, get_ne, Nat.reduceEqDiff]
def f_strings_Join_R2 : C :=
  (.seq (.ops [⟨(some 74), .call (.f 33) [(.t 8)], none⟩,
    ⟨(some 4), .mov (.mv 74), none⟩])
  (.ret))
def f_strings_Join_R3 : C :=
  (.seq (.ops [⟨(some 8), .alloc false [.np, .nil], none⟩])
  ((.seq (.ops [⟨(some 56), .mov (.mv 5), none⟩,
    ⟨(some 57), .call (.f 31) [(.t 8), (.mv 56)], none⟩])
  ((.seq (.ops [⟨(some 58), .mov (.t 0), none⟩,
    ⟨(some 59), .indexAddr (.t 58) (.c (.i .i64 0)) 1 none, none⟩,
    ⟨(some 60), .load false none ⟨1, false⟩ (.t 59), none⟩,
    ⟨(some 61), .call (.f 32) [(.t 8), (.t 60)], none⟩])
  ((.seq ((.seq (.ops [⟨(some 62), .mov (.t 0), none⟩,
    ⟨(some 63), .sliceL 1 (.t 62) (some (.c (.i .i64 1))) none, none⟩,
    ⟨(some 64), .bi .lenL [(.t 63)], none⟩,
    ⟨(some 65), .mov (.c (.i .i64 0)), none⟩])
  ((.block 3 [8] (f_strings_Join_L1)))))
  (f_strings_Join_R2))))))))
def f_strings_Join : Fn := ⟨2, [(.t 4)], true,
  (.seq (.ops [⟨(some 4), .mov (.c (.s [])), none⟩])
  ((.seq ((.seq (.ops [⟨(some 11), .mov (.t 0), none⟩,
    ⟨(some 12), .bi .lenL [(.t 11)], none⟩])
  ((.block 0 [0, 1] ((.seq (.ops [⟨(some 14), .bin .eql .num (.t 12) (.c (.i .i64 0)), none⟩,
     ⟨(some 13), .mov (.t 14), none⟩])
   ((.cond (.t 13) ((.seq (.ops [⟨(some 4), .mov (.c (.s [])), none⟩])
    (.ret)))
    ((.seq (.ops [⟨(some 16), .bin .eql .num (.t 12) (.c (.i .i64 1)), none⟩,
      ⟨(some 15), .mov (.t 16), none⟩])
    ((.cond (.t 15) ((.seq (.ops [⟨(some 17), .mov (.t 0), none⟩,
       ⟨(some 18), .indexAddr (.t 17) (.c (.i .i64 0)) 1 none, none⟩,
       ⟨(some 19), .load false none ⟨1, false⟩ (.t 18), none⟩,
       ⟨(some 4), .mov (.t 19), none⟩])
     (.ret)))
     (.skip)))))))))))))
  ((.seq (.ops [⟨(some 5), .mov (.c (.i .i64 0)), none⟩])
  ((.seq ((.seq (.ops [⟨(some 20), .mov (.t 1), none⟩,
    ⟨(some 21), .bi .lenS [(.t 20)], none⟩,
    ⟨(some 22), .bin .gtr .num (.t 21) (.c (.i .i64 0)), none⟩])
  ((.cond (.t 22) ((.seq ((.seq (.ops [⟨(some 23), .mov (.t 1), none⟩,
     ⟨(some 24), .bi .lenS [(.t 23)], none⟩,
     ⟨(some 25), .mov (.t 0), none⟩,
     ⟨(some 26), .bi .lenL [(.t 25)], none⟩,
     ⟨(some 27), .bin .sub .num (.t 26) (.c (.i .i64 1)), none⟩,
     ⟨(some 28), .bin .quo .num (.c (.i .i64 9223372036854775807)) (.t 27), none⟩,
     ⟨(some 29), .bin .geq .num (.t 24) (.t 28), none⟩])
   ((.cond (.t 29) (.ops [⟨(some 30), .mkIfc 9 (.c (.s [115, 116, 114, 105, 110, 103, 115, 58, 32, 74, 111, 105, 110, 32, 111, 117, 116, 112, 117, 116, 32, 108, 101, 110, 103, 116, 104, 32, 111, 118, 101, 114, 102, 108, 111, 119])), none⟩,
      ⟨none, .panic (.t 30), none⟩])
    (.skip)))))
   (.ops [⟨(some 31), .mov (.t 5), none⟩,
     ⟨(some 32), .mov (.t 1), none⟩,
     ⟨(some 33), .bi .lenS [(.t 32)], none⟩,
     ⟨(some 34), .mov (.t 0), none⟩,
     ⟨(some 35), .bi .lenL [(.t 34)], none⟩,
     ⟨(some 36), .bin .sub .num (.t 35) (.c (.i .i64 1)), none⟩,
     ⟨(some 37), .bin .mul .num (.t 33) (.t 36), none⟩,
     ⟨(some 38), .bin .add .num (.t 31) (.t 37), none⟩,
     ⟨(some 5), .mov (.t 38), none⟩])))
   (.skip)))))
  ((.seq ((.seq (.ops [⟨(some 39), .mov (.t 0), none⟩,
    ⟨(some 40), .bi .lenL [(.t 39)], none⟩,
    ⟨(some 41), .mov (.c (.i .i64 0)), none⟩])
  ((.block 1 [0, 1, 5] (f_strings_Join_L0)))))
  (f_strings_Join_R3))))))))))⟩
def f_waferref5_dec : Fn := ⟨1, [(.t 2)], true,
  (.seq (.ops [⟨(some 2), .mov (.c (.s [])), none⟩])
  ((.seq ((.seq (.ops [⟨(some 3), .mov (.t 0), none⟩,
    ⟨(some 4), .bin .lss .num (.t 3) (.c (.i .i64 0)), none⟩])
  ((.cond (.t 4) ((.seq (.ops [⟨(some 5), .mov (.t 0), none⟩,
     ⟨(some 6), .un .neg (.t 5), none⟩,
     ⟨(some 7), .call (.f 23) [(.t 6)], none⟩,
     ⟨(some 8), .bin .add .num (.c (.s [45])) (.t 7), none⟩,
     ⟨(some 2), .mov (.t 8), none⟩])
   (.ret)))
   (.skip)))))
  ((.seq ((.seq (.ops [⟨(some 9), .mov (.t 0), none⟩,
    ⟨(some 10), .bin .lss .num (.t 9) (.c (.i .i64 10)), none⟩])
  ((.cond (.t 10) ((.seq (.ops [⟨(some 11), .mov (.t 0), none⟩,
     ⟨(some 12), .mov (.t 0), none⟩,
     ⟨(some 13), .bin .add .num (.t 12) (.c (.i .i64 1)), none⟩,
     ⟨(some 14), .sliceS (.c (.s [48, 49, 50, 51, 52, 53, 54, 55, 56, 57])) (some (.t 11)) (some (.t 13)), none⟩,
     ⟨(some 2), .mov (.t 14), none⟩])
   (.ret)))
   (.skip)))))
  ((.seq (.ops [⟨(some 15), .mov (.t 0), none⟩,
    ⟨(some 16), .bin .quo .num (.t 15) (.c (.i .i64 10)), none⟩,
    ⟨(some 17), .call (.f 23) [(.t 16)], none⟩,
    ⟨(some 18), .mov (.t 0), none⟩,
    ⟨(some 19), .bin .rem .num (.t 18) (.c (.i .i64 10)), none⟩,
    ⟨(some 20), .call (.f 23) [(.t 19)], none⟩,
    ⟨(some 21), .bin .add .num (.t 17) (.t 20), none⟩,
    ⟨(some 2), .mov (.t 21), none⟩])
  (.ret))))))))⟩
def f_waferref5_reg : Fn := ⟨1, [(.t 2)], true,
  (.seq (.ops [⟨(some 2), .mov (.c (.s [])), none⟩])
  ((.seq (.ops [⟨(some 3), .mov (.mv 0), none⟩,
    ⟨(some 4), .call (.f 23) [(.mv 3)], none⟩,
    ⟨(some 5), .bin .add .num (.c (.s [82])) (.t 4), none⟩,
    ⟨(some 2), .mov (.t 5), none⟩])
  (.ret))))⟩
def f_waferref5_in : Fn := ⟨3, [(.t 6)], true,
  (.seq (.ops [⟨(some 6), .mov (.c (.b false)), none⟩])
  ((.seq (.ops [⟨(some 7), .mov (.t 0), none⟩,
    ⟨(some 8), .mov (.t 1), none⟩,
    ⟨(some 9), .bin .geq .num (.t 7) (.t 8), none⟩,
    ⟨(some 10), .mov (.t 9), none⟩,
    ⟨(some 11), .mov (.t 0), some (10, true)⟩,
    ⟨(some 12), .mov (.t 2), some (10, true)⟩,
    ⟨(some 13), .bin .leq .num (.t 11) (.t 12), some (10, true)⟩,
    ⟨(some 14), .pick (.t 10) (.t 13) (.c (.b false)), none⟩,
    ⟨(some 6), .mov (.t 14), none⟩])
  (.ret))))⟩
def f_waferref5_bit : Fn := ⟨1, [(.t 2)], true,
  (.seq (.ops [⟨(some 2), .mov (.c (.i .u32 0)), none⟩])
  ((.seq ((.seq (.ops [⟨(some 3), .mov (.t 0), none⟩])
  ((.cond (.t 3) ((.seq (.ops [⟨(some 2), .mov (.c (.i .u32 1)), none⟩])
   (.ret)))
   (.skip)))))
  ((.seq (.ops [⟨(some 2), .mov (.c (.i .u32 0)), none⟩])
  (.ret))))))⟩
def f_risc_nibble : Fn := ⟨1, [(.t 2)], true,
  (.seq (.ops [⟨(some 2), .mov (.c (.b false)), none⟩])
  ((.seq (.ops [⟨(some 3), .mov (.t 0), none⟩,
    ⟨(some 4), .bin .geq .num (.t 3) (.c (.i .i64 0)), none⟩,
    ⟨(some 5), .mov (.t 4), none⟩,
    ⟨(some 6), .mov (.t 0), some (5, true)⟩,
    ⟨(some 7), .bin .lss .num (.t 6) (.c (.i .i64 16)), some (5, true)⟩,
    ⟨(some 8), .pick (.t 5) (.t 7) (.c (.b false)), none⟩,
    ⟨(some 2), .mov (.t 8), none⟩])
  (.ret))))⟩
def f_risc_signed : Fn := ⟨2, [(.t 4)], true,
  (.seq (.ops [⟨(some 4), .mov (.c (.b false)), none⟩])
  ((.seq (.ops [⟨(some 5), .mov (.t 0), none⟩,
    ⟨(some 6), .mov (.t 1), none⟩,
    ⟨(some 7), .bin .sub .num (.t 6) (.c (.i .u64 1)), none⟩,
    ⟨(some 8), .bin .shl .num (.c (.i .i32 (-1))) (.t 7), none⟩,
    ⟨(some 9), .bin .geq .num (.t 5) (.t 8), none⟩,
    ⟨(some 10), .mov (.t 9), none⟩,
    ⟨(some 11), .mov (.t 0), some (10, true)⟩,
    ⟨(some 12), .mov (.t 1), some (10, true)⟩,
    ⟨(some 13), .bin .sub .num (.t 12) (.c (.i .u64 1)), some (10, true)⟩,
    ⟨(some 14), .bin .shl .num (.c (.i .i32 1)) (.t 13), some (10, true)⟩,
    ⟨(some 15), .bin .lss .num (.t 11) (.t 14), some (10, true)⟩,
    ⟨(some 16), .pick (.t 10) (.t 15) (.c (.b false)), none⟩,
    ⟨(some 4), .mov (.t 16), none⟩])
  (.ret))))⟩
def f_internal_strconv_Itoa : Fn := ⟨1, [(.t 2)], true,
  (.seq (.ops [⟨(some 2), .mov (.c (.s [])), none⟩])
  ((.seq (.ops [⟨(some 3), .mov (.mv 0), none⟩,
    ⟨(some 4), .call (.f 34) [(.mv 3), (.c (.i .i64 10))], none⟩,
    ⟨(some 2), .mov (.mv 4), none⟩])
  (.ret))))⟩
def f_strings_Fields_B0 : C :=
  (.seq ((.seq (.ops [⟨(some 13), .mov (.t 6), none⟩,
    ⟨(some 14), .mov (.t 0), none⟩,
    ⟨(some 15), .bi .lenS [(.t 14)], none⟩,
    ⟨(some 16), .bin .lss .num (.t 13) (.t 15), none⟩])
  ((.cond (.t 16) (.skip)
   (.exit 0)))))
  ((.seq ((.block 1 [0, 3, 4, 5, 6] ((.seq (.ops [⟨(some 19), .mov (.t 0), none⟩,
     ⟨(some 20), .mov (.t 6), none⟩,
     ⟨(some 21), .index (.t 19) (.t 20), none⟩,
     ⟨(some 7), .mov (.t 21), none⟩])
   ((.seq (.ops [⟨(some 22), .mov (.t 5), none⟩,
     ⟨(some 23), .mov (.t 7), none⟩,
     ⟨(some 24), .bin .or .num (.t 22) (.t 23), none⟩,
     ⟨(some 5), .mov (.t 24), none⟩])
   ((.seq (.ops [⟨(some 25), .mov (.t 7), none⟩,
     ⟨(some 26), .indexAddr (.g 0 (glD 0)) (.t 25) 1 (some 256), none⟩,
     ⟨(some 27), .load false none ⟨1, false⟩ (.t 26), none⟩,
     ⟨(some 28), .conv .i64 (.t 27), none⟩,
     ⟨(some 8), .mov (.mv 28), none⟩])
   ((.seq (.ops [⟨(some 29), .mov (.t 3), none⟩,
     ⟨(some 30), .mov (.t 4), none⟩,
     ⟨(some 31), .mov (.t 8), none⟩,
     ⟨(some 32), .un .xor (.t 31), none⟩,
     ⟨(some 33), .bin .and .num (.t 30) (.t 32), none⟩,
     ⟨(some 34), .bin .add .num (.t 29) (.t 33), none⟩,
     ⟨(some 3), .mov (.t 34), none⟩])
   (.ops [⟨(some 35), .mov (.t 8), none⟩,
     ⟨(some 4), .mov (.t 35), none⟩])))))))))))
  (.ops [⟨(some 17), .mov (.t 6), none⟩,
    ⟨(some 18), .bin .add .num (.t 17) (.c (.i .i64 1)), none⟩,
    ⟨(some 6), .mov (.t 18), none⟩]))))
def f_strings_Fields_L0 : C := .loop [0, 3, 4, 5, 6] f_strings_Fields_B0
noncomputable def f_strings_Fields_l0 (pg : Pg) (v0 v3 v4 v5 v6 : V) (H : List Obj) (lo : Nat) : Option (Ex × St) := exL pg f_strings_Fields_L0 ⟨[(0, v0), (3, v3), (4, v4), (5, v5), (6, v6)], H, lo⟩
theorem f_strings_Fields_l0_in {pg : Pg} {e : Env} {H : List Obj} {lo : Nat} : exL pg f_strings_Fields_L0 ⟨e, H, lo⟩ = f_strings_Fields_l0 pg (keepV (get 0 e)) (keepV (get 3 e)) (keepV (get 4 e)) (keepV (get 5 e)) (keepV (get 6 e)) H lo := loop_in
theorem f_strings_Fields_l0_eq {pg : Pg} {v0 v3 v4 v5 v6 : V} {H : List Obj} {lo : Nat} : f_strings_Fields_l0 pg v0 v3 v4 v5 v6 H lo = thenC pg (exL pg f_strings_Fields_B0 ⟨[(0, keepV v0), (3, keepV v3), (4, keepV v4), (5, keepV v5), (6, keepV v6)], H, lo⟩) f_strings_Fields_L0 := by
  unfold f_strings_Fields_l0 f_strings_Fields_L0; rw [exL_loop]; simp only [restrict_cons, restrict_nil, get_eq, get_ne, Nat.reduceEqDiff]
def f_strings_Fields_B1 : C :=
  (.seq ((.seq (.ops [⟨(some 42), .mov (.t 12), none⟩,
    ⟨(some 43), .mov (.t 0), none⟩,
    ⟨(some 44), .bi .lenS [(.t 43)], none⟩,
    ⟨(some 45), .bin .lss .num (.t 42) (.t 44), none⟩,
    ⟨(some 46), .mov (.t 45), none⟩,
    ⟨(some 47), .mov (.t 0), some (46, true)⟩,
    ⟨(some 48), .mov (.t 12), some (46, true)⟩,
    ⟨(some 49), .index (.t 47) (.t 48), some (46, true)⟩,
    ⟨(some 50), .indexAddr (.g 0 (glD 0)) (.t 49) 1 (some 256), some (46, true)⟩,
    ⟨(some 51), .load false none ⟨1, false⟩ (.t 50), some (46, true)⟩,
    ⟨(some 52), .bin .neq .num (.t 51) (.c (.i .u8 0)), some (46, true)⟩,
    ⟨(some 53), .pick (.t 46) (.t 52) (.c (.b false)), none⟩])
  ((.cond (.t 53) (.skip)
   (.exit 2)))))
  ((.block 3 [0, 9, 10, 12] (.ops [⟨(some 54), .mov (.t 12), none⟩,
     ⟨(some 55), .bin .add .num (.t 54) (.c (.i .i64 1)), none⟩,
     ⟨(some 12), .mov (.t 55), none⟩]))))
def f_strings_Fields_L1 : C := .loop [0, 9, 10, 12] f_strings_Fields_B1
noncomputable def f_strings_Fields_l1 (pg : Pg) (v0 v9 v10 v12 : V) (H : List Obj) (lo : Nat) : Option (Ex × St) := exL pg f_strings_Fields_L1 ⟨[(0, v0), (9, v9), (10, v10), (12, v12)], H, lo⟩
theorem f_strings_Fields_l1_in {pg : Pg} {e : Env} {H : List Obj} {lo : Nat} : exL pg f_strings_Fields_L1 ⟨e, H, lo⟩ = f_strings_Fields_l1 pg (keepV (get 0 e)) (keepV (get 9 e)) (keepV (get 10 e)) (keepV (get 12 e)) H lo := loop_in
theorem f_strings_Fields_l1_eq {pg : Pg} {v0 v9 v10 v12 : V} {H : List Obj} {lo : Nat} : f_strings_Fields_l1 pg v0 v9 v10 v12 H lo = thenC pg (exL pg f_strings_Fields_B1 ⟨[(0, keepV v0), (9, keepV v9), (10, keepV v10), (12, keepV v12)], H, lo⟩) f_strings_Fields_L1 := by
  unfold f_strings_Fields_l1 f_strings_Fields_L1; rw [exL_loop]; simp only [restrict_cons, restrict_nil, get_eq, get_ne, Nat.reduceEqDiff]
def f_strings_Fields_B2 : C :=
  (.seq ((.seq (.ops [⟨(some 80), .mov (.t 12), none⟩,
    ⟨(some 81), .mov (.t 0), none⟩,
    ⟨(some 82), .bi .lenS [(.t 81)], none⟩,
    ⟨(some 83), .bin .lss .num (.t 80) (.t 82), none⟩,
    ⟨(some 84), .mov (.t 83), none⟩,
    ⟨(some 85), .mov (.t 0), some (84, true)⟩,
    ⟨(some 86), .mov (.t 12), some (84, true)⟩,
    ⟨(some 87), .index (.t 85) (.t 86), some (84, true)⟩,
    ⟨(some 88), .indexAddr (.g 0 (glD 0)) (.t 87) 1 (some 256), some (84, true)⟩,
    ⟨(some 89), .load false none ⟨1, false⟩ (.t 88), some (84, true)⟩,
    ⟨(some 90), .bin .neq .num (.t 89) (.c (.i .u8 0)), some (84, true)⟩,
    ⟨(some 91), .pick (.t 84) (.t 90) (.c (.b false)), none⟩])
  ((.cond (.t 91) (.skip)
   (.exit 6)))))
  ((.block 7 [0, 9, 10, 12] (.ops [⟨(some 92), .mov (.t 12), none⟩,
     ⟨(some 93), .bin .add .num (.t 92) (.c (.i .i64 1)), none⟩,
     ⟨(some 12), .mov (.t 93), none⟩]))))
def f_strings_Fields_L2 : C := .loop [0, 9, 10, 12] f_strings_Fields_B2
noncomputable def f_strings_Fields_l2 (pg : Pg) (v0 v9 v10 v12 : V) (H : List Obj) (lo : Nat) : Option (Ex × St) := exL pg f_strings_Fields_L2 ⟨[(0, v0), (9, v9), (10, v10), (12, v12)], H, lo⟩
theorem f_strings_Fields_l2_in {pg : Pg} {e : Env} {H : List Obj} {lo : Nat} : exL pg f_strings_Fields_L2 ⟨e, H, lo⟩ = f_strings_Fields_l2 pg (keepV (get 0 e)) (keepV (get 9 e)) (keepV (get 10 e)) (keepV (get 12 e)) H lo := loop_in
theorem f_strings_Fields_l2_eq {pg : Pg} {v0 v9 v10 v12 : V} {H : List Obj} {lo : Nat} : f_strings_Fields_l2 pg v0 v9 v10 v12 H lo = thenC pg (exL pg f_strings_Fields_B2 ⟨[(0, keepV v0), (9, keepV v9), (10, keepV v10), (12, keepV v12)], H, lo⟩) f_strings_Fields_L2 := by
  unfold f_strings_Fields_l2 f_strings_Fields_L2; rw [exL_loop]; simp only [restrict_cons, restrict_nil, get_eq, get_ne, Nat.reduceEqDiff]
def f_strings_Fields_R3 : C :=
  .ops [⟨(some 94), .mov (.t 12), none⟩,
     ⟨(some 11), .mov (.t 94), none⟩]
def f_strings_Fields_B4 : C :=
  (.seq ((.seq (.ops [⟨(some 57), .mov (.t 12), none⟩,
    ⟨(some 58), .mov (.t 0), none⟩,
    ⟨(some 59), .bi .lenS [(.t 58)], none⟩,
    ⟨(some 60), .bin .lss .num (.t 57) (.t 59), none⟩])
  ((.cond (.t 60) (.skip)
   (.exit 4)))))
  ((.block 5 [0, 9, 10, 11, 12] ((.seq ((.seq (.ops [⟨(some 61), .mov (.t 0), none⟩,
     ⟨(some 62), .mov (.t 12), none⟩,
     ⟨(some 63), .index (.t 61) (.t 62), none⟩,
     ⟨(some 64), .indexAddr (.g 0 (glD 0)) (.t 63) 1 (some 256), none⟩,
     ⟨(some 65), .load false none ⟨1, false⟩ (.t 64), none⟩,
     ⟨(some 66), .bin .eql .num (.t 65) (.c (.i .u8 0)), none⟩])
   ((.cond (.t 66) ((.seq (.ops [⟨(some 67), .mov (.t 12), none⟩,
      ⟨(some 68), .bin .add .num (.t 67) (.c (.i .i64 1)), none⟩,
      ⟨(some 12), .mov (.t 68), none⟩])
    (.exit 5)))
    (.skip)))))
   ((.seq (.ops [⟨(some 69), .mov (.t 9), none⟩,
     ⟨(some 70), .mov (.t 10), none⟩,
     ⟨(some 71), .mov (.t 0), none⟩,
     ⟨(some 72), .mov (.t 11), none⟩,
     ⟨(some 73), .mov (.t 12), none⟩,
     ⟨(some 74), .sliceS (.t 71) (some (.t 72)) (some (.t 73)), none⟩,
     ⟨(some 75), .indexAddr (.t 69) (.t 70) 1 none, none⟩,
     ⟨none, .store none ⟨1, false⟩ (.t 75) (.t 74), none⟩])
   ((.seq (.ops [⟨(some 76), .mov (.t 10), none⟩,
     ⟨(some 77), .bin .add .num (.t 76) (.c (.i .i64 1)), none⟩,
     ⟨(some 10), .mov (.t 77), none⟩])
   ((.seq (.ops [⟨(some 78), .mov (.t 12), none⟩,
     ⟨(some 79), .bin .add .num (.t 78) (.c (.i .i64 1)), none⟩,
     ⟨(some 12), .mov (.t 79), none⟩])
   ((.seq ((.block 6 [0, 9, 10, 12] (f_strings_Fields_L2)))
   (f_strings_Fields_R3))))))))))))))
def f_strings_Fields_L4 : C := .loop [0, 9, 10, 11, 12] f_strings_Fields_B4
noncomputable def f_strings_Fields_l4 (pg : Pg) (v0 v9 v10 v11 v12 : V) (H : List Obj) (lo : Nat) : Option (Ex × St) := exL pg f_strings_Fields_L4 ⟨[(0, v0), (9, v9), (10, v10), (11, v11), (12, v12)], H, lo⟩
theorem f_strings_Fields_l4_in {pg : Pg} {e : Env} {H : List Obj} {lo : Nat} : exL pg f_strings_Fields_L4 ⟨e, H, lo⟩ = f_strings_Fields_l4 pg (keepV (get 0 e)) (keepV (get 9 e)) (keepV (get 10 e)) (keepV (get 11 e)) (keepV (get 12 e)) H lo := loop_in
theorem f_strings_Fields_l4_eq {pg : Pg} {v0 v9 v10 v11 v12 : V} {H : List Obj} {lo : Nat} : f_strings_Fields_l4 pg v0 v9 v10 v11 v12 H lo = thenC pg (exL pg f_strings_Fields_B4 ⟨[(0, keepV v0), (9, keepV v9), (10, keepV v10), (11, keepV v11), (12, keepV v12)], H, lo⟩) f_strings_Fields_L4 := by
  unfold f_strings_Fields_l4 f_strings_Fields_L4; rw [exL_loop]; simp only [restrict_cons, restrict_nil, get_eq, get_ne, Nat.reduceEqDiff]
def f_strings_Fields_R5 : C :=
  (.seq ((.seq (.ops [⟨(some 95), .mov (.t 11), none⟩,
    ⟨(some 96), .mov (.t 0), none⟩,
    ⟨(some 97), .bi .lenS [(.t 96)], none⟩,
    ⟨(some 98), .bin .lss .num (.t 95) (.t 97), none⟩])
  ((.cond (.t 98) (.ops [⟨(some 99), .mov (.t 9), none⟩,
     ⟨(some 100), .mov (.t 10), none⟩,
     ⟨(some 101), .mov (.t 0), none⟩,
     ⟨(some 102), .mov (.t 11), none⟩,
     ⟨(some 103), .sliceS (.t 101) (some (.t 102)) none, none⟩,
     ⟨(some 104), .indexAddr (.t 99) (.t 100) 1 none, none⟩,
     ⟨none, .store none ⟨1, false⟩ (.t 104) (.t 103), none⟩])
   (.skip)))))
  ((.seq (.ops [⟨(some 105), .mov (.t 9), none⟩,
    ⟨(some 2), .mov (.t 105), none⟩])
  (.ret))))
def f_strings_Fields_R6 : C :=
  (.seq (.ops [⟨(some 56), .mov (.t 12), none⟩,
    ⟨(some 11), .mov (.t 56), none⟩])
  ((.seq ((.block 4 [0, 9, 10, 11] (f_strings_Fields_L4)))
  (f_strings_Fields_R5))))
def f_strings_Fields_R7 : C :=
  (.seq ((.seq (.ops [⟨(some 36), .mov (.t 5), none⟩,
    ⟨(some 37), .bin .geq .num (.t 36) (.c (.i .u8 128)), none⟩])
  ((.cond (.t 37) ((.seq (.ops [⟨(some 38), .mov (.mv 0), none⟩,
     ⟨(some 39), .call (.f 35) [(.mv 38), (.f 36)], none⟩,
     ⟨(some 2), .mov (.mv 39), none⟩])
   (.ret)))
   (.skip)))))
  ((.seq (.ops [⟨(some 40), .mov (.t 3), none⟩,
    ⟨(some 41), .mkSlice (.s []) (.t 40) (.t 40), none⟩,
    ⟨(some 9), .mov (.mv 41), none⟩])
  ((.seq (.ops [⟨(some 10), .mov (.c (.i .i64 0)), none⟩])
  ((.seq (.ops [⟨(some 11), .mov (.c (.i .i64 0)), none⟩])
  ((.seq (.ops [⟨(some 12), .mov (.c (.i .i64 0)), none⟩])
  ((.seq ((.block 2 [0, 9, 10, 12] (f_strings_Fields_L1)))
  (f_strings_Fields_R6))))))))))))
def f_strings_Fields : Fn := ⟨1, [(.t 2)], true,
  (.seq (.ops [⟨(some 2), .mov (.c .nil), none⟩])
  ((.seq (.ops [⟨(some 3), .mov (.c (.i .i64 0)), none⟩])
  ((.seq (.ops [⟨(some 4), .mov (.c (.i .i64 1)), none⟩])
  ((.seq (.ops [⟨(some 5), .mov (.c (.i .u8 0)), none⟩])
  ((.seq ((.seq (.ops [⟨(some 6), .mov (.c (.i .i64 0)), none⟩])
  ((.block 0 [0, 3, 5] (f_strings_Fields_L0)))))
  (f_strings_Fields_R7))))))))))⟩
def f_strings_Builder_Grow : Fn := ⟨2, [], false,
  (.seq (.ops [⟨(some 4), .mov (.t 0), none⟩,
    ⟨(some 5), .call (.f 37) [(.t 4)], none⟩])
  ((.seq ((.seq (.ops [⟨(some 6), .mov (.t 1), none⟩,
    ⟨(some 7), .bin .lss .num (.t 6) (.c (.i .i64 0)), none⟩])
  ((.cond (.t 7) (.ops [⟨(some 8), .mkIfc 9 (.c (.s [115, 116, 114, 105, 110, 103, 115, 46, 66, 117, 105, 108, 100, 101, 114, 46, 71, 114, 111, 119, 58, 32, 110, 101, 103, 97, 116, 105, 118, 101, 32, 99, 111, 117, 110, 116])), none⟩,
     ⟨none, .panic (.t 8), none⟩])
   (.skip)))))
  ((.seq (.opsD [(⟨(some 9), .mov (.t 0), none⟩, false, []),
    (⟨(some 10), .nilCheck (.t 9), none⟩, false, []),
    (⟨(some 11), .fieldAddr (.t 10) 1 ⟨1, false⟩, none⟩, false, []),
    (⟨(some 12), .load false none ⟨1, false⟩ (.t 11), none⟩, false, []),
    (⟨(some 13), .stuck, none⟩, false, []),
    (⟨(some 14), .mov (.t 0), none⟩, false, []),
    (⟨(some 15), .nilCheck (.t 14), none⟩, false, []),
    (⟨(some 16), .fieldAddr (.t 15) 1 ⟨1, false⟩, none⟩, false, []),
    (⟨(some 17), .load false none ⟨1, false⟩ (.t 16), none⟩, false, []),
    (⟨(some 18), .bi .lenL [(.t 17)], none⟩, false, []),
    (⟨(some 19), .bin .sub .num (.t 13) (.t 18), none⟩, false, []),
    (⟨(some 20), .mov (.t 1), none⟩, false, []),
    (⟨(some 21), .bin .lss .num (.t 19) (.t 20), none⟩, false, [])])
  ((.cond (.t 21) (.ops [⟨(some 22), .mov (.mv 0), none⟩,
     ⟨(some 23), .mov (.mv 1), none⟩,
     ⟨(some 24), .call (.f 38) [(.mv 22), (.mv 23)], none⟩])
   (.skip))))))))⟩
def f_strings_Builder_WriteString : Fn := ⟨2, [(.t 4), (.t 5)], false,
  (.seq (.ops [⟨(some 4), .mov (.c (.i .i64 0)), none⟩,
    ⟨(some 5), .mov (.c .ni), none⟩])
  ((.seq (.ops [⟨(some 6), .mov (.t 0), none⟩,
    ⟨(some 7), .call (.f 37) [(.t 6)], none⟩])
  ((.seq (.ops [⟨(some 8), .mov (.t 0), none⟩,
    ⟨(some 9), .mov (.t 0), none⟩,
    ⟨(some 10), .nilCheck (.t 9), none⟩,
    ⟨(some 11), .fieldAddr (.t 10) 1 ⟨1, false⟩, none⟩,
    ⟨(some 12), .load true none ⟨1, false⟩ (.t 11), none⟩,
    ⟨(some 13), .mov (.t 1), none⟩,
    ⟨(some 14), .bi (.append 1 1) [(.mv 12), (.t 13)], none⟩,
    ⟨(some 15), .nilCheck (.t 8), none⟩,
    ⟨(some 16), .fieldAddr (.t 15) 1 ⟨1, false⟩, none⟩,
    ⟨none, .store none ⟨1, false⟩ (.t 16) (.mv 14), none⟩])
  ((.seq (.ops [⟨(some 17), .mov (.t 1), none⟩,
    ⟨(some 18), .bi .lenS [(.t 17)], none⟩,
    ⟨(some 4), .mov (.t 18), none⟩,
    ⟨(some 5), .mov (.c .ni), none⟩])
  (.ret))))))))⟩
def f_strings_Builder_String : Fn := ⟨1, [(.t 2)], true,
  (.seq (.ops [⟨(some 2), .mov (.c (.s [])), none⟩])
  ((.seq (.opsD [(⟨(some 3), .mov (.t 0), none⟩, false, []),
    (⟨(some 4), .nilCheck (.t 3), none⟩, false, []),
    (⟨(some 5), .fieldAddr (.t 4) 1 ⟨1, false⟩, none⟩, false, []),
    (⟨(some 6), .load false none ⟨1, false⟩ (.t 5), none⟩, false, []),
    (⟨(some 7), .stuck, none⟩, false, []),
    (⟨(some 8), .mov (.t 0), none⟩, false, []),
    (⟨(some 9), .nilCheck (.t 8), none⟩, false, []),
    (⟨(some 10), .fieldAddr (.t 9) 1 ⟨1, false⟩, none⟩, false, []),
    (⟨(some 11), .load false none ⟨1, false⟩ (.t 10), none⟩, false, []),
    (⟨(some 12), .bi .lenL [(.t 11)], none⟩, false, []),
    (⟨(some 13), .stuck, none⟩, false, []),
    (⟨(some 2), .mov (.t 13), none⟩, false, [])])
  (.ret))))⟩
def f_internal_strconv_FormatInt : Fn := ⟨2, [(.t 4)], true,
  (.seq (.ops [⟨(some 4), .mov (.c (.s [])), none⟩])
  ((.seq ((.seq (.ops [⟨(some 10), .mov (.t 1), none⟩,
    ⟨(some 11), .bin .eql .num (.t 10) (.c (.i .i64 10)), none⟩])
  ((.cond (.t 11) ((.seq ((.seq (.ops [⟨(some 12), .mov (.t 0), none⟩,
     ⟨(some 13), .bin .leq .num (.c (.i .i64 0)) (.t 12), none⟩,
     ⟨(some 14), .mov (.t 13), none⟩,
     ⟨(some 15), .mov (.t 0), some (14, true)⟩,
     ⟨(some 16), .bin .lss .num (.t 15) (.c (.i .i64 100)), some (14, true)⟩,
     ⟨(some 17), .pick (.t 14) (.t 16) (.c (.b false)), none⟩])
   ((.cond (.t 17) ((.seq (.ops [⟨(some 18), .mov (.mv 0), none⟩,
      ⟨(some 19), .call (.f 39) [(.mv 18)], none⟩,
      ⟨(some 4), .mov (.mv 19), none⟩])
    (.ret)))
    (.skip)))))
   ((.seq (.ops [⟨(some 5), .alloc false [(.i .u8 0), (.i .u8 0), (.i .u8 0), (.i .u8 0), (.i .u8 0), (.i .u8 0), (.i .u8 0), (.i .u8 0), (.i .u8 0), (.i .u8 0), (.i .u8 0), (.i .u8 0), (.i .u8 0), (.i .u8 0), (.i .u8 0), (.i .u8 0), (.i .u8 0), (.i .u8 0), (.i .u8 0), (.i .u8 0), (.i .u8 0), (.i .u8 0), (.i .u8 0), (.i .u8 0)], none⟩])
   ((.seq (.ops [⟨(some 20), .mov (.t 0), none⟩,
     ⟨(some 21), .conv .u64 (.t 20), none⟩,
     ⟨(some 6), .mov (.mv 21), none⟩])
   ((.seq ((.seq (.ops [⟨(some 22), .mov (.t 0), none⟩,
     ⟨(some 23), .bin .lss .num (.t 22) (.c (.i .i64 0)), none⟩])
   ((.cond (.t 23) (.ops [⟨(some 24), .mov (.t 6), none⟩,
      ⟨(some 25), .un .neg (.t 24), none⟩,
      ⟨(some 6), .mov (.t 25), none⟩])
    (.skip)))))
   ((.seq (.ops [⟨(some 26), .mov (.t 6), none⟩,
     ⟨(some 27), .call (.f 40) [(.t 26)], none⟩,
     ⟨(some 7), .mov (.mv 27), none⟩])
   ((.seq (.ops [⟨(some 28), .mov (.t 7), none⟩,
     ⟨(some 29), .bin .add .num (.c (.i .i64 1)) (.t 28), none⟩,
     ⟨(some 30), .sliceA 24 (.t 5) (some (.c (.i .i64 1))) (some (.t 29)), none⟩,
     ⟨(some 31), .mov (.mv 6), none⟩,
     ⟨(some 32), .call (.f 41) [(.t 30), (.mv 31)], none⟩])
   ((.seq ((.seq (.ops [⟨(some 33), .mov (.t 0), none⟩,
     ⟨(some 34), .bin .lss .num (.t 33) (.c (.i .i64 0)), none⟩])
   ((.cond (.t 34) ((.seq (.ops [⟨(some 35), .indexAddr (.t 5) (.c (.i .i64 0)) 1 (some 24), none⟩,
      ⟨none, .store none ⟨1, false⟩ (.t 35) (.c (.i .u8 45)), none⟩])
    ((.seq (.ops [⟨(some 36), .mov (.t 7), none⟩,
      ⟨(some 37), .bin .add .num (.c (.i .i64 1)) (.t 36), none⟩,
      ⟨(some 38), .sliceA 24 (.t 5) none (some (.t 37)), none⟩,
      ⟨(some 39), .text (.t 38), none⟩,
      ⟨(some 4), .mov (.mv 39), none⟩])
    (.ret)))))
    (.skip)))))
   ((.seq (.ops [⟨(some 40), .mov (.t 7), none⟩,
     ⟨(some 41), .bin .add .num (.c (.i .i64 1)) (.t 40), none⟩,
     ⟨(some 42), .sliceA 24 (.t 5) (some (.c (.i .i64 1))) (some (.t 41)), none⟩,
     ⟨(some 43), .text (.t 42), none⟩,
     ⟨(some 4), .mov (.mv 43), none⟩])
   (.ret)))))))))))))))))
   (.skip)))))
  ((.seq (.ops [⟨(some 45), .mov (.t 0), none⟩,
    ⟨(some 46), .conv .u64 (.t 45), none⟩,
    ⟨(some 47), .mov (.mv 1), none⟩,
    ⟨(some 48), .mov (.t 0), none⟩,
    ⟨(some 49), .bin .lss .num (.t 48) (.c (.i .i64 0)), none⟩,
    ⟨(some 50), .call (.f 42) [(.c .nil), (.t 46), (.mv 47), (.t 49), (.c (.b false))], none⟩,
    ⟨(some 44), .mov (.t 50), none⟩,
    ⟨(some 51), .extract (.t 44) 0, none⟩,
    ⟨(some 52), .extract (.t 44) 1, none⟩,
    ⟨(some 8), .mov (.t 51), none⟩,
    ⟨(some 9), .mov (.t 52), none⟩])
  ((.seq (.ops [⟨(some 53), .mov (.t 9), none⟩,
    ⟨(some 4), .mov (.t 53), none⟩])
  (.ret))))))))⟩
def f_strings_FieldsFunc_B0 : C :=
  (.seq (.ops [⟨(some 15), .stuck, none⟩,
    ⟨(some 16), .extract (.t 15) 0, none⟩])
  ((.seq ((.cond (.t 16) (.skip)
   (.exit 0)))
  ((.block 1 [0, 1, 5, 6, 14] ((.seq (.ops [⟨(some 17), .extract (.t 15) 1, none⟩,
     ⟨(some 18), .extract (.t 15) 2, none⟩,
     ⟨(some 7), .mov (.t 17), none⟩,
     ⟨(some 8), .mov (.t 18), none⟩])
   ((.seq (.ops [⟨(some 19), .mov (.t 1), none⟩,
     ⟨(some 20), .mov (.mv 8), none⟩,
     ⟨(some 21), .call (.t 19) [(.mv 20)], none⟩])
   ((.cond (.t 21) ((.seq (.ops [⟨(some 22), .mov (.t 6), none⟩,
      ⟨(some 23), .bin .geq .num (.t 22) (.c (.i .i64 0)), none⟩])
    ((.cond (.t 23) ((.seq (.ops [⟨(some 24), .mov (.mv 5), none⟩,
       ⟨(some 25), .mov (.t 6), none⟩,
       ⟨(some 26), .mov (.t 7), none⟩,
       ⟨(some 27), .build [(.i .i64 0), (.i .i64 0)] [(0, 1, (.t 25)), (1, 1, (.t 26))], none⟩,
       ⟨(some 28), .buildSlice (.agg [(.i .i64 0), (.i .i64 0)]) 1 [(0, (.t 27))], none⟩,
       ⟨(some 29), .bi (.append 2 16) [(.mv 24), (.t 28)], none⟩,
       ⟨(some 5), .mov (.mv 29), none⟩])
     (.ops [⟨(some 30), .mov (.t 6), none⟩,
       ⟨(some 31), .un .xor (.t 30), none⟩,
       ⟨(some 6), .mov (.t 31), none⟩])))
     (.skip)))))
    ((.seq (.ops [⟨(some 32), .mov (.t 6), none⟩,
      ⟨(some 33), .bin .lss .num (.t 32) (.c (.i .i64 0)), none⟩])
    ((.cond (.t 33) (.ops [⟨(some 34), .mov (.t 7), none⟩,
       ⟨(some 6), .mov (.t 34), none⟩])
     (.skip))))))))))))))))
def f_strings_FieldsFunc_L0 : C := .loop [0, 1, 5, 6, 14] f_strings_FieldsFunc_B0
noncomputable def f_strings_FieldsFunc_l0 (pg : Pg) (v0 v1 v5 v6 v14 : V) (H : List Obj) (lo : Nat) : Option (Ex × St) := exL pg f_strings_FieldsFunc_L0 ⟨[(0, v0), (1, v1), (5, v5), (6, v6), (14, v14)], H, lo⟩
theorem f_strings_FieldsFunc_l0_in {pg : Pg} {e : Env} {H : List Obj} {lo : Nat} : exL pg f_strings_FieldsFunc_L0 ⟨e, H, lo⟩ = f_strings_FieldsFunc_l0 pg (keepV (get 0 e)) (keepV (get 1 e)) (keepV (get 5 e)) (keepV (get 6 e)) (keepV (get 14 e)) H lo := loop_in
theorem f_strings_FieldsFunc_l0_eq {pg : Pg} {v0 v1 v5 v6 v14 : V} {H : List Obj} {lo : Nat} : f_strings_FieldsFunc_l0 pg v0 v1 v5 v6 v14 H lo = thenC pg (exL pg f_strings_FieldsFunc_B0 ⟨[(0, keepV v0), (1, keepV v1), (5, keepV v5), (6, keepV v6), (14, keepV v14)], H, lo⟩) f_strings_FieldsFunc_L0 := by
  unfold f_strings_FieldsFunc_l0 f_strings_FieldsFunc_L0; rw [exL_loop]; simp only [restrict_cons, restrict_nil, get_eq, get_ne, Nat.reduceEqDiff]
def f_strings_FieldsFunc_B1 : C :=
  (.seq (.ops [⟨(some 50), .bin .lss .num (.t 49) (.t 48), none⟩])
  ((.seq ((.cond (.t 50) (.skip)
   (.exit 2)))
  ((.seq ((.block 3 [0, 9, 47, 48, 49] ((.seq (.ops [⟨(some 51), .mov (.t 49), none⟩,
     ⟨(some 52), .indexAddr (.t 47) (.t 49) 2 none, none⟩,
     ⟨(some 53), .load false none ⟨2, true⟩ (.t 52), none⟩,
     ⟨(some 11), .alloc true [(.i .i64 0), (.i .i64 0)], none⟩,
     ⟨(some 10), .mov (.t 51), none⟩,
     ⟨none, .store (some 11) ⟨2, true⟩ (.t 11) (.t 53), none⟩])
   (.ops [⟨(some 54), .mov (.t 9), none⟩,
     ⟨(some 55), .mov (.t 10), none⟩,
     ⟨(some 56), .mov (.t 0), none⟩,
     ⟨(some 57), .fieldAddr (.t 11) 0 ⟨1, false⟩, none⟩,
     ⟨(some 58), .load false (some 11) ⟨1, false⟩ (.t 57), none⟩,
     ⟨(some 59), .fieldAddr (.t 11) 1 ⟨1, false⟩, none⟩,
     ⟨(some 60), .load false (some 11) ⟨1, false⟩ (.t 59), none⟩,
     ⟨(some 61), .sliceS (.t 56) (some (.t 58)) (some (.t 60)), none⟩,
     ⟨(some 62), .indexAddr (.t 54) (.t 55) 1 none, none⟩,
     ⟨none, .store none ⟨1, false⟩ (.t 62) (.t 61), none⟩])))))
  (.ops [⟨(some 63), .bin .add .num (.t 49) (.c (.i .i64 1)), none⟩,
    ⟨(some 49), .mov (.t 63), none⟩]))))))
def f_strings_FieldsFunc_L1 : C := .loop [0, 9, 47, 48, 49] f_strings_FieldsFunc_B1
noncomputable def f_strings_FieldsFunc_l1 (pg : Pg) (v0 v9 v47 v48 v49 : V) (H : List Obj) (lo : Nat) : Option (Ex × St) := exL pg f_strings_FieldsFunc_L1 ⟨[(0, v0), (9, v9), (47, v47), (48, v48), (49, v49)], H, lo⟩
theorem f_strings_FieldsFunc_l1_in {pg : Pg} {e : Env} {H : List Obj} {lo : Nat} : exL pg f_strings_FieldsFunc_L1 ⟨e, H, lo⟩ = f_strings_FieldsFunc_l1 pg (keepV (get 0 e)) (keepV (get 9 e)) (keepV (get 47 e)) (keepV (get 48 e)) (keepV (get 49 e)) H lo := loop_in
theorem f_strings_FieldsFunc_l1_eq {pg : Pg} {v0 v9 v47 v48 v49 : V} {H : List Obj} {lo : Nat} : f_strings_FieldsFunc_l1 pg v0 v9 v47 v48 v49 H lo = thenC pg (exL pg f_strings_FieldsFunc_B1 ⟨[(0, keepV v0), (9, keepV v9), (47, keepV v47), (48, keepV v48), (49, keepV v49)], H, lo⟩) f_strings_FieldsFunc_L1 := by
  unfold f_strings_FieldsFunc_l1 f_strings_FieldsFunc_L1; rw [exL_loop]; simp only [restrict_cons, restrict_nil, get_eq, get_ne, Nat.reduceEqDiff]
def f_strings_FieldsFunc_R2 : C :=
  (.seq (.ops [⟨(some 64), .mov (.t 9), none⟩,
    ⟨(some 4), .mov (.t 64), none⟩])
  (.ret))
def f_strings_FieldsFunc_R3 : C :=
  (.seq ((.seq (.ops [⟨(some 35), .mov (.t 6), none⟩,
    ⟨(some 36), .bin .geq .num (.t 35) (.c (.i .i64 0)), none⟩])
  ((.cond (.t 36) (.ops [⟨(some 37), .mov (.mv 5), none⟩,
     ⟨(some 38), .mov (.t 6), none⟩,
     ⟨(some 39), .mov (.t 0), none⟩,
     ⟨(some 40), .bi .lenS [(.t 39)], none⟩,
     ⟨(some 41), .build [(.i .i64 0), (.i .i64 0)] [(0, 1, (.t 38)), (1, 1, (.t 40))], none⟩,
     ⟨(some 42), .buildSlice (.agg [(.i .i64 0), (.i .i64 0)]) 1 [(0, (.t 41))], none⟩,
     ⟨(some 43), .bi (.append 2 16) [(.mv 37), (.t 42)], none⟩,
     ⟨(some 5), .mov (.mv 43), none⟩])
   (.skip)))))
  ((.seq (.ops [⟨(some 44), .mov (.t 5), none⟩,
    ⟨(some 45), .bi .lenL [(.t 44)], none⟩,
    ⟨(some 46), .mkSlice (.s []) (.t 45) (.t 45), none⟩,
    ⟨(some 9), .mov (.mv 46), none⟩])
  ((.seq ((.seq (.ops [⟨(some 47), .mov (.t 5), none⟩,
    ⟨(some 48), .bi .lenL [(.t 47)], none⟩,
    ⟨(some 49), .mov (.c (.i .i64 0)), none⟩])
  ((.block 2 [9] (f_strings_FieldsFunc_L1)))))
  (f_strings_FieldsFunc_R2))))))
def f_strings_FieldsFunc : Fn := ⟨2, [(.t 4)], true,
  (.seq (.ops [⟨(some 4), .mov (.c .nil), none⟩])
  ((.seq (.ops [⟨(some 12), .stuck, none⟩,
    ⟨(some 5), .mov (.mv 12), none⟩])
  ((.seq (.ops [⟨(some 6), .mov (.c (.i .i64 (-1))), none⟩])
  ((.seq ((.seq (.ops [⟨(some 13), .mov (.t 0), none⟩,
    ⟨(some 14), .stuck, none⟩])
  ((.block 0 [0, 5, 6] (f_strings_FieldsFunc_L0)))))
  (f_strings_FieldsFunc_R3))))))))⟩
def f_unicode_IsSpace : Fn := ⟨1, [(.t 2)], true,
  (.seq (.ops [⟨(some 2), .mov (.c (.b false)), none⟩])
  ((.seq ((.seq (.ops [⟨(some 3), .mov (.t 0), none⟩,
    ⟨(some 4), .conv .u32 (.t 3), none⟩,
    ⟨(some 5), .bin .leq .num (.t 4) (.c (.i .u32 255)), none⟩])
  ((.cond (.t 5) ((.seq ((.seq (.ops [⟨(some 6), .mov (.t 0), none⟩])
   ((.block 0 [] ((.seq ((.seq (.ops [⟨(some 8), .bin .eql .num (.t 6) (.c (.i .i32 9)), none⟩,
      ⟨(some 7), .mov (.t 8), none⟩])
    ((.cond (.t 7) (.skip)
     ((.seq (.ops [⟨(some 9), .bin .eql .num (.t 6) (.c (.i .i32 10)), none⟩,
       ⟨(some 7), .mov (.t 9), none⟩])
     ((.cond (.t 7) (.skip)
      ((.seq (.ops [⟨(some 10), .bin .eql .num (.t 6) (.c (.i .i32 11)), none⟩,
        ⟨(some 7), .mov (.t 10), none⟩])
      ((.cond (.t 7) (.skip)
       ((.seq (.ops [⟨(some 11), .bin .eql .num (.t 6) (.c (.i .i32 12)), none⟩,
         ⟨(some 7), .mov (.t 11), none⟩])
       ((.cond (.t 7) (.skip)
        ((.seq (.ops [⟨(some 12), .bin .eql .num (.t 6) (.c (.i .i32 13)), none⟩,
          ⟨(some 7), .mov (.t 12), none⟩])
        ((.cond (.t 7) (.skip)
         ((.seq (.ops [⟨(some 13), .bin .eql .num (.t 6) (.c (.i .i32 32)), none⟩,
           ⟨(some 7), .mov (.t 13), none⟩])
         ((.cond (.t 7) (.skip)
          ((.seq (.ops [⟨(some 14), .bin .eql .num (.t 6) (.c (.i .i32 133)), none⟩,
            ⟨(some 7), .mov (.t 14), none⟩])
          ((.cond (.t 7) (.skip)
           (.ops [⟨(some 15), .bin .eql .num (.t 6) (.c (.i .i32 160)), none⟩,
             ⟨(some 7), .mov (.t 15), none⟩])))))))))))))))))))))))))))))
    ((.cond (.t 7) ((.seq (.ops [⟨(some 2), .mov (.c (.b true)), none⟩])
     (.ret)))
     (.skip)))))))))
   ((.seq (.ops [⟨(some 2), .mov (.c (.b false)), none⟩])
   (.ret)))))
   (.skip)))))
  ((.seq (.ops [⟨(some 16), .stuck, none⟩,
    ⟨(some 17), .mov (.mv 0), none⟩,
    ⟨(some 18), .call (.f 43) [(.t 16), (.mv 17)], none⟩,
    ⟨(some 2), .mov (.mv 18), none⟩])
  (.ret))))))⟩
def f_strings_Builder_copyCheck : Fn := ⟨1, [], false,
  (.seq (.ops [⟨(some 2), .mov (.t 0), none⟩,
    ⟨(some 3), .nilCheck (.t 2), none⟩,
    ⟨(some 4), .fieldAddr (.t 3) 0 ⟨1, false⟩, none⟩,
    ⟨(some 5), .load false none ⟨1, false⟩ (.t 4), none⟩,
    ⟨(some 6), .bin .eql .ptr (.t 5) (.c .np), none⟩])
  ((.cond (.t 6) (.ops [⟨(some 7), .mov (.t 0), none⟩,
     ⟨(some 8), .mov (.t 0), none⟩,
     ⟨(some 9), .stuck, none⟩,
     ⟨(some 10), .call (.f 44) [(.t 9)], none⟩,
     ⟨(some 11), .stuck, none⟩,
     ⟨(some 12), .nilCheck (.t 7), none⟩,
     ⟨(some 13), .fieldAddr (.t 12) 0 ⟨1, false⟩, none⟩,
     ⟨none, .store none ⟨1, false⟩ (.t 13) (.mv 11), none⟩])
   ((.seq (.ops [⟨(some 14), .mov (.t 0), none⟩,
     ⟨(some 15), .nilCheck (.t 14), none⟩,
     ⟨(some 16), .fieldAddr (.t 15) 0 ⟨1, false⟩, none⟩,
     ⟨(some 17), .load false none ⟨1, false⟩ (.t 16), none⟩,
     ⟨(some 18), .mov (.t 0), none⟩,
     ⟨(some 19), .bin .neq .ptr (.t 17) (.t 18), none⟩])
   ((.cond (.t 19) (.stuck)
    (.skip))))))))⟩
def f_strings_Builder_grow : Fn := ⟨2, [], false,
  (.seq (.opsD [(⟨(some 5), .mov (.t 0), none⟩, false, []),
    (⟨(some 6), .nilCheck (.t 5), none⟩, false, []),
    (⟨(some 7), .fieldAddr (.t 6) 1 ⟨1, false⟩, none⟩, false, []),
    (⟨(some 8), .load false none ⟨1, false⟩ (.t 7), none⟩, false, []),
    (⟨(some 9), .stuck, none⟩, false, []),
    (⟨(some 10), .bin .mul .num (.c (.i .i64 2)) (.t 9), none⟩, false, []),
    (⟨(some 11), .mov (.t 1), none⟩, false, []),
    (⟨(some 12), .bin .add .num (.t 10) (.t 11), none⟩, false, []),
    (⟨(some 13), .call (.f 45) [(.t 12)], none⟩, false, []),
    (⟨(some 14), .mov (.t 0), none⟩, false, []),
    (⟨(some 15), .nilCheck (.t 14), none⟩, false, []),
    (⟨(some 16), .fieldAddr (.t 15) 1 ⟨1, false⟩, none⟩, false, []),
    (⟨(some 17), .load false none ⟨1, false⟩ (.t 16), none⟩, false, []),
    (⟨(some 18), .bi .lenL [(.t 17)], none⟩, false, []),
    (⟨(some 19), .sliceL 1 (.t 13) none (some (.t 18)), none⟩, false, []),
    (⟨(some 4), .mov (.t 19), none⟩, false, [])])
  ((.seq (.ops [⟨(some 20), .mov (.t 4), none⟩,
    ⟨(some 21), .mov (.t 0), none⟩,
    ⟨(some 22), .nilCheck (.t 21), none⟩,
    ⟨(some 23), .fieldAddr (.t 22) 1 ⟨1, false⟩, none⟩,
    ⟨(some 24), .load false none ⟨1, false⟩ (.t 23), none⟩,
    ⟨(some 25), .stuck, none⟩])
  (.ops [⟨(some 26), .mov (.t 0), none⟩,
    ⟨(some 27), .mov (.t 4), none⟩,
    ⟨(some 28), .nilCheck (.t 26), none⟩,
    ⟨(some 29), .fieldAddr (.t 28) 1 ⟨1, false⟩, none⟩,
    ⟨none, .store none ⟨1, false⟩ (.t 29) (.t 27), none⟩]))))⟩
def f_internal_strconv_small : Fn := ⟨1, [(.t 2)], true,
  (.seq (.ops [⟨(some 2), .mov (.c (.s [])), none⟩])
  ((.seq ((.seq (.ops [⟨(some 3), .mov (.t 0), none⟩,
    ⟨(some 4), .bin .lss .num (.t 3) (.c (.i .i64 10)), none⟩])
  ((.cond (.t 4) ((.seq (.ops [⟨(some 5), .mov (.t 0), none⟩,
     ⟨(some 6), .mov (.t 0), none⟩,
     ⟨(some 7), .bin .add .num (.t 6) (.c (.i .i64 1)), none⟩,
     ⟨(some 8), .sliceS (.c (.s [48, 49, 50, 51, 52, 53, 54, 55, 56, 57, 97, 98, 99, 100, 101, 102, 103, 104, 105, 106, 107, 108, 109, 110, 111, 112, 113, 114, 115, 116, 117, 118, 119, 120, 121, 122])) (some (.t 5)) (some (.t 7)), none⟩,
     ⟨(some 2), .mov (.t 8), none⟩])
   (.ret)))
   (.skip)))))
  ((.seq (.ops [⟨(some 9), .mov (.t 0), none⟩,
    ⟨(some 10), .bin .mul .num (.t 9) (.c (.i .i64 2)), none⟩,
    ⟨(some 11), .mov (.t 0), none⟩,
    ⟨(some 12), .bin .mul .num (.t 11) (.c (.i .i64 2)), none⟩,
    ⟨(some 13), .bin .add .num (.t 12) (.c (.i .i64 2)), none⟩,
    ⟨(some 14), .sliceS (.c (.s [48, 48, 48, 49, 48, 50, 48, 51, 48, 52, 48, 53, 48, 54, 48, 55, 48, 56, 48, 57, 49, 48, 49, 49, 49, 50, 49, 51, 49, 52, 49, 53, 49, 54, 49, 55, 49, 56, 49, 57, 50, 48, 50, 49, 50, 50, 50, 51, 50, 52, 50, 53, 50, 54, 50, 55, 50, 56, 50, 57, 51, 48, 51, 49, 51, 50, 51, 51, 51, 52, 51, 53, 51, 54, 51, 55, 51, 56, 51, 57, 52, 48, 52, 49, 52, 50, 52, 51, 52, 52, 52, 53, 52, 54, 52, 55, 52, 56, 52, 57, 53, 48, 53, 49, 53, 50, 53, 51, 53, 52, 53, 53, 53, 54, 53, 55, 53, 56, 53, 57, 54, 48, 54, 49, 54, 50, 54, 51, 54, 52, 54, 53, 54, 54, 54, 55, 54, 56, 54, 57, 55, 48, 55, 49, 55, 50, 55, 51, 55, 52, 55, 53, 55, 54, 55, 55, 55, 56, 55, 57, 56, 48, 56, 49, 56, 50, 56, 51, 56, 52, 56, 53, 56, 54, 56, 55, 56, 56, 56, 57, 57, 48, 57, 49, 57, 50, 57, 51, 57, 52, 57, 53, 57, 54, 57, 55, 57, 56, 57, 57])) (some (.t 10)) (some (.t 13)), none⟩,
    ⟨(some 2), .mov (.t 14), none⟩])
  (.ret))))))⟩
def f_internal_strconv_numDigits : Fn := ⟨1, [(.t 2)], true,
  (.seq (.ops [⟨(some 2), .mov (.c (.i .i64 0)), none⟩])
  ((.seq (.ops [⟨(some 4), .mov (.t 0), none⟩,
    ⟨(some 5), .call (.f 47) [(.t 4)], none⟩,
    ⟨(some 6), .call (.f 46) [(.t 5)], none⟩,
    ⟨(some 3), .mov (.mv 6), none⟩])
  ((.seq (.ops [⟨(some 7), .mov (.t 3), none⟩,
    ⟨(some 8), .mov (.t 0), none⟩,
    ⟨(some 9), .mov (.t 3), none⟩,
    ⟨(some 10), .indexAddr (.g 2 (glD 2)) (.t 9) 1 (some 20), none⟩,
    ⟨(some 11), .load false none ⟨1, false⟩ (.t 10), none⟩,
    ⟨(some 12), .bin .geq .num (.t 8) (.t 11), none⟩,
    ⟨(some 13), .call (.f 48) [(.t 12)], none⟩,
    ⟨(some 14), .bin .add .num (.t 7) (.t 13), none⟩,
    ⟨(some 2), .mov (.t 14), none⟩])
  (.ret))))))⟩
def f_internal_strconv_formatBase10_B0 : C :=
  (.seq ((.seq (.ops [⟨(some 19), .mov (.t 4), none⟩,
    ⟨(some 20), .bin .geq .num (.t 19) (.c (.i .i64 8)), none⟩])
  ((.cond (.t 20) (.skip)
   (.exit 0)))))
  ((.block 1 [0, 1, 4] ((.seq (.ops [⟨(some 21), .mov (.t 1), none⟩,
     ⟨(some 22), .bin .rem .num (.t 21) (.c (.i .u64 100000000)), none⟩,
     ⟨(some 23), .conv .u32 (.t 22), none⟩,
     ⟨(some 5), .mov (.mv 23), none⟩])
   ((.seq (.ops [⟨(some 24), .mov (.t 1), none⟩,
     ⟨(some 25), .bin .quo .num (.t 24) (.c (.i .u64 100000000)), none⟩,
     ⟨(some 1), .mov (.t 25), none⟩])
   ((.seq (.ops [⟨(some 26), .mov (.t 5), none⟩,
     ⟨(some 27), .bin .quo .num (.t 26) (.c (.i .u32 10000)), none⟩,
     ⟨(some 28), .mov (.t 5), none⟩,
     ⟨(some 29), .bin .rem .num (.t 28) (.c (.i .u32 10000)), none⟩,
     ⟨(some 6), .mov (.t 27), none⟩,
     ⟨(some 7), .mov (.t 29), none⟩])
   ((.seq (.ops [⟨(some 30), .mov (.t 7), none⟩,
     ⟨(some 31), .bin .quo .num (.t 30) (.c (.i .u32 100)), none⟩,
     ⟨(some 32), .bin .mul .num (.t 31) (.c (.i .u32 2)), none⟩,
     ⟨(some 33), .mov (.t 7), none⟩,
     ⟨(some 34), .bin .rem .num (.t 33) (.c (.i .u32 100)), none⟩,
     ⟨(some 35), .bin .mul .num (.t 34) (.c (.i .u32 2)), none⟩,
     ⟨(some 8), .mov (.t 32), none⟩,
     ⟨(some 9), .mov (.t 35), none⟩])
   ((.seq (.ops [⟨(some 36), .mov (.t 6), none⟩,
     ⟨(some 37), .bin .quo .num (.t 36) (.c (.i .u32 100)), none⟩,
     ⟨(some 38), .bin .mul .num (.t 37) (.c (.i .u32 2)), none⟩,
     ⟨(some 39), .mov (.t 6), none⟩,
     ⟨(some 40), .bin .rem .num (.t 39) (.c (.i .u32 100)), none⟩,
     ⟨(some 41), .bin .mul .num (.t 40) (.c (.i .u32 2)), none⟩,
     ⟨(some 10), .mov (.t 38), none⟩,
     ⟨(some 11), .mov (.t 41), none⟩])
   ((.seq (.opsD [(⟨(some 42), .mov (.t 0), none⟩, false, []),
     (⟨(some 43), .mov (.t 4), none⟩, false, []),
     (⟨(some 44), .bin .sub .num (.t 43) (.c (.i .i64 1)), none⟩, false, []),
     (⟨(some 45), .mov (.t 0), none⟩, false, []),
     (⟨(some 46), .mov (.t 4), none⟩, false, []),
     (⟨(some 47), .bin .sub .num (.t 46) (.c (.i .i64 2)), none⟩, false, []),
     (⟨(some 48), .mov (.t 9), none⟩, false, []),
     (⟨(some 49), .bin .add .num (.t 48) (.c (.i .u32 1)), none⟩, false, []),
     (⟨(some 50), .index (.c (.s [48, 48, 48, 49, 48, 50, 48, 51, 48, 52, 48, 53, 48, 54, 48, 55, 48, 56, 48, 57, 49, 48, 49, 49, 49, 50, 49, 51, 49, 52, 49, 53, 49, 54, 49, 55, 49, 56, 49, 57, 50, 48, 50, 49, 50, 50, 50, 51, 50, 52, 50, 53, 50, 54, 50, 55, 50, 56, 50, 57, 51, 48, 51, 49, 51, 50, 51, 51, 51, 52, 51, 53, 51, 54, 51, 55, 51, 56, 51, 57, 52, 48, 52, 49, 52, 50, 52, 51, 52, 52, 52, 53, 52, 54, 52, 55, 52, 56, 52, 57, 53, 48, 53, 49, 53, 50, 53, 51, 53, 52, 53, 53, 53, 54, 53, 55, 53, 56, 53, 57, 54, 48, 54, 49, 54, 50, 54, 51, 54, 52, 54, 53, 54, 54, 54, 55, 54, 56, 54, 57, 55, 48, 55, 49, 55, 50, 55, 51, 55, 52, 55, 53, 55, 54, 55, 55, 55, 56, 55, 57, 56, 48, 56, 49, 56, 50, 56, 51, 56, 52, 56, 53, 56, 54, 56, 55, 56, 56, 56, 57, 57, 48, 57, 49, 57, 50, 57, 51, 57, 52, 57, 53, 57, 54, 57, 55, 57, 56, 57, 57])) (.t 49), none⟩, false, []),
     (⟨(some 51), .mov (.t 9), none⟩, false, []),
     (⟨(some 52), .index (.c (.s [48, 48, 48, 49, 48, 50, 48, 51, 48, 52, 48, 53, 48, 54, 48, 55, 48, 56, 48, 57, 49, 48, 49, 49, 49, 50, 49, 51, 49, 52, 49, 53, 49, 54, 49, 55, 49, 56, 49, 57, 50, 48, 50, 49, 50, 50, 50, 51, 50, 52, 50, 53, 50, 54, 50, 55, 50, 56, 50, 57, 51, 48, 51, 49, 51, 50, 51, 51, 51, 52, 51, 53, 51, 54, 51, 55, 51, 56, 51, 57, 52, 48, 52, 49, 52, 50, 52, 51, 52, 52, 52, 53, 52, 54, 52, 55, 52, 56, 52, 57, 53, 48, 53, 49, 53, 50, 53, 51, 53, 52, 53, 53, 53, 54, 53, 55, 53, 56, 53, 57, 54, 48, 54, 49, 54, 50, 54, 51, 54, 52, 54, 53, 54, 54, 54, 55, 54, 56, 54, 57, 55, 48, 55, 49, 55, 50, 55, 51, 55, 52, 55, 53, 55, 54, 55, 55, 55, 56, 55, 57, 56, 48, 56, 49, 56, 50, 56, 51, 56, 52, 56, 53, 56, 54, 56, 55, 56, 56, 56, 57, 57, 48, 57, 49, 57, 50, 57, 51, 57, 52, 57, 53, 57, 54, 57, 55, 57, 56, 57, 57])) (.t 51), none⟩, false, []),
     (⟨(some 53), .indexAddr (.t 42) (.t 44) 1 none, none⟩, false, []),
     (⟨none, .store none ⟨1, false⟩ (.t 53) (.t 50), none⟩, true, []),
     (⟨(some 54), .indexAddr (.t 45) (.t 47) 1 none, none⟩, false, []),
     (⟨none, .store none ⟨1, false⟩ (.t 54) (.t 52), none⟩, true, [])])
   ((.seq (.opsD [(⟨(some 55), .mov (.t 0), none⟩, false, []),
     (⟨(some 56), .mov (.t 4), none⟩, false, []),
     (⟨(some 57), .bin .sub .num (.t 56) (.c (.i .i64 3)), none⟩, false, []),
     (⟨(some 58), .mov (.t 0), none⟩, false, []),
     (⟨(some 59), .mov (.t 4), none⟩, false, []),
     (⟨(some 60), .bin .sub .num (.t 59) (.c (.i .i64 4)), none⟩, false, []),
     (⟨(some 61), .mov (.t 8), none⟩, false, []),
     (⟨(some 62), .bin .add .num (.t 61) (.c (.i .u32 1)), none⟩, false, []),
     (⟨(some 63), .index (.c (.s [48, 48, 48, 49, 48, 50, 48, 51, 48, 52, 48, 53, 48, 54, 48, 55, 48, 56, 48, 57, 49, 48, 49, 49, 49, 50, 49, 51, 49, 52, 49, 53, 49, 54, 49, 55, 49, 56, 49, 57, 50, 48, 50, 49, 50, 50, 50, 51, 50, 52, 50, 53, 50, 54, 50, 55, 50, 56, 50, 57, 51, 48, 51, 49, 51, 50, 51, 51, 51, 52, 51, 53, 51, 54, 51, 55, 51, 56, 51, 57, 52, 48, 52, 49, 52, 50, 52, 51, 52, 52, 52, 53, 52, 54, 52, 55, 52, 56, 52, 57, 53, 48, 53, 49, 53, 50, 53, 51, 53, 52, 53, 53, 53, 54, 53, 55, 53, 56, 53, 57, 54, 48, 54, 49, 54, 50, 54, 51, 54, 52, 54, 53, 54, 54, 54, 55, 54, 56, 54, 57, 55, 48, 55, 49, 55, 50, 55, 51, 55, 52, 55, 53, 55, 54, 55, 55, 55, 56, 55, 57, 56, 48, 56, 49, 56, 50, 56, 51, 56, 52, 56, 53, 56, 54, 56, 55, 56, 56, 56, 57, 57, 48, 57, 49, 57, 50, 57, 51, 57, 52, 57, 53, 57, 54, 57, 55, 57, 56, 57, 57])) (.t 62), none⟩, false, []),
     (⟨(some 64), .mov (.t 8), none⟩, false, []),
     (⟨(some 65), .index (.c (.s [48, 48, 48, 49, 48, 50, 48, 51, 48, 52, 48, 53, 48, 54, 48, 55, 48, 56, 48, 57, 49, 48, 49, 49, 49, 50, 49, 51, 49, 52, 49, 53, 49, 54, 49, 55, 49, 56, 49, 57, 50, 48, 50, 49, 50, 50, 50, 51, 50, 52, 50, 53, 50, 54, 50, 55, 50, 56, 50, 57, 51, 48, 51, 49, 51, 50, 51, 51, 51, 52, 51, 53, 51, 54, 51, 55, 51, 56, 51, 57, 52, 48, 52, 49, 52, 50, 52, 51, 52, 52, 52, 53, 52, 54, 52, 55, 52, 56, 52, 57, 53, 48, 53, 49, 53, 50, 53, 51, 53, 52, 53, 53, 53, 54, 53, 55, 53, 56, 53, 57, 54, 48, 54, 49, 54, 50, 54, 51, 54, 52, 54, 53, 54, 54, 54, 55, 54, 56, 54, 57, 55, 48, 55, 49, 55, 50, 55, 51, 55, 52, 55, 53, 55, 54, 55, 55, 55, 56, 55, 57, 56, 48, 56, 49, 56, 50, 56, 51, 56, 52, 56, 53, 56, 54, 56, 55, 56, 56, 56, 57, 57, 48, 57, 49, 57, 50, 57, 51, 57, 52, 57, 53, 57, 54, 57, 55, 57, 56, 57, 57])) (.t 64), none⟩, false, []),
     (⟨(some 66), .indexAddr (.t 55) (.t 57) 1 none, none⟩, false, []),
     (⟨none, .store none ⟨1, false⟩ (.t 66) (.t 63), none⟩, true, []),
     (⟨(some 67), .indexAddr (.t 58) (.t 60) 1 none, none⟩, false, []),
     (⟨none, .store none ⟨1, false⟩ (.t 67) (.t 65), none⟩, true, [])])
   ((.seq (.opsD [(⟨(some 68), .mov (.t 0), none⟩, false, []),
     (⟨(some 69), .mov (.t 4), none⟩, false, []),
     (⟨(some 70), .bin .sub .num (.t 69) (.c (.i .i64 5)), none⟩, false, []),
     (⟨(some 71), .mov (.t 0), none⟩, false, []),
     (⟨(some 72), .mov (.t 4), none⟩, false, []),
     (⟨(some 73), .bin .sub .num (.t 72) (.c (.i .i64 6)), none⟩, false, []),
     (⟨(some 74), .mov (.t 11), none⟩, false, []),
     (⟨(some 75), .bin .add .num (.t 74) (.c (.i .u32 1)), none⟩, false, []),
     (⟨(some 76), .index (.c (.s [48, 48, 48, 49, 48, 50, 48, 51, 48, 52, 48, 53, 48, 54, 48, 55, 48, 56, 48, 57, 49, 48, 49, 49, 49, 50, 49, 51, 49, 52, 49, 53, 49, 54, 49, 55, 49, 56, 49, 57, 50, 48, 50, 49, 50, 50, 50, 51, 50, 52, 50, 53, 50, 54, 50, 55, 50, 56, 50, 57, 51, 48, 51, 49, 51, 50, 51, 51, 51, 52, 51, 53, 51, 54, 51, 55, 51, 56, 51, 57, 52, 48, 52, 49, 52, 50, 52, 51, 52, 52, 52, 53, 52, 54, 52, 55, 52, 56, 52, 57, 53, 48, 53, 49, 53, 50, 53, 51, 53, 52, 53, 53, 53, 54, 53, 55, 53, 56, 53, 57, 54, 48, 54, 49, 54, 50, 54, 51, 54, 52, 54, 53, 54, 54, 54, 55, 54, 56, 54, 57, 55, 48, 55, 49, 55, 50, 55, 51, 55, 52, 55, 53, 55, 54, 55, 55, 55, 56, 55, 57, 56, 48, 56, 49, 56, 50, 56, 51, 56, 52, 56, 53, 56, 54, 56, 55, 56, 56, 56, 57, 57, 48, 57, 49, 57, 50, 57, 51, 57, 52, 57, 53, 57, 54, 57, 55, 57, 56, 57, 57])) (.t 75), none⟩, false, []),
     (⟨(some 77), .mov (.t 11), none⟩, false, []),
     (⟨(some 78), .index (.c (.s [48, 48, 48, 49, 48, 50, 48, 51, 48, 52, 48, 53, 48, 54, 48, 55, 48, 56, 48, 57, 49, 48, 49, 49, 49, 50, 49, 51, 49, 52, 49, 53, 49, 54, 49, 55, 49, 56, 49, 57, 50, 48, 50, 49, 50, 50, 50, 51, 50, 52, 50, 53, 50, 54, 50, 55, 50, 56, 50, 57, 51, 48, 51, 49, 51, 50, 51, 51, 51, 52, 51, 53, 51, 54, 51, 55, 51, 56, 51, 57, 52, 48, 52, 49, 52, 50, 52, 51, 52, 52, 52, 53, 52, 54, 52, 55, 52, 56, 52, 57, 53, 48, 53, 49, 53, 50, 53, 51, 53, 52, 53, 53, 53, 54, 53, 55, 53, 56, 53, 57, 54, 48, 54, 49, 54, 50, 54, 51, 54, 52, 54, 53, 54, 54, 54, 55, 54, 56, 54, 57, 55, 48, 55, 49, 55, 50, 55, 51, 55, 52, 55, 53, 55, 54, 55, 55, 55, 56, 55, 57, 56, 48, 56, 49, 56, 50, 56, 51, 56, 52, 56, 53, 56, 54, 56, 55, 56, 56, 56, 57, 57, 48, 57, 49, 57, 50, 57, 51, 57, 52, 57, 53, 57, 54, 57, 55, 57, 56, 57, 57])) (.t 77), none⟩, false, []),
     (⟨(some 79), .indexAddr (.t 68) (.t 70) 1 none, none⟩, false, []),
     (⟨none, .store none ⟨1, false⟩ (.t 79) (.t 76), none⟩, true, []),
     (⟨(some 80), .indexAddr (.t 71) (.t 73) 1 none, none⟩, false, []),
     (⟨none, .store none ⟨1, false⟩ (.t 80) (.t 78), none⟩, true, [])])
   ((.seq (.opsD [(⟨(some 81), .mov (.t 0), none⟩, false, []),
     (⟨(some 82), .mov (.t 4), none⟩, false, []),
     (⟨(some 83), .bin .sub .num (.t 82) (.c (.i .i64 7)), none⟩, false, []),
     (⟨(some 84), .mov (.t 0), none⟩, false, []),
     (⟨(some 85), .mov (.t 4), none⟩, false, []),
     (⟨(some 86), .bin .sub .num (.t 85) (.c (.i .i64 8)), none⟩, false, []),
     (⟨(some 87), .mov (.t 10), none⟩, false, []),
     (⟨(some 88), .bin .add .num (.t 87) (.c (.i .u32 1)), none⟩, false, []),
     (⟨(some 89), .index (.c (.s [48, 48, 48, 49, 48, 50, 48, 51, 48, 52, 48, 53, 48, 54, 48, 55, 48, 56, 48, 57, 49, 48, 49, 49, 49, 50, 49, 51, 49, 52, 49, 53, 49, 54, 49, 55, 49, 56, 49, 57, 50, 48, 50, 49, 50, 50, 50, 51, 50, 52, 50, 53, 50, 54, 50, 55, 50, 56, 50, 57, 51, 48, 51, 49, 51, 50, 51, 51, 51, 52, 51, 53, 51, 54, 51, 55, 51, 56, 51, 57, 52, 48, 52, 49, 52, 50, 52, 51, 52, 52, 52, 53, 52, 54, 52, 55, 52, 56, 52, 57, 53, 48, 53, 49, 53, 50, 53, 51, 53, 52, 53, 53, 53, 54, 53, 55, 53, 56, 53, 57, 54, 48, 54, 49, 54, 50, 54, 51, 54, 52, 54, 53, 54, 54, 54, 55, 54, 56, 54, 57, 55, 48, 55, 49, 55, 50, 55, 51, 55, 52, 55, 53, 55, 54, 55, 55, 55, 56, 55, 57, 56, 48, 56, 49, 56, 50, 56, 51, 56, 52, 56, 53, 56, 54, 56, 55, 56, 56, 56, 57, 57, 48, 57, 49, 57, 50, 57, 51, 57, 52, 57, 53, 57, 54, 57, 55, 57, 56, 57, 57])) (.t 88), none⟩, false, []),
     (⟨(some 90), .mov (.t 10), none⟩, false, []),
     (⟨(some 91), .index (.c (.s [48, 48, 48, 49, 48, 50, 48, 51, 48, 52, 48, 53, 48, 54, 48, 55, 48, 56, 48, 57, 49, 48, 49, 49, 49, 50, 49, 51, 49, 52, 49, 53, 49, 54, 49, 55, 49, 56, 49, 57, 50, 48, 50, 49, 50, 50, 50, 51, 50, 52, 50, 53, 50, 54, 50, 55, 50, 56, 50, 57, 51, 48, 51, 49, 51, 50, 51, 51, 51, 52, 51, 53, 51, 54, 51, 55, 51, 56, 51, 57, 52, 48, 52, 49, 52, 50, 52, 51, 52, 52, 52, 53, 52, 54, 52, 55, 52, 56, 52, 57, 53, 48, 53, 49, 53, 50, 53, 51, 53, 52, 53, 53, 53, 54, 53, 55, 53, 56, 53, 57, 54, 48, 54, 49, 54, 50, 54, 51, 54, 52, 54, 53, 54, 54, 54, 55, 54, 56, 54, 57, 55, 48, 55, 49, 55, 50, 55, 51, 55, 52, 55, 53, 55, 54, 55, 55, 55, 56, 55, 57, 56, 48, 56, 49, 56, 50, 56, 51, 56, 52, 56, 53, 56, 54, 56, 55, 56, 56, 56, 57, 57, 48, 57, 49, 57, 50, 57, 51, 57, 52, 57, 53, 57, 54, 57, 55, 57, 56, 57, 57])) (.t 90), none⟩, false, []),
     (⟨(some 92), .indexAddr (.t 81) (.t 83) 1 none, none⟩, false, []),
     (⟨none, .store none ⟨1, false⟩ (.t 92) (.t 89), none⟩, true, []),
     (⟨(some 93), .indexAddr (.t 84) (.t 86) 1 none, none⟩, false, []),
     (⟨none, .store none ⟨1, false⟩ (.t 93) (.t 91), none⟩, true, [])])
   (.ops [⟨(some 94), .mov (.t 4), none⟩,
     ⟨(some 95), .bin .sub .num (.t 94) (.c (.i .i64 8)), none⟩,
     ⟨(some 4), .mov (.t 95), none⟩]))))))))))))))))))))))
def f_internal_strconv_formatBase10_L0 : C := .loop [0, 1, 4] f_internal_strconv_formatBase10_B0
noncomputable def f_internal_strconv_formatBase10_l0 (pg : Pg) (v0 v1 v4 : V) (H : List Obj) (lo : Nat) : Option (Ex × St) := exL pg f_internal_strconv_formatBase10_L0 ⟨[(0, v0), (1, v1), (4, v4)], H, lo⟩
theorem f_internal_strconv_formatBase10_l0_in {pg : Pg} {e : Env} {H : List Obj} {lo : Nat} : exL pg f_internal_strconv_formatBase10_L0 ⟨e, H, lo⟩ = f_internal_strconv_formatBase10_l0 pg (keepV (get 0 e)) (keepV (get 1 e)) (keepV (get 4 e)) H lo := loop_in
theorem f_internal_strconv_formatBase10_l0_eq {pg : Pg} {v0 v1 v4 : V} {H : List Obj} {lo : Nat} : f_internal_strconv_formatBase10_l0 pg v0 v1 v4 H lo = thenC pg (exL pg f_internal_strconv_formatBase10_B0 ⟨[(0, keepV v0), (1, keepV v1), (4, keepV v4)], H, lo⟩) f_internal_strconv_formatBase10_L0 := by
  unfold f_internal_strconv_formatBase10_l0 f_internal_strconv_formatBase10_L0; rw [exL_loop]; simp only [restrict_cons, restrict_nil, get_eq, get_ne, Nat.reduceEqDiff]
def f_internal_strconv_formatBase10_R1 : C :=
  (.seq (.ops [⟨(some 96), .mov (.t 1), none⟩,
    ⟨(some 97), .conv .u32 (.t 96), none⟩,
    ⟨(some 12), .mov (.mv 97), none⟩])
  ((.seq ((.seq (.ops [⟨(some 98), .mov (.t 4), none⟩,
    ⟨(some 99), .bin .geq .num (.t 98) (.c (.i .i64 4)), none⟩])
  ((.cond (.t 99) ((.seq (.ops [⟨(some 100), .mov (.t 12), none⟩,
     ⟨(some 101), .bin .rem .num (.t 100) (.c (.i .u32 10000)), none⟩,
     ⟨(some 13), .mov (.t 101), none⟩])
   ((.seq (.ops [⟨(some 102), .mov (.t 12), none⟩,
     ⟨(some 103), .bin .quo .num (.t 102) (.c (.i .u32 10000)), none⟩,
     ⟨(some 12), .mov (.t 103), none⟩])
   ((.seq (.ops [⟨(some 104), .mov (.t 13), none⟩,
     ⟨(some 105), .bin .quo .num (.t 104) (.c (.i .u32 100)), none⟩,
     ⟨(some 106), .bin .mul .num (.t 105) (.c (.i .u32 2)), none⟩,
     ⟨(some 107), .mov (.t 13), none⟩,
     ⟨(some 108), .bin .rem .num (.t 107) (.c (.i .u32 100)), none⟩,
     ⟨(some 109), .bin .mul .num (.t 108) (.c (.i .u32 2)), none⟩,
     ⟨(some 14), .mov (.t 106), none⟩,
     ⟨(some 15), .mov (.t 109), none⟩])
   ((.seq (.opsD [(⟨(some 110), .mov (.t 0), none⟩, false, []),
     (⟨(some 111), .mov (.t 4), none⟩, false, []),
     (⟨(some 112), .bin .sub .num (.t 111) (.c (.i .i64 1)), none⟩, false, []),
     (⟨(some 113), .mov (.t 0), none⟩, false, []),
     (⟨(some 114), .mov (.t 4), none⟩, false, []),
     (⟨(some 115), .bin .sub .num (.t 114) (.c (.i .i64 2)), none⟩, false, []),
     (⟨(some 116), .mov (.t 15), none⟩, false, []),
     (⟨(some 117), .bin .add .num (.t 116) (.c (.i .u32 1)), none⟩, false, []),
     (⟨(some 118), .index (.c (.s [48, 48, 48, 49, 48, 50, 48, 51, 48, 52, 48, 53, 48, 54, 48, 55, 48, 56, 48, 57, 49, 48, 49, 49, 49, 50, 49, 51, 49, 52, 49, 53, 49, 54, 49, 55, 49, 56, 49, 57, 50, 48, 50, 49, 50, 50, 50, 51, 50, 52, 50, 53, 50, 54, 50, 55, 50, 56, 50, 57, 51, 48, 51, 49, 51, 50, 51, 51, 51, 52, 51, 53, 51, 54, 51, 55, 51, 56, 51, 57, 52, 48, 52, 49, 52, 50, 52, 51, 52, 52, 52, 53, 52, 54, 52, 55, 52, 56, 52, 57, 53, 48, 53, 49, 53, 50, 53, 51, 53, 52, 53, 53, 53, 54, 53, 55, 53, 56, 53, 57, 54, 48, 54, 49, 54, 50, 54, 51, 54, 52, 54, 53, 54, 54, 54, 55, 54, 56, 54, 57, 55, 48, 55, 49, 55, 50, 55, 51, 55, 52, 55, 53, 55, 54, 55, 55, 55, 56, 55, 57, 56, 48, 56, 49, 56, 50, 56, 51, 56, 52, 56, 53, 56, 54, 56, 55, 56, 56, 56, 57, 57, 48, 57, 49, 57, 50, 57, 51, 57, 52, 57, 53, 57, 54, 57, 55, 57, 56, 57, 57])) (.t 117), none⟩, false, []),
     (⟨(some 119), .mov (.t 15), none⟩, false, []),
     (⟨(some 120), .index (.c (.s [48, 48, 48, 49, 48, 50, 48, 51, 48, 52, 48, 53, 48, 54, 48, 55, 48, 56, 48, 57, 49, 48, 49, 49, 49, 50, 49, 51, 49, 52, 49, 53, 49, 54, 49, 55, 49, 56, 49, 57, 50, 48, 50, 49, 50, 50, 50, 51, 50, 52, 50, 53, 50, 54, 50, 55, 50, 56, 50, 57, 51, 48, 51, 49, 51, 50, 51, 51, 51, 52, 51, 53, 51, 54, 51, 55, 51, 56, 51, 57, 52, 48, 52, 49, 52, 50, 52, 51, 52, 52, 52, 53, 52, 54, 52, 55, 52, 56, 52, 57, 53, 48, 53, 49, 53, 50, 53, 51, 53, 52, 53, 53, 53, 54, 53, 55, 53, 56, 53, 57, 54, 48, 54, 49, 54, 50, 54, 51, 54, 52, 54, 53, 54, 54, 54, 55, 54, 56, 54, 57, 55, 48, 55, 49, 55, 50, 55, 51, 55, 52, 55, 53, 55, 54, 55, 55, 55, 56, 55, 57, 56, 48, 56, 49, 56, 50, 56, 51, 56, 52, 56, 53, 56, 54, 56, 55, 56, 56, 56, 57, 57, 48, 57, 49, 57, 50, 57, 51, 57, 52, 57, 53, 57, 54, 57, 55, 57, 56, 57, 57])) (.t 119), none⟩, false, []),
     (⟨(some 121), .indexAddr (.t 110) (.t 112) 1 none, none⟩, false, []),
     (⟨none, .store none ⟨1, false⟩ (.t 121) (.t 118), none⟩, true, []),
     (⟨(some 122), .indexAddr (.t 113) (.t 115) 1 none, none⟩, false, []),
     (⟨none, .store none ⟨1, false⟩ (.t 122) (.t 120), none⟩, true, [])])
   ((.seq (.opsD [(⟨(some 123), .mov (.t 0), none⟩, false, []),
     (⟨(some 124), .mov (.t 4), none⟩, false, []),
     (⟨(some 125), .bin .sub .num (.t 124) (.c (.i .i64 3)), none⟩, false, []),
     (⟨(some 126), .mov (.t 0), none⟩, false, []),
     (⟨(some 127), .mov (.t 4), none⟩, false, []),
     (⟨(some 128), .bin .sub .num (.t 127) (.c (.i .i64 4)), none⟩, false, []),
     (⟨(some 129), .mov (.t 14), none⟩, false, []),
     (⟨(some 130), .bin .add .num (.t 129) (.c (.i .u32 1)), none⟩, false, []),
     (⟨(some 131), .index (.c (.s [48, 48, 48, 49, 48, 50, 48, 51, 48, 52, 48, 53, 48, 54, 48, 55, 48, 56, 48, 57, 49, 48, 49, 49, 49, 50, 49, 51, 49, 52, 49, 53, 49, 54, 49, 55, 49, 56, 49, 57, 50, 48, 50, 49, 50, 50, 50, 51, 50, 52, 50, 53, 50, 54, 50, 55, 50, 56, 50, 57, 51, 48, 51, 49, 51, 50, 51, 51, 51, 52, 51, 53, 51, 54, 51, 55, 51, 56, 51, 57, 52, 48, 52, 49, 52, 50, 52, 51, 52, 52, 52, 53, 52, 54, 52, 55, 52, 56, 52, 57, 53, 48, 53, 49, 53, 50, 53, 51, 53, 52, 53, 53, 53, 54, 53, 55, 53, 56, 53, 57, 54, 48, 54, 49, 54, 50, 54, 51, 54, 52, 54, 53, 54, 54, 54, 55, 54, 56, 54, 57, 55, 48, 55, 49, 55, 50, 55, 51, 55, 52, 55, 53, 55, 54, 55, 55, 55, 56, 55, 57, 56, 48, 56, 49, 56, 50, 56, 51, 56, 52, 56, 53, 56, 54, 56, 55, 56, 56, 56, 57, 57, 48, 57, 49, 57, 50, 57, 51, 57, 52, 57, 53, 57, 54, 57, 55, 57, 56, 57, 57])) (.t 130), none⟩, false, []),
     (⟨(some 132), .mov (.t 14), none⟩, false, []),
     (⟨(some 133), .index (.c (.s [48, 48, 48, 49, 48, 50, 48, 51, 48, 52, 48, 53, 48, 54, 48, 55, 48, 56, 48, 57, 49, 48, 49, 49, 49, 50, 49, 51, 49, 52, 49, 53, 49, 54, 49, 55, 49, 56, 49, 57, 50, 48, 50, 49, 50, 50, 50, 51, 50, 52, 50, 53, 50, 54, 50, 55, 50, 56, 50, 57, 51, 48, 51, 49, 51, 50, 51, 51, 51, 52, 51, 53, 51, 54, 51, 55, 51, 56, 51, 57, 52, 48, 52, 49, 52, 50, 52, 51, 52, 52, 52, 53, 52, 54, 52, 55, 52, 56, 52, 57, 53, 48, 53, 49, 53, 50, 53, 51, 53, 52, 53, 53, 53, 54, 53, 55, 53, 56, 53, 57, 54, 48, 54, 49, 54, 50, 54, 51, 54, 52, 54, 53, 54, 54, 54, 55, 54, 56, 54, 57, 55, 48, 55, 49, 55, 50, 55, 51, 55, 52, 55, 53, 55, 54, 55, 55, 55, 56, 55, 57, 56, 48, 56, 49, 56, 50, 56, 51, 56, 52, 56, 53, 56, 54, 56, 55, 56, 56, 56, 57, 57, 48, 57, 49, 57, 50, 57, 51, 57, 52, 57, 53, 57, 54, 57, 55, 57, 56, 57, 57])) (.t 132), none⟩, false, []),
     (⟨(some 134), .indexAddr (.t 123) (.t 125) 1 none, none⟩, false, []),
     (⟨none, .store none ⟨1, false⟩ (.t 134) (.t 131), none⟩, true, []),
     (⟨(some 135), .indexAddr (.t 126) (.t 128) 1 none, none⟩, false, []),
     (⟨none, .store none ⟨1, false⟩ (.t 135) (.t 133), none⟩, true, [])])
   (.ops [⟨(some 136), .mov (.t 4), none⟩,
     ⟨(some 137), .bin .sub .num (.t 136) (.c (.i .i64 4)), none⟩,
     ⟨(some 4), .mov (.t 137), none⟩])))))))))))
   (.skip)))))
  ((.seq ((.seq (.ops [⟨(some 138), .mov (.t 4), none⟩,
    ⟨(some 139), .bin .geq .num (.t 138) (.c (.i .i64 2)), none⟩])
  ((.cond (.t 139) ((.seq (.ops [⟨(some 140), .mov (.t 12), none⟩,
     ⟨(some 141), .bin .rem .num (.t 140) (.c (.i .u32 100)), none⟩,
     ⟨(some 142), .bin .mul .num (.t 141) (.c (.i .u32 2)), none⟩,
     ⟨(some 16), .mov (.t 142), none⟩])
   ((.seq (.ops [⟨(some 143), .mov (.t 12), none⟩,
     ⟨(some 144), .bin .quo .num (.t 143) (.c (.i .u32 100)), none⟩,
     ⟨(some 12), .mov (.t 144), none⟩])
   ((.seq (.opsD [(⟨(some 145), .mov (.t 0), none⟩, false, []),
     (⟨(some 146), .mov (.t 4), none⟩, false, []),
     (⟨(some 147), .bin .sub .num (.t 146) (.c (.i .i64 1)), none⟩, false, []),
     (⟨(some 148), .mov (.t 0), none⟩, false, []),
     (⟨(some 149), .mov (.t 4), none⟩, false, []),
     (⟨(some 150), .bin .sub .num (.t 149) (.c (.i .i64 2)), none⟩, false, []),
     (⟨(some 151), .mov (.t 16), none⟩, false, []),
     (⟨(some 152), .bin .add .num (.t 151) (.c (.i .u32 1)), none⟩, false, []),
     (⟨(some 153), .index (.c (.s [48, 48, 48, 49, 48, 50, 48, 51, 48, 52, 48, 53, 48, 54, 48, 55, 48, 56, 48, 57, 49, 48, 49, 49, 49, 50, 49, 51, 49, 52, 49, 53, 49, 54, 49, 55, 49, 56, 49, 57, 50, 48, 50, 49, 50, 50, 50, 51, 50, 52, 50, 53, 50, 54, 50, 55, 50, 56, 50, 57, 51, 48, 51, 49, 51, 50, 51, 51, 51, 52, 51, 53, 51, 54, 51, 55, 51, 56, 51, 57, 52, 48, 52, 49, 52, 50, 52, 51, 52, 52, 52, 53, 52, 54, 52, 55, 52, 56, 52, 57, 53, 48, 53, 49, 53, 50, 53, 51, 53, 52, 53, 53, 53, 54, 53, 55, 53, 56, 53, 57, 54, 48, 54, 49, 54, 50, 54, 51, 54, 52, 54, 53, 54, 54, 54, 55, 54, 56, 54, 57, 55, 48, 55, 49, 55, 50, 55, 51, 55, 52, 55, 53, 55, 54, 55, 55, 55, 56, 55, 57, 56, 48, 56, 49, 56, 50, 56, 51, 56, 52, 56, 53, 56, 54, 56, 55, 56, 56, 56, 57, 57, 48, 57, 49, 57, 50, 57, 51, 57, 52, 57, 53, 57, 54, 57, 55, 57, 56, 57, 57])) (.t 152), none⟩, false, []),
     (⟨(some 154), .mov (.t 16), none⟩, false, []),
     (⟨(some 155), .index (.c (.s [48, 48, 48, 49, 48, 50, 48, 51, 48, 52, 48, 53, 48, 54, 48, 55, 48, 56, 48, 57, 49, 48, 49, 49, 49, 50, 49, 51, 49, 52, 49, 53, 49, 54, 49, 55, 49, 56, 49, 57, 50, 48, 50, 49, 50, 50, 50, 51, 50, 52, 50, 53, 50, 54, 50, 55, 50, 56, 50, 57, 51, 48, 51, 49, 51, 50, 51, 51, 51, 52, 51, 53, 51, 54, 51, 55, 51, 56, 51, 57, 52, 48, 52, 49, 52, 50, 52, 51, 52, 52, 52, 53, 52, 54, 52, 55, 52, 56, 52, 57, 53, 48, 53, 49, 53, 50, 53, 51, 53, 52, 53, 53, 53, 54, 53, 55, 53, 56, 53, 57, 54, 48, 54, 49, 54, 50, 54, 51, 54, 52, 54, 53, 54, 54, 54, 55, 54, 56, 54, 57, 55, 48, 55, 49, 55, 50, 55, 51, 55, 52, 55, 53, 55, 54, 55, 55, 55, 56, 55, 57, 56, 48, 56, 49, 56, 50, 56, 51, 56, 52, 56, 53, 56, 54, 56, 55, 56, 56, 56, 57, 57, 48, 57, 49, 57, 50, 57, 51, 57, 52, 57, 53, 57, 54, 57, 55, 57, 56, 57, 57])) (.t 154), none⟩, false, []),
     (⟨(some 156), .indexAddr (.t 145) (.t 147) 1 none, none⟩, false, []),
     (⟨none, .store none ⟨1, false⟩ (.t 156) (.t 153), none⟩, true, []),
     (⟨(some 157), .indexAddr (.t 148) (.t 150) 1 none, none⟩, false, []),
     (⟨none, .store none ⟨1, false⟩ (.t 157) (.t 155), none⟩, true, [])])
   (.ops [⟨(some 158), .mov (.t 4), none⟩,
     ⟨(some 159), .bin .sub .num (.t 158) (.c (.i .i64 2)), none⟩,
     ⟨(some 4), .mov (.t 159), none⟩])))))))
   (.skip)))))
  ((.seq (.ops [⟨(some 160), .mov (.t 4), none⟩,
    ⟨(some 161), .bin .gtr .num (.t 160) (.c (.i .i64 0)), none⟩])
  ((.cond (.t 161) (.ops [⟨(some 162), .mov (.t 0), none⟩,
     ⟨(some 163), .mov (.t 12), none⟩,
     ⟨(some 164), .bin .add .num (.c (.i .u32 48)) (.t 163), none⟩,
     ⟨(some 165), .conv .u8 (.t 164), none⟩,
     ⟨(some 166), .indexAddr (.t 162) (.c (.i .i64 0)) 1 none, none⟩,
     ⟨none, .store none ⟨1, false⟩ (.t 166) (.mv 165), none⟩])
   (.skip))))))))))
def f_internal_strconv_formatBase10 : Fn := ⟨2, [], false,
  (.seq (.ops [⟨(some 17), .mov (.t 0), none⟩,
    ⟨(some 18), .bi .lenL [(.t 17)], none⟩,
    ⟨(some 4), .mov (.t 18), none⟩])
  ((.seq ((.block 0 [0, 1, 4] (f_internal_strconv_formatBase10_L0)))
  (f_internal_strconv_formatBase10_R1))))⟩
def f_internal_strconv_formatBits_B0 : C :=
  (.seq ((.seq (.ops [⟨(some 44), .mov (.t 1), none⟩,
    ⟨(some 45), .mov (.t 15), none⟩,
    ⟨(some 46), .bin .geq .num (.t 44) (.t 45), none⟩])
  ((.cond (.t 46) (.skip)
   (.exit 0)))))
  ((.block 1 [0, 1, 3, 4, 10, 11, 12, 13, 14, 15, 16] ((.seq (.ops [⟨(some 47), .mov (.t 13), none⟩,
     ⟨(some 48), .bin .sub .num (.t 47) (.c (.i .i64 1)), none⟩,
     ⟨(some 13), .mov (.t 48), none⟩])
   ((.seq (.ops [⟨(some 49), .mov (.t 13), none⟩,
     ⟨(some 50), .mov (.t 1), none⟩,
     ⟨(some 51), .mov (.t 16), none⟩,
     ⟨(some 52), .bin .and .num (.t 50) (.t 51), none⟩,
     ⟨(some 53), .index (.c (.s [48, 49, 50, 51, 52, 53, 54, 55, 56, 57, 97, 98, 99, 100, 101, 102, 103, 104, 105, 106, 107, 108, 109, 110, 111, 112, 113, 114, 115, 116, 117, 118, 119, 120, 121, 122])) (.t 52), none⟩,
     ⟨(some 54), .indexAddr (.t 12) (.t 49) 1 (some 65), none⟩,
     ⟨none, .store none ⟨1, false⟩ (.t 54) (.t 53), none⟩])
   (.ops [⟨(some 55), .mov (.t 1), none⟩,
     ⟨(some 56), .mov (.t 14), none⟩,
     ⟨(some 57), .bin .shr .num (.t 55) (.t 56), none⟩,
     ⟨(some 1), .mov (.t 57), none⟩]))))))))
def f_internal_strconv_formatBits_L0 : C := .loop [0, 1, 3, 4, 10, 11, 12, 13, 14, 15, 16] f_internal_strconv_formatBits_B0
noncomputable def f_internal_strconv_formatBits_l0 (pg : Pg) (v0 v1 v3 v4 v10 v11 v12 v13 v14 v15 v16 : V) (H : List Obj) (lo : Nat) : Option (Ex × St) := exL pg f_internal_strconv_formatBits_L0 ⟨[(0, v0), (1, v1), (3, v3), (4, v4), (10, v10), (11, v11), (12, v12), (13, v13), (14, v14), (15, v15), (16, v16)], H, lo⟩
theorem f_internal_strconv_formatBits_l0_in {pg : Pg} {e : Env} {H : List Obj} {lo : Nat} : exL pg f_internal_strconv_formatBits_L0 ⟨e, H, lo⟩ = f_internal_strconv_formatBits_l0 pg (keepV (get 0 e)) (keepV (get 1 e)) (keepV (get 3 e)) (keepV (get 4 e)) (keepV (get 10 e)) (keepV (get 11 e)) (keepV (get 12 e)) (keepV (get 13 e)) (keepV (get 14 e)) (keepV (get 15 e)) (keepV (get 16 e)) H lo := loop_in
theorem f_internal_strconv_formatBits_l0_eq {pg : Pg} {v0 v1 v3 v4 v10 v11 v12 v13 v14 v15 v16 : V} {H : List Obj} {lo : Nat} : f_internal_strconv_formatBits_l0 pg v0 v1 v3 v4 v10 v11 v12 v13 v14 v15 v16 H lo = thenC pg (exL pg f_internal_strconv_formatBits_B0 ⟨[(0, keepV v0), (1, keepV v1), (3, keepV v3), (4, keepV v4), (10, keepV v10), (11, keepV v11), (12, keepV v12), (13, keepV v13), (14, keepV v14), (15, keepV v15), (16, keepV v16)], H, lo⟩) f_internal_strconv_formatBits_L0 := by
  unfold f_internal_strconv_formatBits_l0 f_internal_strconv_formatBits_L0; rw [exL_loop]; simp only [restrict_cons, restrict_nil, get_eq, get_ne, Nat.reduceEqDiff]
def f_internal_strconv_formatBits_R1 : C :=
  (.seq (.ops [⟨(some 58), .mov (.t 13), none⟩,
     ⟨(some 59), .bin .sub .num (.t 58) (.c (.i .i64 1)), none⟩,
     ⟨(some 13), .mov (.t 59), none⟩])
   (.ops [⟨(some 60), .mov (.t 13), none⟩,
     ⟨(some 61), .mov (.t 1), none⟩,
     ⟨(some 62), .index (.c (.s [48, 49, 50, 51, 52, 53, 54, 55, 56, 57, 97, 98, 99, 100, 101, 102, 103, 104, 105, 106, 107, 108, 109, 110, 111, 112, 113, 114, 115, 116, 117, 118, 119, 120, 121, 122])) (.t 61), none⟩,
     ⟨(some 63), .indexAddr (.t 12) (.t 60) 1 (some 65), none⟩,
     ⟨none, .store none ⟨1, false⟩ (.t 63) (.t 62), none⟩]))
def f_internal_strconv_formatBits_B2 : C :=
  (.seq ((.seq (.ops [⟨(some 66), .mov (.t 1), none⟩,
    ⟨(some 67), .mov (.t 17), none⟩,
    ⟨(some 68), .bin .geq .num (.t 66) (.t 67), none⟩])
  ((.cond (.t 68) (.skip)
   (.exit 2)))))
  ((.block 3 [0, 1, 3, 4, 10, 11, 12, 13, 17] ((.seq (.ops [⟨(some 69), .mov (.t 13), none⟩,
     ⟨(some 70), .bin .sub .num (.t 69) (.c (.i .i64 1)), none⟩,
     ⟨(some 13), .mov (.t 70), none⟩])
   ((.seq (.ops [⟨(some 71), .mov (.t 1), none⟩,
     ⟨(some 72), .mov (.t 17), none⟩,
     ⟨(some 73), .bin .quo .num (.t 71) (.t 72), none⟩,
     ⟨(some 18), .mov (.t 73), none⟩])
   ((.seq (.ops [⟨(some 74), .mov (.t 13), none⟩,
     ⟨(some 75), .mov (.t 1), none⟩,
     ⟨(some 76), .mov (.t 18), none⟩,
     ⟨(some 77), .mov (.t 17), none⟩,
     ⟨(some 78), .bin .mul .num (.t 76) (.t 77), none⟩,
     ⟨(some 79), .bin .sub .num (.t 75) (.t 78), none⟩,
     ⟨(some 80), .index (.c (.s [48, 49, 50, 51, 52, 53, 54, 55, 56, 57, 97, 98, 99, 100, 101, 102, 103, 104, 105, 106, 107, 108, 109, 110, 111, 112, 113, 114, 115, 116, 117, 118, 119, 120, 121, 122])) (.t 79), none⟩,
     ⟨(some 81), .indexAddr (.t 12) (.t 74) 1 (some 65), none⟩,
     ⟨none, .store none ⟨1, false⟩ (.t 81) (.t 80), none⟩])
   (.ops [⟨(some 82), .mov (.t 18), none⟩,
     ⟨(some 1), .mov (.t 82), none⟩]))))))))))
def f_internal_strconv_formatBits_L2 : C := .loop [0, 1, 3, 4, 10, 11, 12, 13, 17] f_internal_strconv_formatBits_B2
noncomputable def f_internal_strconv_formatBits_l2 (pg : Pg) (v0 v1 v3 v4 v10 v11 v12 v13 v17 : V) (H : List Obj) (lo : Nat) : Option (Ex × St) := exL pg f_internal_strconv_formatBits_L2 ⟨[(0, v0), (1, v1), (3, v3), (4, v4), (10, v10), (11, v11), (12, v12), (13, v13), (17, v17)], H, lo⟩
theorem f_internal_strconv_formatBits_l2_in {pg : Pg} {e : Env} {H : List Obj} {lo : Nat} : exL pg f_internal_strconv_formatBits_L2 ⟨e, H, lo⟩ = f_internal_strconv_formatBits_l2 pg (keepV (get 0 e)) (keepV (get 1 e)) (keepV (get 3 e)) (keepV (get 4 e)) (keepV (get 10 e)) (keepV (get 11 e)) (keepV (get 12 e)) (keepV (get 13 e)) (keepV (get 17 e)) H lo := loop_in
theorem f_internal_strconv_formatBits_l2_eq {pg : Pg} {v0 v1 v3 v4 v10 v11 v12 v13 v17 : V} {H : List Obj} {lo : Nat} : f_internal_strconv_formatBits_l2 pg v0 v1 v3 v4 v10 v11 v12 v13 v17 H lo = thenC pg (exL pg f_internal_strconv_formatBits_B2 ⟨[(0, keepV v0), (1, keepV v1), (3, keepV v3), (4, keepV v4), (10, keepV v10), (11, keepV v11), (12, keepV v12), (13, keepV v13), (17, keepV v17)], H, lo⟩) f_internal_strconv_formatBits_L2 := by
  unfold f_internal_strconv_formatBits_l2 f_internal_strconv_formatBits_L2; rw [exL_loop]; simp only [restrict_cons, restrict_nil, get_eq, get_ne, Nat.reduceEqDiff]
def f_internal_strconv_formatBits_R3 : C :=
  (.seq (.ops [⟨(some 83), .mov (.t 13), none⟩,
     ⟨(some 84), .bin .sub .num (.t 83) (.c (.i .i64 1)), none⟩,
     ⟨(some 13), .mov (.t 84), none⟩])
   (.ops [⟨(some 85), .mov (.t 13), none⟩,
     ⟨(some 86), .mov (.t 1), none⟩,
     ⟨(some 87), .index (.c (.s [48, 49, 50, 51, 52, 53, 54, 55, 56, 57, 97, 98, 99, 100, 101, 102, 103, 104, 105, 106, 107, 108, 109, 110, 111, 112, 113, 114, 115, 116, 117, 118, 119, 120, 121, 122])) (.t 86), none⟩,
     ⟨(some 88), .indexAddr (.t 12) (.t 85) 1 (some 65), none⟩,
     ⟨none, .store none ⟨1, false⟩ (.t 88) (.t 87), none⟩]))
def f_internal_strconv_formatBits_R4 : C :=
  (.seq ((.seq (.ops [⟨(some 89), .mov (.t 3), none⟩])
  ((.cond (.t 89) ((.seq (.ops [⟨(some 90), .mov (.t 13), none⟩,
     ⟨(some 91), .bin .sub .num (.t 90) (.c (.i .i64 1)), none⟩,
     ⟨(some 13), .mov (.t 91), none⟩])
   (.ops [⟨(some 92), .mov (.t 13), none⟩,
     ⟨(some 93), .indexAddr (.t 12) (.t 92) 1 (some 65), none⟩,
     ⟨none, .store none ⟨1, false⟩ (.t 93) (.c (.i .u8 45)), none⟩])))
   (.skip)))))
  ((.seq ((.seq (.ops [⟨(some 94), .mov (.t 4), none⟩])
  ((.cond (.t 94) ((.seq (.ops [⟨(some 95), .mov (.mv 0), none⟩,
     ⟨(some 96), .mov (.t 13), none⟩,
     ⟨(some 97), .sliceA 65 (.t 12) (some (.t 96)) none, none⟩,
     ⟨(some 98), .bi (.append 1 1) [(.mv 95), (.t 97)], none⟩,
     ⟨(some 10), .mov (.mv 98), none⟩])
   (.ret)))
   (.skip)))))
  ((.seq (.ops [⟨(some 99), .mov (.t 13), none⟩,
    ⟨(some 100), .sliceA 65 (.t 12) (some (.t 99)) none, none⟩,
    ⟨(some 101), .text (.t 100), none⟩,
    ⟨(some 11), .mov (.mv 101), none⟩])
  (.ret))))))
def f_internal_strconv_formatBits : Fn := ⟨5, [(.t 10), (.t 11)], false,
  (.seq (.ops [⟨(some 10), .mov (.c .nil), none⟩,
    ⟨(some 11), .mov (.c (.s [])), none⟩])
  ((.seq ((.seq (.ops [⟨(some 19), .mov (.t 2), none⟩,
    ⟨(some 20), .bin .lss .num (.t 19) (.c (.i .i64 2)), none⟩,
    ⟨(some 21), .mov (.t 20), none⟩,
    ⟨(some 22), .mov (.t 2), some (21, false)⟩,
    ⟨(some 23), .bin .eql .num (.t 22) (.c (.i .i64 10)), some (21, false)⟩,
    ⟨(some 24), .pick (.t 21) (.c (.b true)) (.t 23), none⟩,
    ⟨(some 25), .mov (.t 24), none⟩,
    ⟨(some 26), .mov (.t 2), some (25, false)⟩,
    ⟨(some 27), .bin .gtr .num (.t 26) (.c (.i .i64 36)), some (25, false)⟩,
    ⟨(some 28), .pick (.t 25) (.c (.b true)) (.t 27), none⟩])
  ((.cond (.t 28) (.ops [⟨(some 29), .mkIfc 9 (.c (.s [115, 116, 114, 99, 111, 110, 118, 58, 32, 105, 108, 108, 101, 103, 97, 108, 32, 65, 112, 112, 101, 110, 100, 73, 110, 116, 47, 70, 111, 114, 109, 97, 116, 73, 110, 116, 32, 98, 97, 115, 101])), none⟩,
     ⟨none, .panic (.t 29), none⟩])
   (.skip)))))
  ((.seq (.ops [⟨(some 12), .alloc false [(.i .u8 0), (.i .u8 0), (.i .u8 0), (.i .u8 0), (.i .u8 0), (.i .u8 0), (.i .u8 0), (.i .u8 0), (.i .u8 0), (.i .u8 0), (.i .u8 0), (.i .u8 0), (.i .u8 0), (.i .u8 0), (.i .u8 0), (.i .u8 0), (.i .u8 0), (.i .u8 0), (.i .u8 0), (.i .u8 0), (.i .u8 0), (.i .u8 0), (.i .u8 0), (.i .u8 0), (.i .u8 0), (.i .u8 0), (.i .u8 0), (.i .u8 0), (.i .u8 0), (.i .u8 0), (.i .u8 0), (.i .u8 0), (.i .u8 0), (.i .u8 0), (.i .u8 0), (.i .u8 0), (.i .u8 0), (.i .u8 0), (.i .u8 0), (.i .u8 0), (.i .u8 0), (.i .u8 0), (.i .u8 0), (.i .u8 0), (.i .u8 0), (.i .u8 0), (.i .u8 0), (.i .u8 0), (.i .u8 0), (.i .u8 0), (.i .u8 0), (.i .u8 0), (.i .u8 0), (.i .u8 0), (.i .u8 0), (.i .u8 0), (.i .u8 0), (.i .u8 0), (.i .u8 0), (.i .u8 0), (.i .u8 0), (.i .u8 0), (.i .u8 0), (.i .u8 0), (.i .u8 0)], none⟩])
  ((.seq (.ops [⟨(some 13), .mov (.c (.i .i64 65)), none⟩])
  ((.seq ((.seq (.ops [⟨(some 30), .mov (.t 3), none⟩])
  ((.cond (.t 30) (.ops [⟨(some 31), .mov (.t 1), none⟩,
     ⟨(some 32), .un .neg (.t 31), none⟩,
     ⟨(some 1), .mov (.t 32), none⟩])
   (.skip)))))
  ((.seq ((.seq (.ops [⟨(some 33), .mov (.t 2), none⟩,
    ⟨(some 34), .call (.f 49) [(.t 33)], none⟩])
  ((.cond (.t 34) ((.seq (.ops [⟨(some 35), .mov (.t 2), none⟩,
     ⟨(some 36), .conv .u64 (.t 35), none⟩,
     ⟨(some 37), .call (.f 50) [(.t 36)], none⟩,
     ⟨(some 38), .conv .u64 (.t 37), none⟩,
     ⟨(some 14), .mov (.mv 38), none⟩])
   ((.seq (.ops [⟨(some 39), .mov (.t 2), none⟩,
     ⟨(some 40), .conv .u64 (.t 39), none⟩,
     ⟨(some 15), .mov (.mv 40), none⟩])
   ((.seq (.ops [⟨(some 41), .mov (.t 2), none⟩,
     ⟨(some 42), .conv .u64 (.t 41), none⟩,
     ⟨(some 43), .bin .sub .num (.t 42) (.c (.i .u64 1)), none⟩,
     ⟨(some 16), .mov (.t 43), none⟩])
   ((.seq ((.block 0 [0, 1, 3, 4, 10, 11, 12, 13] (f_internal_strconv_formatBits_L0)))
   (f_internal_strconv_formatBits_R1)))))))))
   ((.seq (.ops [⟨(some 64), .mov (.t 2), none⟩,
     ⟨(some 65), .conv .u64 (.t 64), none⟩,
     ⟨(some 17), .mov (.mv 65), none⟩])
   ((.seq ((.block 2 [0, 1, 3, 4, 10, 11, 12, 13] (f_internal_strconv_formatBits_L2)))
   (f_internal_strconv_formatBits_R3)))))))))
  (f_internal_strconv_formatBits_R4))))))))))))⟩
def f_unicode_isExcludingLatin : Fn := ⟨2, [(.t 4)], true,
  (.seq (.ops [⟨(some 4), .mov (.c (.b false)), none⟩])
  ((.seq (.ops [⟨(some 8), .mov (.t 0), none⟩,
    ⟨(some 9), .nilCheck (.t 8), none⟩,
    ⟨(some 10), .fieldAddr (.t 9) 0 ⟨1, false⟩, none⟩,
    ⟨(some 11), .load false none ⟨1, false⟩ (.t 10), none⟩,
    ⟨(some 5), .mov (.t 11), none⟩])
  ((.seq ((.seq (.ops [⟨(some 12), .mov (.t 0), none⟩,
    ⟨(some 13), .nilCheck (.t 12), none⟩,
    ⟨(some 14), .fieldAddr (.t 13) 2 ⟨1, false⟩, none⟩,
    ⟨(some 15), .load false none ⟨1, false⟩ (.t 14), none⟩,
    ⟨(some 6), .mov (.t 15), none⟩])
  ((.seq (.ops [⟨(some 16), .mov (.t 5), none⟩,
    ⟨(some 17), .bi .lenL [(.t 16)], none⟩,
    ⟨(some 18), .mov (.t 6), none⟩,
    ⟨(some 19), .bin .gtr .num (.t 17) (.t 18), none⟩,
    ⟨(some 20), .mov (.t 19), none⟩,
    ⟨(some 21), .mov (.t 1), some (20, true)⟩,
    ⟨(some 22), .conv .u32 (.t 21), some (20, true)⟩,
    ⟨(some 23), .mov (.t 5), some (20, true)⟩,
    ⟨(some 24), .mov (.t 5), some (20, true)⟩,
    ⟨(some 25), .bi .lenL [(.t 24)], some (20, true)⟩,
    ⟨(some 26), .bin .sub .num (.t 25) (.c (.i .i64 1)), some (20, true)⟩,
    ⟨(some 27), .indexAddr (.t 23) (.t 26) 3 none, some (20, true)⟩,
    ⟨(some 28), .fieldAddr (.t 27) 1 ⟨1, false⟩, some (20, true)⟩,
    ⟨(some 29), .load false none ⟨1, false⟩ (.t 28), some (20, true)⟩,
    ⟨(some 30), .conv .u32 (.t 29), some (20, true)⟩,
    ⟨(some 31), .bin .leq .num (.t 22) (.t 30), some (20, true)⟩,
    ⟨(some 32), .pick (.t 20) (.t 31) (.c (.b false)), none⟩])
  ((.cond (.t 32) ((.seq (.ops [⟨(some 33), .mov (.t 5), none⟩,
     ⟨(some 34), .mov (.t 6), none⟩,
     ⟨(some 35), .sliceL 3 (.t 33) (some (.t 34)) none, none⟩,
     ⟨(some 36), .mov (.t 1), none⟩,
     ⟨(some 37), .conv .u16 (.t 36), none⟩,
     ⟨(some 38), .call (.f 51) [(.t 35), (.t 37)], none⟩,
     ⟨(some 4), .mov (.mv 38), none⟩])
   (.ret)))
   (.skip)))))))
  ((.seq (.ops [⟨(some 39), .mov (.t 0), none⟩,
    ⟨(some 40), .nilCheck (.t 39), none⟩,
    ⟨(some 41), .fieldAddr (.t 40) 1 ⟨1, false⟩, none⟩,
    ⟨(some 42), .load false none ⟨1, false⟩ (.t 41), none⟩,
    ⟨(some 7), .mov (.t 42), none⟩])
  ((.seq ((.seq (.ops [⟨(some 43), .mov (.t 7), none⟩,
    ⟨(some 44), .bi .lenL [(.t 43)], none⟩,
    ⟨(some 45), .bin .gtr .num (.t 44) (.c (.i .i64 0)), none⟩,
    ⟨(some 46), .mov (.t 45), none⟩,
    ⟨(some 47), .mov (.t 1), some (46, true)⟩,
    ⟨(some 48), .mov (.t 7), some (46, true)⟩,
    ⟨(some 49), .indexAddr (.t 48) (.c (.i .i64 0)) 3 none, some (46, true)⟩,
    ⟨(some 50), .fieldAddr (.t 49) 0 ⟨1, false⟩, some (46, true)⟩,
    ⟨(some 51), .load false none ⟨1, false⟩ (.t 50), some (46, true)⟩,
    ⟨(some 52), .conv .i32 (.t 51), some (46, true)⟩,
    ⟨(some 53), .bin .geq .num (.t 47) (.t 52), some (46, true)⟩,
    ⟨(some 54), .pick (.t 46) (.t 53) (.c (.b false)), none⟩])
  ((.cond (.t 54) ((.seq (.ops [⟨(some 55), .mov (.mv 7), none⟩,
     ⟨(some 56), .mov (.t 1), none⟩,
     ⟨(some 57), .conv .u32 (.t 56), none⟩,
     ⟨(some 58), .call (.f 52) [(.mv 55), (.t 57)], none⟩,
     ⟨(some 4), .mov (.mv 58), none⟩])
   (.ret)))
   (.skip)))))
  ((.seq (.ops [⟨(some 4), .mov (.c (.b false)), none⟩])
  (.ret))))))))))))⟩
def f_internal_strconv_log10Pow2 : Fn := ⟨1, [(.t 2)], true,
  (.seq (.ops [⟨(some 2), .mov (.c (.i .i64 0)), none⟩])
  ((.seq (.ops [⟨(some 3), .mov (.t 0), none⟩,
    ⟨(some 4), .bin .mul .num (.t 3) (.c (.i .i64 78913)), none⟩,
    ⟨(some 5), .bin .shr .num (.t 4) (.c (.i .u64 18)), none⟩,
    ⟨(some 2), .mov (.t 5), none⟩])
  (.ret))))⟩
def f_math_bits_Len64 : Fn := ⟨1, [(.t 2)], true,
  (.seq (.ops [⟨(some 2), .mov (.c (.i .i64 0)), none⟩])
  ((.seq ((.seq (.ops [⟨(some 3), .mov (.t 0), none⟩,
    ⟨(some 4), .bin .geq .num (.t 3) (.c (.i .u64 4294967296)), none⟩])
  ((.cond (.t 4) ((.seq (.ops [⟨(some 5), .mov (.t 0), none⟩,
     ⟨(some 6), .bin .shr .num (.t 5) (.c (.i .u64 32)), none⟩,
     ⟨(some 0), .mov (.t 6), none⟩])
   (.ops [⟨(some 2), .mov (.c (.i .i64 32)), none⟩])))
   (.skip)))))
  ((.seq ((.seq (.ops [⟨(some 7), .mov (.t 0), none⟩,
    ⟨(some 8), .bin .geq .num (.t 7) (.c (.i .u64 65536)), none⟩])
  ((.cond (.t 8) ((.seq (.ops [⟨(some 9), .mov (.t 0), none⟩,
     ⟨(some 10), .bin .shr .num (.t 9) (.c (.i .u64 16)), none⟩,
     ⟨(some 0), .mov (.t 10), none⟩])
   (.ops [⟨(some 11), .mov (.t 2), none⟩,
     ⟨(some 12), .bin .add .num (.t 11) (.c (.i .i64 16)), none⟩,
     ⟨(some 2), .mov (.t 12), none⟩])))
   (.skip)))))
  ((.seq ((.seq (.ops [⟨(some 13), .mov (.t 0), none⟩,
    ⟨(some 14), .bin .geq .num (.t 13) (.c (.i .u64 256)), none⟩])
  ((.cond (.t 14) ((.seq (.ops [⟨(some 15), .mov (.t 0), none⟩,
     ⟨(some 16), .bin .shr .num (.t 15) (.c (.i .u64 8)), none⟩,
     ⟨(some 0), .mov (.t 16), none⟩])
   (.ops [⟨(some 17), .mov (.t 2), none⟩,
     ⟨(some 18), .bin .add .num (.t 17) (.c (.i .i64 8)), none⟩,
     ⟨(some 2), .mov (.t 18), none⟩])))
   (.skip)))))
  ((.seq (.ops [⟨(some 19), .mov (.t 2), none⟩,
    ⟨(some 20), .mov (.t 0), none⟩,
    ⟨(some 21), .conv .u8 (.t 20), none⟩,
    ⟨(some 22), .index (.c (.s [0, 1, 2, 2, 3, 3, 3, 3, 4, 4, 4, 4, 4, 4, 4, 4, 5, 5, 5, 5, 5, 5, 5, 5, 5, 5, 5, 5, 5, 5, 5, 5, 6, 6, 6, 6, 6, 6, 6, 6, 6, 6, 6, 6, 6, 6, 6, 6, 6, 6, 6, 6, 6, 6, 6, 6, 6, 6, 6, 6, 6, 6, 6, 6, 7, 7, 7, 7, 7, 7, 7, 7, 7, 7, 7, 7, 7, 7, 7, 7, 7, 7, 7, 7, 7, 7, 7, 7, 7, 7, 7, 7, 7, 7, 7, 7, 7, 7, 7, 7, 7, 7, 7, 7, 7, 7, 7, 7, 7, 7, 7, 7, 7, 7, 7, 7, 7, 7, 7, 7, 7, 7, 7, 7, 7, 7, 7, 7, 8, 8, 8, 8, 8, 8, 8, 8, 8, 8, 8, 8, 8, 8, 8, 8, 8, 8, 8, 8, 8, 8, 8, 8, 8, 8, 8, 8, 8, 8, 8, 8, 8, 8, 8, 8, 8, 8, 8, 8, 8, 8, 8, 8, 8, 8, 8, 8, 8, 8, 8, 8, 8, 8, 8, 8, 8, 8, 8, 8, 8, 8, 8, 8, 8, 8, 8, 8, 8, 8, 8, 8, 8, 8, 8, 8, 8, 8, 8, 8, 8, 8, 8, 8, 8, 8, 8, 8, 8, 8, 8, 8, 8, 8, 8, 8, 8, 8, 8, 8, 8, 8, 8, 8, 8, 8, 8, 8, 8, 8, 8, 8, 8, 8, 8, 8, 8, 8, 8, 8, 8, 8, 8, 8, 8, 8, 8, 8])) (.t 21), none⟩,
    ⟨(some 23), .conv .i64 (.t 22), none⟩,
    ⟨(some 24), .bin .add .num (.t 19) (.t 23), none⟩,
    ⟨(some 2), .mov (.t 24), none⟩])
  (.ret))))))))))⟩
def f_internal_strconv_bool2_int_ : Fn := ⟨1, [(.t 2)], true,
  (.seq (.ops [⟨(some 2), .mov (.c (.i .i64 0)), none⟩])
  ((.seq ((.seq (.ops [⟨(some 3), .mov (.t 0), none⟩])
  ((.cond (.t 3) ((.seq (.ops [⟨(some 2), .mov (.c (.i .i64 1)), none⟩])
   (.ret)))
   (.skip)))))
  ((.seq (.ops [⟨(some 2), .mov (.c (.i .i64 0)), none⟩])
  (.ret))))))⟩
def f_internal_strconv_isPowerOfTwo : Fn := ⟨1, [(.t 2)], true,
  (.seq (.ops [⟨(some 2), .mov (.c (.b false)), none⟩])
  ((.seq (.ops [⟨(some 3), .mov (.t 0), none⟩,
    ⟨(some 4), .mov (.t 0), none⟩,
    ⟨(some 5), .bin .sub .num (.t 4) (.c (.i .i64 1)), none⟩,
    ⟨(some 6), .bin .and .num (.t 3) (.t 5), none⟩,
    ⟨(some 7), .bin .eql .num (.t 6) (.c (.i .i64 0)), none⟩,
    ⟨(some 2), .mov (.t 7), none⟩])
  (.ret))))⟩
def f_math_bits_TrailingZeros : Fn := ⟨1, [(.t 2)], true,
  (.seq (.ops [⟨(some 2), .mov (.c (.i .i64 0)), none⟩])
  ((.seq ((.cond (.c (.b false)) ((.seq (.ops [⟨(some 3), .mov (.t 0), none⟩,
     ⟨(some 4), .conv .u32 (.t 3), none⟩,
     ⟨(some 5), .call (.f 53) [(.t 4)], none⟩,
     ⟨(some 2), .mov (.mv 5), none⟩])
   (.ret)))
   (.skip)))
  ((.seq (.ops [⟨(some 6), .mov (.mv 0), none⟩,
    ⟨(some 7), .call (.f 54) [(.mv 6)], none⟩,
    ⟨(some 2), .mov (.mv 7), none⟩])
  (.ret))))))⟩
def f_unicode_is16_B0 : C :=
  (.seq (.ops [⟨(some 21), .bin .lss .num (.t 20) (.t 19), none⟩])
  ((.seq ((.cond (.t 21) (.skip)
   (.exit 0)))
  ((.seq ((.block 1 [0, 1, 19, 20] ((.seq (.ops [⟨(some 22), .mov (.t 20), none⟩,
     ⟨(some 5), .mov (.t 22), none⟩])
   ((.seq (.ops [⟨(some 23), .mov (.t 0), none⟩,
     ⟨(some 24), .mov (.t 5), none⟩,
     ⟨(some 25), .indexAddr (.t 23) (.t 24) 3 none, none⟩,
     ⟨(some 6), .mov (.t 25), none⟩])
   ((.seq ((.seq (.ops [⟨(some 26), .mov (.t 1), none⟩,
     ⟨(some 27), .mov (.t 6), none⟩,
     ⟨(some 28), .nilCheck (.t 27), none⟩,
     ⟨(some 29), .fieldAddr (.t 28) 0 ⟨1, false⟩, none⟩,
     ⟨(some 30), .load false none ⟨1, false⟩ (.t 29), none⟩,
     ⟨(some 31), .bin .lss .num (.t 26) (.t 30), none⟩])
   ((.cond (.t 31) ((.seq (.ops [⟨(some 4), .mov (.c (.b false)), none⟩])
    (.ret)))
    (.skip)))))
   ((.seq (.ops [⟨(some 32), .mov (.t 1), none⟩,
     ⟨(some 33), .mov (.t 6), none⟩,
     ⟨(some 34), .nilCheck (.t 33), none⟩,
     ⟨(some 35), .fieldAddr (.t 34) 1 ⟨1, false⟩, none⟩,
     ⟨(some 36), .load false none ⟨1, false⟩ (.t 35), none⟩,
     ⟨(some 37), .bin .leq .num (.t 32) (.t 36), none⟩])
   ((.cond (.t 37) ((.seq (.opsD [(⟨(some 38), .mov (.t 6), none⟩, false, []),
      (⟨(some 39), .nilCheck (.t 38), none⟩, false, []),
      (⟨(some 40), .fieldAddr (.t 39) 2 ⟨1, false⟩, none⟩, false, []),
      (⟨(some 41), .load false none ⟨1, false⟩ (.t 40), none⟩, false, []),
      (⟨(some 42), .bin .eql .num (.t 41) (.c (.i .u16 1)), none⟩, false, []),
      (⟨(some 43), .mov (.t 42), none⟩, false, []),
      (⟨(some 44), .mov (.t 1), some (43, false)⟩, false, []),
      (⟨(some 45), .mov (.t 6), some (43, false)⟩, false, []),
      (⟨(some 46), .nilCheck (.t 45), some (43, false)⟩, false, []),
      (⟨(some 47), .fieldAddr (.t 46) 0 ⟨1, false⟩, some (43, false)⟩, false, []),
      (⟨(some 48), .load false none ⟨1, false⟩ (.t 47), some (43, false)⟩, false, []),
      (⟨(some 49), .bin .sub .num (.t 44) (.t 48), some (43, false)⟩, false, []),
      (⟨(some 50), .mov (.t 6), some (43, false)⟩, false, []),
      (⟨(some 51), .nilCheck (.t 50), some (43, false)⟩, false, []),
      (⟨(some 52), .fieldAddr (.t 51) 2 ⟨1, false⟩, some (43, false)⟩, false, []),
      (⟨(some 53), .load false none ⟨1, false⟩ (.t 52), some (43, false)⟩, false, []),
      (⟨(some 54), .bin .rem .num (.t 49) (.t 53), some (43, false)⟩, false, []),
      (⟨(some 55), .bin .eql .num (.t 54) (.c (.i .u16 0)), some (43, false)⟩, false, []),
      (⟨(some 56), .pick (.t 43) (.c (.b true)) (.t 55), none⟩, false, []),
      (⟨(some 4), .mov (.t 56), none⟩, false, [])])
    (.ret)))
    (.skip)))))))))))))
  (.ops [⟨(some 57), .bin .add .num (.t 20) (.c (.i .i64 1)), none⟩,
    ⟨(some 20), .mov (.t 57), none⟩]))))))
def f_unicode_is16_L0 : C := .loop [0, 1, 19, 20] f_unicode_is16_B0
noncomputable def f_unicode_is16_l0 (pg : Pg) (v0 v1 v19 v20 : V) (H : List Obj) (lo : Nat) : Option (Ex × St) := exL pg f_unicode_is16_L0 ⟨[(0, v0), (1, v1), (19, v19), (20, v20)], H, lo⟩
theorem f_unicode_is16_l0_in {pg : Pg} {e : Env} {H : List Obj} {lo : Nat} : exL pg f_unicode_is16_L0 ⟨e, H, lo⟩ = f_unicode_is16_l0 pg (keepV (get 0 e)) (keepV (get 1 e)) (keepV (get 19 e)) (keepV (get 20 e)) H lo := loop_in
theorem f_unicode_is16_l0_eq {pg : Pg} {v0 v1 v19 v20 : V} {H : List Obj} {lo : Nat} : f_unicode_is16_l0 pg v0 v1 v19 v20 H lo = thenC pg (exL pg f_unicode_is16_B0 ⟨[(0, keepV v0), (1, keepV v1), (19, keepV v19), (20, keepV v20)], H, lo⟩) f_unicode_is16_L0 := by
  unfold f_unicode_is16_l0 f_unicode_is16_L0; rw [exL_loop]; simp only [restrict_cons, restrict_nil, get_eq, get_ne, Nat.reduceEqDiff]
def f_unicode_is16_R1 : C :=
  (.seq (.ops [⟨(some 4), .mov (.c (.b false)), none⟩])
   (.ret))
def f_unicode_is16_B2 : C :=
  (.seq ((.seq (.ops [⟨(some 60), .mov (.t 7), none⟩,
    ⟨(some 61), .mov (.t 8), none⟩,
    ⟨(some 62), .bin .lss .num (.t 60) (.t 61), none⟩])
  ((.cond (.t 62) (.skip)
   (.exit 2)))))
  ((.block 3 [0, 1, 7, 8] ((.seq (.ops [⟨(some 63), .mov (.t 7), none⟩,
     ⟨(some 64), .mov (.t 8), none⟩,
     ⟨(some 65), .bin .add .num (.t 63) (.t 64), none⟩,
     ⟨(some 66), .conv .u64 (.t 65), none⟩,
     ⟨(some 67), .bin .shr .num (.t 66) (.c (.i .u64 1)), none⟩,
     ⟨(some 68), .conv .i64 (.t 67), none⟩,
     ⟨(some 9), .mov (.mv 68), none⟩])
   ((.seq (.ops [⟨(some 69), .mov (.t 0), none⟩,
     ⟨(some 70), .mov (.t 9), none⟩,
     ⟨(some 71), .indexAddr (.t 69) (.t 70) 3 none, none⟩,
     ⟨(some 10), .mov (.t 71), none⟩])
   ((.seq ((.seq (.ops [⟨(some 72), .mov (.t 10), none⟩,
     ⟨(some 73), .nilCheck (.t 72), none⟩,
     ⟨(some 74), .fieldAddr (.t 73) 0 ⟨1, false⟩, none⟩,
     ⟨(some 75), .load false none ⟨1, false⟩ (.t 74), none⟩,
     ⟨(some 76), .mov (.t 1), none⟩,
     ⟨(some 77), .bin .leq .num (.t 75) (.t 76), none⟩,
     ⟨(some 78), .mov (.t 77), none⟩,
     ⟨(some 79), .mov (.t 1), some (78, true)⟩,
     ⟨(some 80), .mov (.t 10), some (78, true)⟩,
     ⟨(some 81), .nilCheck (.t 80), some (78, true)⟩,
     ⟨(some 82), .fieldAddr (.t 81) 1 ⟨1, false⟩, some (78, true)⟩,
     ⟨(some 83), .load false none ⟨1, false⟩ (.t 82), some (78, true)⟩,
     ⟨(some 84), .bin .leq .num (.t 79) (.t 83), some (78, true)⟩,
     ⟨(some 85), .pick (.t 78) (.t 84) (.c (.b false)), none⟩])
   ((.cond (.t 85) ((.seq (.opsD [(⟨(some 86), .mov (.t 10), none⟩, false, []),
      (⟨(some 87), .nilCheck (.t 86), none⟩, false, []),
      (⟨(some 88), .fieldAddr (.t 87) 2 ⟨1, false⟩, none⟩, false, []),
      (⟨(some 89), .load false none ⟨1, false⟩ (.t 88), none⟩, false, []),
      (⟨(some 90), .bin .eql .num (.t 89) (.c (.i .u16 1)), none⟩, false, []),
      (⟨(some 91), .mov (.t 90), none⟩, false, []),
      (⟨(some 92), .mov (.t 1), some (91, false)⟩, false, []),
      (⟨(some 93), .mov (.t 10), some (91, false)⟩, false, []),
      (⟨(some 94), .nilCheck (.t 93), some (91, false)⟩, false, []),
      (⟨(some 95), .fieldAddr (.t 94) 0 ⟨1, false⟩, some (91, false)⟩, false, []),
      (⟨(some 96), .load false none ⟨1, false⟩ (.t 95), some (91, false)⟩, false, []),
      (⟨(some 97), .bin .sub .num (.t 92) (.t 96), some (91, false)⟩, false, []),
      (⟨(some 98), .mov (.t 10), some (91, false)⟩, false, []),
      (⟨(some 99), .nilCheck (.t 98), some (91, false)⟩, false, []),
      (⟨(some 100), .fieldAddr (.t 99) 2 ⟨1, false⟩, some (91, false)⟩, false, []),
      (⟨(some 101), .load false none ⟨1, false⟩ (.t 100), some (91, false)⟩, false, []),
      (⟨(some 102), .bin .rem .num (.t 97) (.t 101), some (91, false)⟩, false, []),
      (⟨(some 103), .bin .eql .num (.t 102) (.c (.i .u16 0)), some (91, false)⟩, false, []),
      (⟨(some 104), .pick (.t 91) (.c (.b true)) (.t 103), none⟩, false, []),
      (⟨(some 4), .mov (.t 104), none⟩, false, [])])
    (.ret)))
    (.skip)))))
   ((.seq (.ops [⟨(some 105), .mov (.t 1), none⟩,
     ⟨(some 106), .mov (.t 10), none⟩,
     ⟨(some 107), .nilCheck (.t 106), none⟩,
     ⟨(some 108), .fieldAddr (.t 107) 0 ⟨1, false⟩, none⟩,
     ⟨(some 109), .load false none ⟨1, false⟩ (.t 108), none⟩,
     ⟨(some 110), .bin .lss .num (.t 105) (.t 109), none⟩])
   ((.cond (.t 110) (.ops [⟨(some 111), .mov (.t 9), none⟩,
      ⟨(some 8), .mov (.t 111), none⟩])
    (.ops [⟨(some 112), .mov (.t 9), none⟩,
      ⟨(some 113), .bin .add .num (.t 112) (.c (.i .i64 1)), none⟩,
      ⟨(some 7), .mov (.t 113), none⟩]))))))))))))))
def f_unicode_is16_L2 : C := .loop [0, 1, 7, 8] f_unicode_is16_B2
noncomputable def f_unicode_is16_l2 (pg : Pg) (v0 v1 v7 v8 : V) (H : List Obj) (lo : Nat) : Option (Ex × St) := exL pg f_unicode_is16_L2 ⟨[(0, v0), (1, v1), (7, v7), (8, v8)], H, lo⟩
theorem f_unicode_is16_l2_in {pg : Pg} {e : Env} {H : List Obj} {lo : Nat} : exL pg f_unicode_is16_L2 ⟨e, H, lo⟩ = f_unicode_is16_l2 pg (keepV (get 0 e)) (keepV (get 1 e)) (keepV (get 7 e)) (keepV (get 8 e)) H lo := loop_in
theorem f_unicode_is16_l2_eq {pg : Pg} {v0 v1 v7 v8 : V} {H : List Obj} {lo : Nat} : f_unicode_is16_l2 pg v0 v1 v7 v8 H lo = thenC pg (exL pg f_unicode_is16_B2 ⟨[(0, keepV v0), (1, keepV v1), (7, keepV v7), (8, keepV v8)], H, lo⟩) f_unicode_is16_L2 := by
  unfold f_unicode_is16_l2 f_unicode_is16_L2; rw [exL_loop]; simp only [restrict_cons, restrict_nil, get_eq, get_ne, Nat.reduceEqDiff]
def f_unicode_is16_R3 : C :=
  (.seq (.ops [⟨(some 4), .mov (.c (.b false)), none⟩])
  (.ret))
def f_unicode_is16_R4 : C :=
  (.seq (.ops [⟨(some 7), .mov (.c (.i .i64 0)), none⟩])
  ((.seq (.ops [⟨(some 58), .mov (.t 0), none⟩,
    ⟨(some 59), .bi .lenL [(.t 58)], none⟩,
    ⟨(some 8), .mov (.t 59), none⟩])
  ((.seq ((.block 2 [] (f_unicode_is16_L2)))
  (f_unicode_is16_R3))))))
def f_unicode_is16 : Fn := ⟨2, [(.t 4)], true,
  (.seq (.ops [⟨(some 4), .mov (.c (.b false)), none⟩])
  ((.seq ((.seq (.ops [⟨(some 11), .mov (.t 0), none⟩,
    ⟨(some 12), .bi .lenL [(.t 11)], none⟩,
    ⟨(some 13), .bin .leq .num (.t 12) (.c (.i .i64 18)), none⟩,
    ⟨(some 14), .mov (.t 13), none⟩,
    ⟨(some 15), .mov (.t 1), some (14, false)⟩,
    ⟨(some 16), .bin .leq .num (.t 15) (.c (.i .u16 255)), some (14, false)⟩,
    ⟨(some 17), .pick (.t 14) (.c (.b true)) (.t 16), none⟩])
  ((.cond (.t 17) ((.seq ((.seq (.ops [⟨(some 18), .mov (.t 0), none⟩,
     ⟨(some 19), .bi .lenL [(.t 18)], none⟩,
     ⟨(some 20), .mov (.c (.i .i64 0)), none⟩])
   ((.block 0 [] (f_unicode_is16_L0)))))
   (f_unicode_is16_R1)))
   (.skip)))))
  (f_unicode_is16_R4))))⟩
def f_unicode_is32_B0 : C :=
  (.seq (.ops [⟨(some 17), .bin .lss .num (.t 16) (.t 15), none⟩])
  ((.seq ((.cond (.t 17) (.skip)
   (.exit 0)))
  ((.seq ((.block 1 [0, 1, 15, 16] ((.seq (.ops [⟨(some 18), .mov (.t 16), none⟩,
     ⟨(some 5), .mov (.t 18), none⟩])
   ((.seq (.ops [⟨(some 19), .mov (.t 0), none⟩,
     ⟨(some 20), .mov (.t 5), none⟩,
     ⟨(some 21), .indexAddr (.t 19) (.t 20) 3 none, none⟩,
     ⟨(some 6), .mov (.t 21), none⟩])
   ((.seq ((.seq (.ops [⟨(some 22), .mov (.t 1), none⟩,
     ⟨(some 23), .mov (.t 6), none⟩,
     ⟨(some 24), .nilCheck (.t 23), none⟩,
     ⟨(some 25), .fieldAddr (.t 24) 0 ⟨1, false⟩, none⟩,
     ⟨(some 26), .load false none ⟨1, false⟩ (.t 25), none⟩,
     ⟨(some 27), .bin .lss .num (.t 22) (.t 26), none⟩])
   ((.cond (.t 27) ((.seq (.ops [⟨(some 4), .mov (.c (.b false)), none⟩])
    (.ret)))
    (.skip)))))
   ((.seq (.ops [⟨(some 28), .mov (.t 1), none⟩,
     ⟨(some 29), .mov (.t 6), none⟩,
     ⟨(some 30), .nilCheck (.t 29), none⟩,
     ⟨(some 31), .fieldAddr (.t 30) 1 ⟨1, false⟩, none⟩,
     ⟨(some 32), .load false none ⟨1, false⟩ (.t 31), none⟩,
     ⟨(some 33), .bin .leq .num (.t 28) (.t 32), none⟩])
   ((.cond (.t 33) ((.seq (.opsD [(⟨(some 34), .mov (.t 6), none⟩, false, []),
      (⟨(some 35), .nilCheck (.t 34), none⟩, false, []),
      (⟨(some 36), .fieldAddr (.t 35) 2 ⟨1, false⟩, none⟩, false, []),
      (⟨(some 37), .load false none ⟨1, false⟩ (.t 36), none⟩, false, []),
      (⟨(some 38), .bin .eql .num (.t 37) (.c (.i .u32 1)), none⟩, false, []),
      (⟨(some 39), .mov (.t 38), none⟩, false, []),
      (⟨(some 40), .mov (.t 1), some (39, false)⟩, false, []),
      (⟨(some 41), .mov (.t 6), some (39, false)⟩, false, []),
      (⟨(some 42), .nilCheck (.t 41), some (39, false)⟩, false, []),
      (⟨(some 43), .fieldAddr (.t 42) 0 ⟨1, false⟩, some (39, false)⟩, false, []),
      (⟨(some 44), .load false none ⟨1, false⟩ (.t 43), some (39, false)⟩, false, []),
      (⟨(some 45), .bin .sub .num (.t 40) (.t 44), some (39, false)⟩, false, []),
      (⟨(some 46), .mov (.t 6), some (39, false)⟩, false, []),
      (⟨(some 47), .nilCheck (.t 46), some (39, false)⟩, false, []),
      (⟨(some 48), .fieldAddr (.t 47) 2 ⟨1, false⟩, some (39, false)⟩, false, []),
      (⟨(some 49), .load false none ⟨1, false⟩ (.t 48), some (39, false)⟩, false, []),
      (⟨(some 50), .bin .rem .num (.t 45) (.t 49), some (39, false)⟩, false, []),
      (⟨(some 51), .bin .eql .num (.t 50) (.c (.i .u32 0)), some (39, false)⟩, false, []),
      (⟨(some 52), .pick (.t 39) (.c (.b true)) (.t 51), none⟩, false, []),
      (⟨(some 4), .mov (.t 52), none⟩, false, [])])
    (.ret)))
    (.skip)))))))))))))
  (.ops [⟨(some 53), .bin .add .num (.t 16) (.c (.i .i64 1)), none⟩,
    ⟨(some 16), .mov (.t 53), none⟩]))))))
def f_unicode_is32_L0 : C := .loop [0, 1, 15, 16] f_unicode_is32_B0
noncomputable def f_unicode_is32_l0 (pg : Pg) (v0 v1 v15 v16 : V) (H : List Obj) (lo : Nat) : Option (Ex × St) := exL pg f_unicode_is32_L0 ⟨[(0, v0), (1, v1), (15, v15), (16, v16)], H, lo⟩
theorem f_unicode_is32_l0_in {pg : Pg} {e : Env} {H : List Obj} {lo : Nat} : exL pg f_unicode_is32_L0 ⟨e, H, lo⟩ = f_unicode_is32_l0 pg (keepV (get 0 e)) (keepV (get 1 e)) (keepV (get 15 e)) (keepV (get 16 e)) H lo := loop_in
theorem f_unicode_is32_l0_eq {pg : Pg} {v0 v1 v15 v16 : V} {H : List Obj} {lo : Nat} : f_unicode_is32_l0 pg v0 v1 v15 v16 H lo = thenC pg (exL pg f_unicode_is32_B0 ⟨[(0, keepV v0), (1, keepV v1), (15, keepV v15), (16, keepV v16)], H, lo⟩) f_unicode_is32_L0 := by
  unfold f_unicode_is32_l0 f_unicode_is32_L0; rw [exL_loop]; simp only [restrict_cons, restrict_nil, get_eq, get_ne, Nat.reduceEqDiff]
def f_unicode_is32_R1 : C :=
  (.seq (.ops [⟨(some 4), .mov (.c (.b false)), none⟩])
   (.ret))
def f_unicode_is32_B2 : C :=
  (.seq ((.seq (.ops [⟨(some 56), .mov (.t 7), none⟩,
    ⟨(some 57), .mov (.t 8), none⟩,
    ⟨(some 58), .bin .lss .num (.t 56) (.t 57), none⟩])
  ((.cond (.t 58) (.skip)
   (.exit 2)))))
  ((.block 3 [0, 1, 7, 8] ((.seq (.ops [⟨(some 59), .mov (.t 7), none⟩,
     ⟨(some 60), .mov (.t 8), none⟩,
     ⟨(some 61), .bin .add .num (.t 59) (.t 60), none⟩,
     ⟨(some 62), .conv .u64 (.t 61), none⟩,
     ⟨(some 63), .bin .shr .num (.t 62) (.c (.i .u64 1)), none⟩,
     ⟨(some 64), .conv .i64 (.t 63), none⟩,
     ⟨(some 9), .mov (.mv 64), none⟩])
   ((.seq (.ops [⟨(some 65), .mov (.t 0), none⟩,
     ⟨(some 66), .mov (.t 9), none⟩,
     ⟨(some 67), .indexAddr (.t 65) (.t 66) 3 none, none⟩,
     ⟨(some 68), .load false none ⟨3, true⟩ (.t 67), none⟩,
     ⟨(some 10), .alloc true [(.i .u32 0), (.i .u32 0), (.i .u32 0)], none⟩,
     ⟨none, .store (some 10) ⟨3, true⟩ (.t 10) (.t 68), none⟩])
   ((.seq ((.seq (.ops [⟨(some 69), .fieldAddr (.t 10) 0 ⟨1, false⟩, none⟩,
     ⟨(some 70), .load false (some 10) ⟨1, false⟩ (.t 69), none⟩,
     ⟨(some 71), .mov (.t 1), none⟩,
     ⟨(some 72), .bin .leq .num (.t 70) (.t 71), none⟩,
     ⟨(some 73), .mov (.t 72), none⟩,
     ⟨(some 74), .mov (.t 1), some (73, true)⟩,
     ⟨(some 75), .fieldAddr (.t 10) 1 ⟨1, false⟩, some (73, true)⟩,
     ⟨(some 76), .load false (some 10) ⟨1, false⟩ (.t 75), some (73, true)⟩,
     ⟨(some 77), .bin .leq .num (.t 74) (.t 76), some (73, true)⟩,
     ⟨(some 78), .pick (.t 73) (.t 77) (.c (.b false)), none⟩])
   ((.cond (.t 78) ((.seq (.ops [⟨(some 79), .fieldAddr (.t 10) 2 ⟨1, false⟩, none⟩,
      ⟨(some 80), .load false (some 10) ⟨1, false⟩ (.t 79), none⟩,
      ⟨(some 81), .bin .eql .num (.t 80) (.c (.i .u32 1)), none⟩,
      ⟨(some 82), .mov (.t 81), none⟩,
      ⟨(some 83), .mov (.t 1), some (82, false)⟩,
      ⟨(some 84), .fieldAddr (.t 10) 0 ⟨1, false⟩, some (82, false)⟩,
      ⟨(some 85), .load false (some 10) ⟨1, false⟩ (.t 84), some (82, false)⟩,
      ⟨(some 86), .bin .sub .num (.t 83) (.t 85), some (82, false)⟩,
      ⟨(some 87), .fieldAddr (.t 10) 2 ⟨1, false⟩, some (82, false)⟩,
      ⟨(some 88), .load false (some 10) ⟨1, false⟩ (.t 87), some (82, false)⟩,
      ⟨(some 89), .bin .rem .num (.t 86) (.t 88), some (82, false)⟩,
      ⟨(some 90), .bin .eql .num (.t 89) (.c (.i .u32 0)), some (82, false)⟩,
      ⟨(some 91), .pick (.t 82) (.c (.b true)) (.t 90), none⟩,
      ⟨(some 4), .mov (.t 91), none⟩])
    (.ret)))
    (.skip)))))
   ((.seq (.ops [⟨(some 92), .mov (.t 1), none⟩,
     ⟨(some 93), .fieldAddr (.t 10) 0 ⟨1, false⟩, none⟩,
     ⟨(some 94), .load false (some 10) ⟨1, false⟩ (.t 93), none⟩,
     ⟨(some 95), .bin .lss .num (.t 92) (.t 94), none⟩])
   ((.cond (.t 95) (.ops [⟨(some 96), .mov (.t 9), none⟩,
      ⟨(some 8), .mov (.t 96), none⟩])
    (.ops [⟨(some 97), .mov (.t 9), none⟩,
      ⟨(some 98), .bin .add .num (.t 97) (.c (.i .i64 1)), none⟩,
      ⟨(some 7), .mov (.t 98), none⟩]))))))))))))))
def f_unicode_is32_L2 : C := .loop [0, 1, 7, 8] f_unicode_is32_B2
noncomputable def f_unicode_is32_l2 (pg : Pg) (v0 v1 v7 v8 : V) (H : List Obj) (lo : Nat) : Option (Ex × St) := exL pg f_unicode_is32_L2 ⟨[(0, v0), (1, v1), (7, v7), (8, v8)], H, lo⟩
theorem f_unicode_is32_l2_in {pg : Pg} {e : Env} {H : List Obj} {lo : Nat} : exL pg f_unicode_is32_L2 ⟨e, H, lo⟩ = f_unicode_is32_l2 pg (keepV (get 0 e)) (keepV (get 1 e)) (keepV (get 7 e)) (keepV (get 8 e)) H lo := loop_in
theorem f_unicode_is32_l2_eq {pg : Pg} {v0 v1 v7 v8 : V} {H : List Obj} {lo : Nat} : f_unicode_is32_l2 pg v0 v1 v7 v8 H lo = thenC pg (exL pg f_unicode_is32_B2 ⟨[(0, keepV v0), (1, keepV v1), (7, keepV v7), (8, keepV v8)], H, lo⟩) f_unicode_is32_L2 := by
  unfold f_unicode_is32_l2 f_unicode_is32_L2; rw [exL_loop]; simp only [restrict_cons, restrict_nil, get_eq, get_ne, Nat.reduceEqDiff]
def f_unicode_is32_R3 : C :=
  (.seq (.ops [⟨(some 4), .mov (.c (.b false)), none⟩])
  (.ret))
def f_unicode_is32_R4 : C :=
  (.seq (.ops [⟨(some 7), .mov (.c (.i .i64 0)), none⟩])
  ((.seq (.ops [⟨(some 54), .mov (.t 0), none⟩,
    ⟨(some 55), .bi .lenL [(.t 54)], none⟩,
    ⟨(some 8), .mov (.t 55), none⟩])
  ((.seq ((.block 2 [] (f_unicode_is32_L2)))
  (f_unicode_is32_R3))))))
def f_unicode_is32 : Fn := ⟨2, [(.t 4)], true,
  (.seq (.ops [⟨(some 4), .mov (.c (.b false)), none⟩])
  ((.seq ((.seq (.ops [⟨(some 11), .mov (.t 0), none⟩,
    ⟨(some 12), .bi .lenL [(.t 11)], none⟩,
    ⟨(some 13), .bin .leq .num (.t 12) (.c (.i .i64 18)), none⟩])
  ((.cond (.t 13) ((.seq ((.seq (.ops [⟨(some 14), .mov (.t 0), none⟩,
     ⟨(some 15), .bi .lenL [(.t 14)], none⟩,
     ⟨(some 16), .mov (.c (.i .i64 0)), none⟩])
   ((.block 0 [] (f_unicode_is32_L0)))))
   (f_unicode_is32_R1)))
   (.skip)))))
  (f_unicode_is32_R4))))⟩
def f_math_bits_TrailingZeros32 : Fn := ⟨1, [(.t 2)], true,
  (.seq (.ops [⟨(some 2), .mov (.c (.i .i64 0)), none⟩])
  ((.seq ((.seq (.ops [⟨(some 3), .mov (.t 0), none⟩,
    ⟨(some 4), .bin .eql .num (.t 3) (.c (.i .u32 0)), none⟩])
  ((.cond (.t 4) ((.seq (.ops [⟨(some 2), .mov (.c (.i .i64 32)), none⟩])
   (.ret)))
   (.skip)))))
  ((.seq (.ops [⟨(some 5), .mov (.t 0), none⟩,
    ⟨(some 6), .mov (.t 0), none⟩,
    ⟨(some 7), .un .neg (.t 6), none⟩,
    ⟨(some 8), .bin .and .num (.t 5) (.t 7), none⟩,
    ⟨(some 9), .bin .mul .num (.t 8) (.c (.i .u32 125613361)), none⟩,
    ⟨(some 10), .bin .shr .num (.t 9) (.c (.i .u64 27)), none⟩,
    ⟨(some 11), .indexAddr (.g 4 (glD 4)) (.t 10) 1 (some 32), none⟩,
    ⟨(some 12), .load false none ⟨1, false⟩ (.t 11), none⟩,
    ⟨(some 13), .conv .i64 (.t 12), none⟩,
    ⟨(some 2), .mov (.mv 13), none⟩])
  (.ret))))))⟩
def f_math_bits_TrailingZeros64 : Fn := ⟨1, [(.t 2)], true,
  (.seq (.ops [⟨(some 2), .mov (.c (.i .i64 0)), none⟩])
  ((.seq ((.seq (.ops [⟨(some 3), .mov (.t 0), none⟩,
    ⟨(some 4), .bin .eql .num (.t 3) (.c (.i .u64 0)), none⟩])
  ((.cond (.t 4) ((.seq (.ops [⟨(some 2), .mov (.c (.i .i64 64)), none⟩])
   (.ret)))
   (.skip)))))
  ((.seq (.ops [⟨(some 5), .mov (.t 0), none⟩,
    ⟨(some 6), .mov (.t 0), none⟩,
    ⟨(some 7), .un .neg (.t 6), none⟩,
    ⟨(some 8), .bin .and .num (.t 5) (.t 7), none⟩,
    ⟨(some 9), .bin .mul .num (.t 8) (.c (.i .u64 285870213051353865)), none⟩,
    ⟨(some 10), .bin .shr .num (.t 9) (.c (.i .u64 58)), none⟩,
    ⟨(some 11), .indexAddr (.g 5 (glD 5)) (.t 10) 1 (some 64), none⟩,
    ⟨(some 12), .load false none ⟨1, false⟩ (.t 11), none⟩,
    ⟨(some 13), .conv .i64 (.t 12), none⟩,
    ⟨(some 2), .mov (.mv 13), none⟩])
  (.ret))))))⟩
def f_gosem_cut_vars : Fn := ⟨0, [], false,
  (.seq (.ops [⟨(some 0), .build [(.i .u8 0), (.i .u8 0), (.i .u8 0), (.i .u8 0), (.i .u8 0), (.i .u8 0), (.i .u8 0), (.i .u8 0), (.i .u8 0), (.i .u8 0), (.i .u8 0), (.i .u8 0), (.i .u8 0), (.i .u8 0), (.i .u8 0), (.i .u8 0), (.i .u8 0), (.i .u8 0), (.i .u8 0), (.i .u8 0), (.i .u8 0), (.i .u8 0), (.i .u8 0), (.i .u8 0), (.i .u8 0), (.i .u8 0), (.i .u8 0), (.i .u8 0), (.i .u8 0), (.i .u8 0), (.i .u8 0), (.i .u8 0)] [(0, 1, (.c (.i .u8 0))), (1, 1, (.c (.i .u8 1))), (2, 1, (.c (.i .u8 28))), (3, 1, (.c (.i .u8 2))), (4, 1, (.c (.i .u8 29))), (5, 1, (.c (.i .u8 14))), (6, 1, (.c (.i .u8 24))), (7, 1, (.c (.i .u8 3))), (8, 1, (.c (.i .u8 30))), (9, 1, (.c (.i .u8 22))), (10, 1, (.c (.i .u8 20))), (11, 1, (.c (.i .u8 15))), (12, 1, (.c (.i .u8 25))), (13, 1, (.c (.i .u8 17))), (14, 1, (.c (.i .u8 4))), (15, 1, (.c (.i .u8 8))), (16, 1, (.c (.i .u8 31))), (17, 1, (.c (.i .u8 27))), (18, 1, (.c (.i .u8 13))), (19, 1, (.c (.i .u8 23))), (20, 1, (.c (.i .u8 21))), (21, 1, (.c (.i .u8 19))), (22, 1, (.c (.i .u8 16))), (23, 1, (.c (.i .u8 7))), (24, 1, (.c (.i .u8 26))), (25, 1, (.c (.i .u8 12))), (26, 1, (.c (.i .u8 18))), (27, 1, (.c (.i .u8 6))), (28, 1, (.c (.i .u8 11))), (29, 1, (.c (.i .u8 5))), (30, 1, (.c (.i .u8 10))), (31, 1, (.c (.i .u8 9)))], none⟩,
    ⟨none, .store none ⟨32, true⟩ (.g 4 (glD 4)) (.t 0), none⟩])
  ((.seq (.ops [⟨(some 1), .build [(.i .u8 0), (.i .u8 0), (.i .u8 0), (.i .u8 0), (.i .u8 0), (.i .u8 0), (.i .u8 0), (.i .u8 0), (.i .u8 0), (.i .u8 0), (.i .u8 0), (.i .u8 0), (.i .u8 0), (.i .u8 0), (.i .u8 0), (.i .u8 0), (.i .u8 0), (.i .u8 0), (.i .u8 0), (.i .u8 0), (.i .u8 0), (.i .u8 0), (.i .u8 0), (.i .u8 0), (.i .u8 0), (.i .u8 0), (.i .u8 0), (.i .u8 0), (.i .u8 0), (.i .u8 0), (.i .u8 0), (.i .u8 0), (.i .u8 0), (.i .u8 0), (.i .u8 0), (.i .u8 0), (.i .u8 0), (.i .u8 0), (.i .u8 0), (.i .u8 0), (.i .u8 0), (.i .u8 0), (.i .u8 0), (.i .u8 0), (.i .u8 0), (.i .u8 0), (.i .u8 0), (.i .u8 0), (.i .u8 0), (.i .u8 0), (.i .u8 0), (.i .u8 0), (.i .u8 0), (.i .u8 0), (.i .u8 0), (.i .u8 0), (.i .u8 0), (.i .u8 0), (.i .u8 0), (.i .u8 0), (.i .u8 0), (.i .u8 0), (.i .u8 0), (.i .u8 0)] [(0, 1, (.c (.i .u8 0))), (1, 1, (.c (.i .u8 1))), (2, 1, (.c (.i .u8 56))), (3, 1, (.c (.i .u8 2))), (4, 1, (.c (.i .u8 57))), (5, 1, (.c (.i .u8 49))), (6, 1, (.c (.i .u8 28))), (7, 1, (.c (.i .u8 3))), (8, 1, (.c (.i .u8 61))), (9, 1, (.c (.i .u8 58))), (10, 1, (.c (.i .u8 42))), (11, 1, (.c (.i .u8 50))), (12, 1, (.c (.i .u8 38))), (13, 1, (.c (.i .u8 29))), (14, 1, (.c (.i .u8 17))), (15, 1, (.c (.i .u8 4))), (16, 1, (.c (.i .u8 62))), (17, 1, (.c (.i .u8 47))), (18, 1, (.c (.i .u8 59))), (19, 1, (.c (.i .u8 36))), (20, 1, (.c (.i .u8 45))), (21, 1, (.c (.i .u8 43))), (22, 1, (.c (.i .u8 51))), (23, 1, (.c (.i .u8 22))), (24, 1, (.c (.i .u8 53))), (25, 1, (.c (.i .u8 39))), (26, 1, (.c (.i .u8 33))), (27, 1, (.c (.i .u8 30))), (28, 1, (.c (.i .u8 24))), (29, 1, (.c (.i .u8 18))), (30, 1, (.c (.i .u8 12))), (31, 1, (.c (.i .u8 5))), (32, 1, (.c (.i .u8 63))), (33, 1, (.c (.i .u8 55))), (34, 1, (.c (.i .u8 48))), (35, 1, (.c (.i .u8 27))), (36, 1, (.c (.i .u8 60))), (37, 1, (.c (.i .u8 41))), (38, 1, (.c (.i .u8 37))), (39, 1, (.c (.i .u8 16))), (40, 1, (.c (.i .u8 46))), (41, 1, (.c (.i .u8 35))), (42, 1, (.c (.i .u8 44))), (43, 1, (.c (.i .u8 21))), (44, 1, (.c (.i .u8 52))), (45, 1, (.c (.i .u8 32))), (46, 1, (.c (.i .u8 23))), (47, 1, (.c (.i .u8 11))), (48, 1, (.c (.i .u8 54))), (49, 1, (.c (.i .u8 26))), (50, 1, (.c (.i .u8 40))), (51, 1, (.c (.i .u8 15))), (52, 1, (.c (.i .u8 34))), (53, 1, (.c (.i .u8 20))), (54, 1, (.c (.i .u8 31))), (55, 1, (.c (.i .u8 10))), (56, 1, (.c (.i .u8 25))), (57, 1, (.c (.i .u8 14))), (58, 1, (.c (.i .u8 19))), (59, 1, (.c (.i .u8 9))), (60, 1, (.c (.i .u8 13))), (61, 1, (.c (.i .u8 8))), (62, 1, (.c (.i .u8 7))), (63, 1, (.c (.i .u8 6)))], none⟩,
    ⟨none, .store none ⟨64, true⟩ (.g 5 (glD 5)) (.t 1), none⟩])
  ((.seq (.ops [⟨(some 2), .build [(.i .u64 0), (.i .u64 0), (.i .u64 0), (.i .u64 0), (.i .u64 0), (.i .u64 0), (.i .u64 0), (.i .u64 0), (.i .u64 0), (.i .u64 0), (.i .u64 0), (.i .u64 0), (.i .u64 0), (.i .u64 0), (.i .u64 0), (.i .u64 0), (.i .u64 0), (.i .u64 0), (.i .u64 0), (.i .u64 0)] [(0, 1, (.c (.i .u64 1))), (1, 1, (.c (.i .u64 10))), (2, 1, (.c (.i .u64 100))), (3, 1, (.c (.i .u64 1000))), (4, 1, (.c (.i .u64 10000))), (5, 1, (.c (.i .u64 100000))), (6, 1, (.c (.i .u64 1000000))), (7, 1, (.c (.i .u64 10000000))), (8, 1, (.c (.i .u64 100000000))), (9, 1, (.c (.i .u64 1000000000))), (10, 1, (.c (.i .u64 10000000000))), (11, 1, (.c (.i .u64 100000000000))), (12, 1, (.c (.i .u64 1000000000000))), (13, 1, (.c (.i .u64 10000000000000))), (14, 1, (.c (.i .u64 100000000000000))), (15, 1, (.c (.i .u64 1000000000000000))), (16, 1, (.c (.i .u64 10000000000000000))), (17, 1, (.c (.i .u64 100000000000000000))), (18, 1, (.c (.i .u64 1000000000000000000))), (19, 1, (.c (.i .u64 10000000000000000000)))], none⟩,
    ⟨none, .store none ⟨20, true⟩ (.g 2 (glD 2)) (.t 2), none⟩])
  ((.seq (.ops [⟨(some 3), .build [(.i .u16 0), (.i .u16 0), (.i .u16 0)] [(0, 1, (.c (.i .u16 9))), (1, 1, (.c (.i .u16 13))), (2, 1, (.c (.i .u16 1)))], none⟩,
    ⟨(some 4), .build [(.i .u16 0), (.i .u16 0), (.i .u16 0)] [(0, 1, (.c (.i .u16 32))), (1, 1, (.c (.i .u16 133))), (2, 1, (.c (.i .u16 101)))], none⟩,
    ⟨(some 5), .build [(.i .u16 0), (.i .u16 0), (.i .u16 0)] [(0, 1, (.c (.i .u16 160))), (1, 1, (.c (.i .u16 5760))), (2, 1, (.c (.i .u16 5600)))], none⟩,
    ⟨(some 6), .build [(.i .u16 0), (.i .u16 0), (.i .u16 0)] [(0, 1, (.c (.i .u16 8192))), (1, 1, (.c (.i .u16 8202))), (2, 1, (.c (.i .u16 1)))], none⟩,
    ⟨(some 7), .build [(.i .u16 0), (.i .u16 0), (.i .u16 0)] [(0, 1, (.c (.i .u16 8232))), (1, 1, (.c (.i .u16 8233))), (2, 1, (.c (.i .u16 1)))], none⟩,
    ⟨(some 8), .build [(.i .u16 0), (.i .u16 0), (.i .u16 0)] [(0, 1, (.c (.i .u16 8239))), (1, 1, (.c (.i .u16 8287))), (2, 1, (.c (.i .u16 48)))], none⟩,
    ⟨(some 9), .build [(.i .u16 0), (.i .u16 0), (.i .u16 0)] [(0, 1, (.c (.i .u16 12288))), (1, 1, (.c (.i .u16 12288))), (2, 1, (.c (.i .u16 1)))], none⟩,
    ⟨(some 10), .buildSlice (.agg [(.i .u16 0), (.i .u16 0), (.i .u16 0)]) 7 [(0, (.t 3)), (1, (.t 4)), (2, (.t 5)), (3, (.t 6)), (4, (.t 7)), (5, (.t 8)), (6, (.t 9))], none⟩,
    ⟨(some 11), .build [.nil, .nil, (.i .i64 0)] [(0, 1, (.t 10)), (2, 1, (.c (.i .i64 2)))], none⟩,
    ⟨(some 12), .box false (.t 11), none⟩,
    ⟨none, .stuck, none⟩])
  ((.seq (.ops [⟨(some 13), .stuck, none⟩,
    ⟨none, .stuck, none⟩])
  (.ops [⟨(some 14), .build [(.i .u8 0), (.i .u8 0), (.i .u8 0), (.i .u8 0), (.i .u8 0), (.i .u8 0), (.i .u8 0), (.i .u8 0), (.i .u8 0), (.i .u8 0), (.i .u8 0), (.i .u8 0), (.i .u8 0), (.i .u8 0), (.i .u8 0), (.i .u8 0), (.i .u8 0), (.i .u8 0), (.i .u8 0), (.i .u8 0), (.i .u8 0), (.i .u8 0), (.i .u8 0), (.i .u8 0), (.i .u8 0), (.i .u8 0), (.i .u8 0), (.i .u8 0), (.i .u8 0), (.i .u8 0), (.i .u8 0), (.i .u8 0), (.i .u8 0), (.i .u8 0), (.i .u8 0), (.i .u8 0), (.i .u8 0), (.i .u8 0), (.i .u8 0), (.i .u8 0), (.i .u8 0), (.i .u8 0), (.i .u8 0), (.i .u8 0), (.i .u8 0), (.i .u8 0), (.i .u8 0), (.i .u8 0), (.i .u8 0), (.i .u8 0), (.i .u8 0), (.i .u8 0), (.i .u8 0), (.i .u8 0), (.i .u8 0), (.i .u8 0), (.i .u8 0), (.i .u8 0), (.i .u8 0), (.i .u8 0), (.i .u8 0), (.i .u8 0), (.i .u8 0), (.i .u8 0), (.i .u8 0), (.i .u8 0), (.i .u8 0), (.i .u8 0), (.i .u8 0), (.i .u8 0), (.i .u8 0), (.i .u8 0), (.i .u8 0), (.i .u8 0), (.i .u8 0), (.i .u8 0), (.i .u8 0), (.i .u8 0), (.i .u8 0), (.i .u8 0), (.i .u8 0), (.i .u8 0), (.i .u8 0), (.i .u8 0), (.i .u8 0), (.i .u8 0), (.i .u8 0), (.i .u8 0), (.i .u8 0), (.i .u8 0), (.i .u8 0), (.i .u8 0), (.i .u8 0), (.i .u8 0), (.i .u8 0), (.i .u8 0), (.i .u8 0), (.i .u8 0), (.i .u8 0), (.i .u8 0), (.i .u8 0), (.i .u8 0), (.i .u8 0), (.i .u8 0), (.i .u8 0), (.i .u8 0), (.i .u8 0), (.i .u8 0), (.i .u8 0), (.i .u8 0), (.i .u8 0), (.i .u8 0), (.i .u8 0), (.i .u8 0), (.i .u8 0), (.i .u8 0), (.i .u8 0), (.i .u8 0), (.i .u8 0), (.i .u8 0), (.i .u8 0), (.i .u8 0), (.i .u8 0), (.i .u8 0), (.i .u8 0), (.i .u8 0), (.i .u8 0), (.i .u8 0), (.i .u8 0), (.i .u8 0), (.i .u8 0), (.i .u8 0), (.i .u8 0), (.i .u8 0), (.i .u8 0), (.i .u8 0), (.i .u8 0), (.i .u8 0), (.i .u8 0), (.i .u8 0), (.i .u8 0), (.i .u8 0), (.i .u8 0), (.i .u8 0), (.i .u8 0), (.i .u8 0), (.i .u8 0), (.i .u8 0), (.i .u8 0), (.i .u8 0), (.i .u8 0), (.i .u8 0), (.i .u8 0), (.i .u8 0), (.i .u8 0), (.i .u8 0), (.i .u8 0), (.i .u8 0), (.i .u8 0), (.i .u8 0), (.i .u8 0), (.i .u8 0), (.i .u8 0), (.i .u8 0), (.i .u8 0), (.i .u8 0), (.i .u8 0), (.i .u8 0), (.i .u8 0), (.i .u8 0), (.i .u8 0), (.i .u8 0), (.i .u8 0), (.i .u8 0), (.i .u8 0), (.i .u8 0), (.i .u8 0), (.i .u8 0), (.i .u8 0), (.i .u8 0), (.i .u8 0), (.i .u8 0), (.i .u8 0), (.i .u8 0), (.i .u8 0), (.i .u8 0), (.i .u8 0), (.i .u8 0), (.i .u8 0), (.i .u8 0), (.i .u8 0), (.i .u8 0), (.i .u8 0), (.i .u8 0), (.i .u8 0), (.i .u8 0), (.i .u8 0), (.i .u8 0), (.i .u8 0), (.i .u8 0), (.i .u8 0), (.i .u8 0), (.i .u8 0), (.i .u8 0), (.i .u8 0), (.i .u8 0), (.i .u8 0), (.i .u8 0), (.i .u8 0), (.i .u8 0), (.i .u8 0), (.i .u8 0), (.i .u8 0), (.i .u8 0), (.i .u8 0), (.i .u8 0), (.i .u8 0), (.i .u8 0), (.i .u8 0), (.i .u8 0), (.i .u8 0), (.i .u8 0), (.i .u8 0), (.i .u8 0), (.i .u8 0), (.i .u8 0), (.i .u8 0), (.i .u8 0), (.i .u8 0), (.i .u8 0), (.i .u8 0), (.i .u8 0), (.i .u8 0), (.i .u8 0), (.i .u8 0), (.i .u8 0), (.i .u8 0), (.i .u8 0), (.i .u8 0), (.i .u8 0), (.i .u8 0), (.i .u8 0), (.i .u8 0), (.i .u8 0), (.i .u8 0), (.i .u8 0), (.i .u8 0), (.i .u8 0), (.i .u8 0), (.i .u8 0), (.i .u8 0), (.i .u8 0), (.i .u8 0), (.i .u8 0), (.i .u8 0), (.i .u8 0)] [(9, 1, (.c (.i .u8 1))), (10, 1, (.c (.i .u8 1))), (11, 1, (.c (.i .u8 1))), (12, 1, (.c (.i .u8 1))), (13, 1, (.c (.i .u8 1))), (32, 1, (.c (.i .u8 1)))], none⟩,
    ⟨none, .store none ⟨256, true⟩ (.g 0 (glD 0)) (.t 14), none⟩]))))))))))⟩
def prog (n : Nat) : Option Fn :=
  bif Nat.beq n 2 then some f_gosem_cut_init else
  bif Nat.beq n 3 then some f_waferlaw5_RiscWords else
  bif Nat.beq n 4 then some f_waferlaw5_RiscInstrs else
  bif Nat.beq n 5 then some f_waferlaw5_known else
  bif Nat.beq n 6 then some f_risc_Decode else
  bif Nat.beq n 7 then some f_waferref5_Decode else
  bif Nat.beq n 8 then some f_risc_Encode else
  bif Nat.beq n 9 then some f_risc_Text else
  bif Nat.beq n 10 then some f_waferref5_Text else
  bif Nat.beq n 11 then some f_waferref5_Encode else
  bif Nat.beq n 12 then some f_risc_field else
  bif Nat.beq n 13 then some f_risc_extend else
  bif Nat.beq n 14 then some f_waferref5_signed else
  bif Nat.beq n 15 then some f_risc_right else
  bif Nat.beq n 16 then some f_risc_bit else
  bif Nat.beq n 17 then some f_strconv_Itoa else
  bif Nat.beq n 18 then some f_risc_reg else
  bif Nat.beq n 19 then some f_risc_ops else
  bif Nat.beq n 20 then some f_risc_either else
  bif Nat.beq n 21 then some f_risc_conditions else
  bif Nat.beq n 22 then some f_strings_Join else
  bif Nat.beq n 23 then some f_waferref5_dec else
  bif Nat.beq n 24 then some f_waferref5_reg else
  bif Nat.beq n 25 then some f_waferref5_in else
  bif Nat.beq n 26 then some f_waferref5_bit else
  bif Nat.beq n 27 then some f_risc_nibble else
  bif Nat.beq n 28 then some f_risc_signed else
  bif Nat.beq n 29 then some f_internal_strconv_Itoa else
  bif Nat.beq n 30 then some f_strings_Fields else
  bif Nat.beq n 31 then some f_strings_Builder_Grow else
  bif Nat.beq n 32 then some f_strings_Builder_WriteString else
  bif Nat.beq n 33 then some f_strings_Builder_String else
  bif Nat.beq n 34 then some f_internal_strconv_FormatInt else
  bif Nat.beq n 35 then some f_strings_FieldsFunc else
  bif Nat.beq n 36 then some f_unicode_IsSpace else
  bif Nat.beq n 37 then some f_strings_Builder_copyCheck else
  bif Nat.beq n 38 then some f_strings_Builder_grow else
  bif Nat.beq n 39 then some f_internal_strconv_small else
  bif Nat.beq n 40 then some f_internal_strconv_numDigits else
  bif Nat.beq n 41 then some f_internal_strconv_formatBase10 else
  bif Nat.beq n 42 then some f_internal_strconv_formatBits else
  bif Nat.beq n 43 then some f_unicode_isExcludingLatin else
  bif Nat.beq n 46 then some f_internal_strconv_log10Pow2 else
  bif Nat.beq n 47 then some f_math_bits_Len64 else
  bif Nat.beq n 48 then some f_internal_strconv_bool2_int_ else
  bif Nat.beq n 49 then some f_internal_strconv_isPowerOfTwo else
  bif Nat.beq n 50 then some f_math_bits_TrailingZeros else
  bif Nat.beq n 51 then some f_unicode_is16 else
  bif Nat.beq n 52 then some f_unicode_is32 else
  bif Nat.beq n 53 then some f_math_bits_TrailingZeros32 else
  bif Nat.beq n 54 then some f_math_bits_TrailingZeros64 else
  bif Nat.beq n 83 then some f_gosem_cut_vars else none
end W

/-
  More equations: nil slices, shifts, bits, bytes.
-/
set_option linter.unusedSimpArgs false
set_option linter.unusedVariables false
namespace W
open Go (IntKind BinOp UnOp)

theorem ownV_oslT {xs : List D} : ownV true (.osl xs) = some (.osl xs) := (rfl)
theorem ownV_tup {own : Bool} {xs : List V} (h : own = true) : ownV own (.tup xs) = some (.tup xs) := by subst h; rfl
theorem isC_t {n : Nat} : isC (.t n) = false := (rfl)
theorem isC_c {x : D} : isC (.c x) = true := (rfl)
theorem isC_mv {n : Nat} : isC (.mv n) = false := (rfl)
theorem isC_f {n : Nat} : isC (.f n) = false := (rfl)
theorem eql_nil_nil : binV .eql .slice true (.d .nil) (.d .nil) = some (.d (.b true)) := (rfl)
theorem eql_nil_sl {xs : List D} : binV .eql .slice true (.d (.sl xs)) (.d .nil) = some (.d (.b false)) := (rfl)
theorem neq_nil_nil : binV .neq .slice true (.d .nil) (.d .nil) = some (.d (.b false)) := (rfl)
theorem neq_nil_sl {xs : List D} : binV .neq .slice true (.d (.sl xs)) (.d .nil) = some (.d (.b true)) := (rfl)
theorem eql_nm {i : Nat} : binV .eql .map true (.map i) (.d .nm) = some (.d (.b false)) := (rfl)
theorem bin_shl {c : Bool} {k k' : IntKind} {m n : Int} (h : (0 ≤ n) = True) : binV .shl .num c (.d (.i k m)) (.d (.i k' n)) = some (.d (.i k (wr k (m * 2 ^ (min n.toNat k.bits))))) := by
  have h : 0 ≤ n := by rw [h]; trivial
  simp [binV, isShift, shiftInt, leI_d, h]
theorem bin_shr {c : Bool} {k k' : IntKind} {m n : Int} (h : (0 ≤ n) = True) : binV .shr .num c (.d (.i k m)) (.d (.i k' n)) = some (.d (.i k (m.fdiv (2 ^ (min n.toNat k.bits))))) := by
  have h : 0 ≤ n := by rw [h]; trivial
  simp [binV, isShift, shiftInt, leI_d, h]
def orI (k : IntKind) (a b : Int) : Int := k.wrap ((BitVec.ofInt k.bits a) ||| (BitVec.ofInt k.bits b)).toNat
def andI (k : IntKind) (a b : Int) : Int := k.wrap ((BitVec.ofInt k.bits a) &&& (BitVec.ofInt k.bits b)).toNat
def xorI (k : IntKind) (a b : Int) : Int := k.wrap ((BitVec.ofInt k.bits a) ^^^ (BitVec.ofInt k.bits b)).toNat
theorem bin_or {c : Bool} {k : IntKind} {m n : Int} : binV .or .num c (.d (.i k m)) (.d (.i k n)) = some (.d (.i k (orI k m n))) := by rw [bin_i rfl]; rfl
theorem bin_and {c : Bool} {k : IntKind} {m n : Int} : binV .and .num c (.d (.i k m)) (.d (.i k n)) = some (.d (.i k (andI k m n))) := by rw [bin_i rfl]; rfl
theorem bin_xor {c : Bool} {k : IntKind} {m n : Int} : binV .xor .num c (.d (.i k m)) (.d (.i k n)) = some (.d (.i k (xorI k m n))) := by rw [bin_i rfl]; rfl

def killV (s : Nat) (v : V) : V := match v with | .lp t o => bif Nat.beq t s then .undef else .lp t o | v => v
theorem killLp_nil {s : Nat} : killLp s [] = [] := (rfl)
theorem killLp_cons {s n : Nat} {v : V} {e : Env} : killLp s ((n, v) :: e) = (n, killV s v) :: killLp s e := (rfl)
theorem killV_d {s : Nat} {x : D} : killV s (.d x) = .d x := (rfl)
theorem killV_osl {s : Nat} {x : List D} : killV s (.osl x) = .osl x := (rfl)
theorem killV_ptr {s i o : Nat} : killV s (.ptr i o) = .ptr i o := (rfl)
theorem killV_map {s i : Nat} : killV s (.map i) = .map i := (rfl)
theorem killV_box {s : Nat} {x : List V} : killV s (.box x) = .box x := (rfl)
theorem killV_cp {s : Nat} {x : D} : killV s (.cp x) = .cp x := (rfl)
theorem killV_agg {s : Nat} {x : List V} : killV s (.agg x) = .agg x := (rfl)
theorem killV_tup {s : Nat} {x : List V} : killV s (.tup x) = .tup x := (rfl)
theorem killV_fn {s i : Nat} {x y : List V} : killV s (.fn i x y) = .fn i x y := (rfl)
theorem killV_ifc {s i : Nat} {x : V} : killV s (.ifc i x) = .ifc i x := (rfl)
theorem killV_undef {s : Nat} : killV s .undef = .undef := (rfl)
theorem killV_lp {s t o : Nat} : killV s (.lp t o) = bif Nat.beq t s then .undef else .lp t o := (rfl)
theorem killV_rs {s a b c d : Nat} : killV s (.rs a b c d) = .rs a b c d := (rfl)
theorem killV_slV {α : Type} {s : Nat} {e : α → D} {L : List α} : killV s (slV e L) = slV e L := by cases L <;> rfl
theorem setCells_all {cs vs : List V} (h : (vs.length = cs.length) = True) : setCells cs 0 vs = some vs := by
  have h : vs.length = cs.length := by rw [h]; trivial
  simp [setCells, h]
theorem setCells_2 {cs : List V} {o : Nat} {v w : V} (h : (o + 1 < cs.length) = True) : setCells cs o [v, w] = some ((cs.set o v).set (o + 1) w) := by
  have h : o + 1 < cs.length := by rw [h]; trivial
  have : o + [v, w].length ≤ cs.length := by simp; omega
  rw [setCells, if_pos this]
  congr 1
  apply List.ext_getElem?
  intro j
  simp only [List.getElem?_append, List.length_append, List.length_take, List.length_cons, List.length_nil, List.getElem?_drop, List.getElem?_set, List.length_set, List.getElem?_take]
  rcases Nat.lt_trichotomy j o with hj | hj | hj
  · rw [if_pos (by omega), if_pos (by omega), if_pos (by omega), if_neg (by omega), if_neg (by omega)]
  · subst hj
    rw [if_pos (by omega), if_neg (by omega), if_neg (by omega), if_pos rfl, if_pos (by omega)]
    have : j - min j cs.length = 0 := by omega
    simp [this]
  · by_cases hj2 : j = o + 1
    · subst hj2
      rw [if_pos (by omega), if_neg (by omega), if_pos rfl, if_pos (by omega)]
      have : o + 1 - min o cs.length = 1 := by omega
      simp [this]
    · rw [if_neg (by omega), if_neg (by omega), if_neg (by omega)]
      congr 1; omega
def cpV (r : Option D) : Option V := match r with | some y => bif y.one then some (.cp y) else none | none => none
theorem faV_cpc {cs : List D} {off : Nat} : faV (.cp (.agg cs)) off ⟨1, false⟩ = cpV (cs[off]?) := by
  simp only [faV, D.part, cpV]
  cases h : cs[off]? with
  | none => simp [h]
  | some y => cases hy : y.one <;> simp [h, hy]
theorem cpV_i {k : IntKind} {n : Int} : cpV (some (.i k n)) = some (.cp (.i k n)) := (rfl)
theorem cpV_s {x : List Nat} : cpV (some (.s x)) = some (.cp (.s x)) := (rfl)
theorem cpV_b {x : Bool} : cpV (some (.b x)) = some (.cp (.b x)) := (rfl)
theorem cpV_sl {x : List D} : cpV (some (.sl x)) = some (.cp (.sl x)) := (rfl)
theorem cpV_nil : cpV (some .nil) = some (.cp .nil) := (rfl)
theorem cpV_slD {α : Type} {e : α → D} {L : List α} : cpV (some (slD e L)) = some (.cp (slD e L)) := by cases L <;> rfl
theorem resultV_cell {own : Bool} {st : St} {n : Nat} {l : L} : resultV own st (.cell n l) = boxV l 0 (get n st.env) := (rfl)
theorem boxK_alloc {b : Bool} {cs : List D} : boxK (.alloc b cs) = b := (rfl)
theorem boxK_box {b : Bool} {x : O} : boxK (.box b x) = b := (rfl)
def boxD (r : Bool) (n : Nat) (cs : List V) (st : St) : Option St := bif r then some { st with env := (n, .box cs) :: st.env } else none
theorem putD_bx {no : List Nat} {n : Nat} {cs : List V} {st : St} : putD true no (some n) (.box cs) st = boxD (noLp n st.env) n cs st := by
  simp only [putD, boxD, Bool.true_and]
theorem boxD_t {n : Nat} {cs : List V} {st : St} : boxD true n cs st = some ⟨(n, .box cs) :: st.env, st.H, st.lo⟩ := (rfl)
def lpD (r : Bool) (n m o : Nat) (st : St) : Option St := bif r then none else some { st with env := (n, .lp m o) :: st.env }
theorem putD_lp {bx : Bool} {no : List Nat} {n m o : Nat} {st : St} : putD bx no (some n) (.lp m o) st = lpD (hasNat m no) n m o st := (rfl)
theorem lpD_f {n m o : Nat} {st : St} : lpD false n m o st = some ⟨(n, .lp m o) :: st.env, st.H, st.lo⟩ := (rfl)
theorem hasNat_nil {n : Nat} : hasNat n [] = false := (rfl)
theorem hasNat_cons {n m : Nat} {l : List Nat} : hasNat n (m :: l) = (Nat.beq n m || hasNat n l) := (rfl)
theorem takeV_rs {i o n c : Nat} : takeV (.rs i o n c) = .rs i o n c := (rfl)
theorem takeV_ptr {i o : Nat} : takeV (.ptr i o) = .ptr i o := (rfl)
theorem takeV_map {i : Nat} : takeV (.map i) = .map i := (rfl)
theorem takeV_cp {x : D} : takeV (.cp x) = .cp x := (rfl)
theorem takeV_lp {i o : Nat} : takeV (.lp i o) = .lp i o := (rfl)
theorem takeV_fn {i : Nat} {u w : List V} : takeV (.fn i u w) = .fn i u w := (rfl)
theorem takeV_ifc {t : Nat} {w : V} : takeV (.ifc t w) = .ifc t w := (rfl)
theorem takeV_agg {w : List V} : takeV (.agg w) = .agg w := (rfl)
theorem takeV_tup {w : List V} : takeV (.tup w) = .tup w := (rfl)
theorem putD_rs {bx : Bool} {no : List Nat} {n a b c d : Nat} {st : St} : putD bx no (some n) (.rs a b c d) st = some ⟨(n, .rs a b c d) :: st.env, st.H, st.lo⟩ := by cases bx <;> rfl
theorem putD_slV {α : Type} {bx : Bool} {no : List Nat} {n : Nat} {e : α → D} {L : List α} {st : St} : putD bx no (some n) (slV e L) st = some ⟨(n, slV e L) :: st.env, st.H, st.lo⟩ := by cases L <;> rfl
def noL (n : Nat) (v : V) : Bool := match v with | .lp m _ => !Nat.beq m n | _ => true
theorem noLp_nil {n : Nat} : noLp n [] = true := (rfl)
theorem noLp_c {n k : Nat} {v : V} {e : Env} : noLp n ((k, v) :: e) = (noL n v && noLp n e) := by cases v <;> rfl
theorem noL_d {n : Nat} {x : D} : noL n (.d x) = true := (rfl)
theorem noL_osl {n : Nat} {x : List D} : noL n (.osl x) = true := (rfl)
theorem noL_ptr {n i o : Nat} : noL n (.ptr i o) = true := (rfl)
theorem noL_map {n i : Nat} : noL n (.map i) = true := (rfl)
theorem noL_box {n : Nat} {x : List V} : noL n (.box x) = true := (rfl)
theorem noL_cp {n : Nat} {x : D} : noL n (.cp x) = true := (rfl)
theorem noL_agg {n : Nat} {x : List V} : noL n (.agg x) = true := (rfl)
theorem noL_tup {n : Nat} {x : List V} : noL n (.tup x) = true := (rfl)
theorem noL_fn {n i : Nat} {x y : List V} : noL n (.fn i x y) = true := (rfl)
theorem noL_ifc {n i : Nat} {x : V} : noL n (.ifc i x) = true := (rfl)
theorem noL_undef {n : Nat} : noL n .undef = true := (rfl)
theorem noL_rs {n a b c d : Nat} : noL n (.rs a b c d) = true := (rfl)
theorem noL_lp {n m o : Nat} : noL n (.lp m o) = !Nat.beq m n := (rfl)
theorem noL_slV {α : Type} {n : Nat} {e : α → D} {L : List α} : noL n (slV e L) = true := by cases L <;> rfl
/-- A byte. -/
def e8 (n : Nat) : D := .i .u8 (n : Int)
theorem e8_cells (n : Nat) : (e8 n).cells.length = 1 := rfl

theorem wrap_u8 (n : Nat) (h : n < 256) : IntKind.wrap .u8 (n : Int) = (n : Int) := by
  simp [IntKind.wrap, IntKind.bits, IntKind.signed]; omega
theorem or_more {n : Nat} (h : n < 128) : orI .u8 (n : Int) 128 = ((n + 128 : Nat) : Int) := by
  have key : ∀ m : Fin 128, orI .u8 ((m.val : Nat) : Int) 128 = ((m.val + 128 : Nat) : Int) := by decide +kernel
  exact key ⟨n, h⟩
theorem conv_u8 (n : Nat) : wr .u8 (n : Int) = ((n % 256 : Nat) : Int) := by
  by_cases h : n ≤ 255
  · rw [wr_u8 (by omega) (by omega), Nat.mod_eq_of_lt (by omega)]
  · show (bif Nat.ble n 255 then (Int.ofNat n) else IntKind.wrap .u8 (Int.ofNat n)) = _
    have : Nat.ble n 255 = false := by rw [ble_d]; simp; omega
    rw [this]
    simp [IntKind.wrap, IntKind.bits, IntKind.signed]
theorem or_more' {n : Nat} : orI .u8 ((n % 256 : Nat) : Int) 128 = ((n % 128 + 128 : Nat) : Int) := by
  have key : ∀ m : Fin 256, orI .u8 ((m.val : Nat) : Int) 128 = ((m.val % 128 + 128 : Nat) : Int) := by decide +kernel
  have := key ⟨n % 256, Nat.mod_lt _ (by omega)⟩
  simp only at this
  rw [this]
  omega
theorem shr7 (n : Nat) : Int.fdiv (n : Int) (2 ^ (min (7 : Int).toNat (IntKind.bits .u64))) = ((n / 128 : Nat) : Int) := by
  show Int.fdiv (n : Int) (2 ^ 7) = _
  rw [Int.fdiv_eq_ediv_of_nonneg _ (by omega)]
  omega
end W

/-
  What a value of the small semantics stands for in the model's memory; that this stays as memory grows.
-/
namespace W
open Go (World Value Addr IntKind Program TypeId FuncId)

/-- Who alone may write a block (or its unpublished part). -/
inductive Loc where
  | slot (n : Nat)
  | bblk (n : Nat)
  | bcell (n i : Nat)
  | oblk (id : Nat)
  | ocell (id i : Nat)
  | out
  deriving DecidableEq

structure Gh where
  n : Nat
  φ : Nat → Nat
  pub : Nat → Nat
  own : Nat → Option Loc

mutual
inductive RepD (pub : Nat → Nat) (w : World) : D → Value → Prop
  | b (x : Bool) : RepD pub w (.b x) (.bool x)
  | i (k : IntKind) (n : Int) : RepD pub w (.i k n) (.int k n)
  | s (t : List Nat) (x : ByteArray) (h : x.data.toList.map (·.toNat) = t) : RepD pub w (.s t) (.string x)
  | nil : RepD pub w .nil (.slice none 0 0)
  | sl0 (a : Addr) (cap : Nat) : RepD pub w (.sl []) (.slice (some a) 0 cap)
  | sl (xs : List D) (b off cap sz : Nat) (vs : List Value) (hne : xs ≠ []) (hsz : ∀ x ∈ xs, x.cells.length = sz)
      (hr : RepDL pub w (xs.flatMap D.cells) vs) (hc : ∀ j v, vs[j]? = some v → w.cell? ⟨b, off + j, none⟩ = some v)
      (hp : off + vs.length ≤ pub b) (hcap : xs.length ≤ cap) (hone : ∀ u ∈ vs, u.oneCell' = true) : RepD pub w (.sl xs) (.slice (some ⟨b, off, none⟩) xs.length cap)
  | agg (cs : List D) (vs : Array Value) (h : RepDL pub w cs vs.toList) : RepD pub w (.agg cs) (.agg vs)
  | np : RepD pub w .np (.pointer none)
  | nf : RepD pub w .nf .nilFunc
  | ni : RepD pub w .ni .nilIface
  | nm : RepD pub w .nm (.map none)
inductive RepDL (pub : Nat → Nat) (w : World) : List D → List Value → Prop
  | nil : RepDL pub w [] []
  | cons (x : D) (v : Value) (l : List D) (vs : List Value) (h : RepD pub w x v) (hl : RepDL pub w l vs) : RepDL pub w (x :: l) (v :: vs)
end

mutual
theorem RepD.mono {pub pub' : Nat → Nat} {w w' : World} (hp : ∀ b, pub b ≤ pub' b) (hc : ∀ b o, o < pub b → w'.cell? ⟨b, o, none⟩ = w.cell? ⟨b, o, none⟩) :
    ∀ {x : D} {v : Value}, RepD pub w x v → RepD pub' w' x v
  | _, _, .b x => .b x
  | _, _, .i k n => .i k n
  | _, _, .s t x h => .s t x h
  | _, _, .nil => .nil
  | _, _, .sl0 a cap => .sl0 a cap
  | _, _, .sl xs b off cap sz vs hne hsz hr hcc hpp hcap hone => .sl xs b off cap sz vs hne hsz (RepDL.mono hp hc hr)
      (fun j v hj => by
        have hlt : j < vs.length := (List.getElem?_eq_some_iff.1 hj).1
        rw [hc b (off + j) (by omega)]; exact hcc j v hj) (Nat.le_trans hpp (hp b)) hcap hone
  | _, _, .agg cs vs h => .agg cs vs (RepDL.mono hp hc h)
  | _, _, .np => .np
  | _, _, .nf => .nf
  | _, _, .ni => .ni
  | _, _, .nm => .nm
theorem RepDL.mono {pub pub' : Nat → Nat} {w w' : World} (hp : ∀ b, pub b ≤ pub' b) (hc : ∀ b o, o < pub b → w'.cell? ⟨b, o, none⟩ = w.cell? ⟨b, o, none⟩) :
    ∀ {l : List D} {vs : List Value}, RepDL pub w l vs → RepDL pub' w' l vs
  | _, _, .nil => .nil
  | _, _, .cons x v l vs h hl => .cons x v l vs (RepD.mono hp hc h) (RepDL.mono hp hc hl)
end

theorem RepDL.length {pub : Nat → Nat} {w : World} : ∀ {l : List D} {vs : List Value}, RepDL pub w l vs → l.length = vs.length
  | _, _, .nil => rfl
  | _, _, .cons _ _ _ _ _ hl => by simp [RepDL.length hl]

theorem RepDL.append {pub : Nat → Nat} {w : World} : ∀ {l : List D} {vs : List Value} {l' : List D} {vs' : List Value}, RepDL pub w l vs → RepDL pub w l' vs' → RepDL pub w (l ++ l') (vs ++ vs')
  | _, _, _, _, .nil, h' => h'
  | _, _, _, _, .cons x v l vs h hl, h' => .cons x v _ _ h (RepDL.append hl h')

theorem RepDL.get {pub : Nat → Nat} {w : World} : ∀ {l : List D} {vs : List Value}, RepDL pub w l vs → ∀ (i : Nat) (x : D), l[i]? = some x → ∃ v, vs[i]? = some v ∧ RepD pub w x v
  | _, _, .nil, i, x, h => by simp at h
  | _, _, .cons y v l vs hy hl, 0, x, h => ⟨v, rfl, by simp at h; exact h ▸ hy⟩
  | _, _, .cons y v l vs hy hl, i + 1, x, h => by simpa using RepDL.get hl i x (by simpa using h)

theorem RepDL.take {pub : Nat → Nat} {w : World} : ∀ {l : List D} {vs : List Value}, RepDL pub w l vs → ∀ n, RepDL pub w (l.take n) (vs.take n)
  | _, _, .nil, n => by simpa using RepDL.nil
  | _, _, .cons x v l vs h hl, 0 => RepDL.nil
  | _, _, .cons x v l vs h hl, n + 1 => .cons x v _ _ h (RepDL.take hl n)
theorem RepDL.drop {pub : Nat → Nat} {w : World} : ∀ {l : List D} {vs : List Value}, RepDL pub w l vs → ∀ n, RepDL pub w (l.drop n) (vs.drop n)
  | _, _, .nil, n => by simpa using RepDL.nil
  | _, _, .cons x v l vs h hl, 0 => .cons x v _ _ h hl
  | _, _, .cons x v l vs h hl, n + 1 => RepDL.drop hl n

/-- The value's cells stand for the datum's. -/
theorem RepD.cells {pub : Nat → Nat} {w : World} {x : D} {v : Value} (h : RepD pub w x v) : RepDL pub w x.cells v.cells.toList := by
  cases h with
  | agg cs vs h => exact h
  | b x => exact .cons _ _ _ _ (.b x) .nil
  | i k n => exact .cons _ _ _ _ (.i k n) .nil
  | s t x h => exact .cons _ _ _ _ (.s t x h) .nil
  | nil => exact .cons _ _ _ _ .nil .nil
  | sl0 a cap => exact .cons _ _ _ _ (.sl0 a cap) .nil
  | sl xs b off cap sz vs hne hsz hr hc hp hcap hone => exact .cons _ _ _ _ (.sl xs b off cap sz vs hne hsz hr hc hp hcap hone) .nil
  | np => exact .cons _ _ _ _ .np .nil
  | nf => exact .cons _ _ _ _ .nf .nil
  | ni => exact .cons _ _ _ _ .ni .nil
  | nm => exact .cons _ _ _ _ .nm .nil

mutual
inductive RepS (M : Maps) (g : Gh) (w : World) : V → Value → Prop
  | d (x : D) (c : Value) (h : RepD g.pub w x c) : RepS M g w (.d x) c
  | ptr (id off : Nat) (h : id < g.n) : RepS M g w (.ptr id off) (.pointer (some ⟨g.φ id, off, none⟩))
  | rs (id off len cap : Nat) (h : id < g.n) (hc : len ≤ cap) : RepS M g w (.rs id off len cap) (.slice (some ⟨g.φ id, off, none⟩) len cap)
  | map (id : Nat) (h : id < g.n) : RepS M g w (.map id) (.map (some (g.φ id)))
  | fn (f f' : Nat) (first cap : List V) (fv cv : Array Value) (h : look M.fm f' = some f) (h1 : RepSL M g w first fv.toList) (h2 : RepSL M g w cap cv.toList) :
      RepS M g w (.fn f first cap) (.func (.func f') fv cv)
  | ifc (t t' : Nat) (x : V) (c : Value) (h : look M.tm t' = some t) (hx : RepS M g w x c) : RepS M g w (.ifc t x) (.iface t' c)
  | agg (cs : List V) (vs : Array Value) (h : RepSL M g w cs vs.toList) : RepS M g w (.agg cs) (.agg vs)
  | tup (cs : List V) (vs : Array Value) (h : RepSL M g w cs vs.toList) : RepS M g w (.tup cs) (.tuple vs)
  | undef (c : Value) : RepS M g w .undef c
inductive RepSL (M : Maps) (g : Gh) (w : World) : List V → List Value → Prop
  | nil : RepSL M g w [] []
  | cons (x : V) (v : Value) (l : List V) (vs : List Value) (h : RepS M g w x v) (hl : RepSL M g w l vs) : RepSL M g w (x :: l) (v :: vs)
end

/-- Memory has grown: what is published is as it was. -/
structure Grow (g : Gh) (w : World) (g' : Gh) (w' : World) : Prop where
  size : w.heap.size ≤ w'.heap.size
  pub : ∀ b, g.pub b ≤ g'.pub b
  cell : ∀ b o, o < g.pub b → w'.cell? ⟨b, o, none⟩ = w.cell? ⟨b, o, none⟩

theorem Grow.refl (g : Gh) (w : World) : Grow g w g w := ⟨Nat.le_refl _, fun _ => Nat.le_refl _, fun _ _ _ => rfl⟩
theorem Grow.trans {g g' g'' : Gh} {w w' w'' : World} (h : Grow g w g' w') (h' : Grow g' w' g'' w'') : Grow g w g'' w'' :=
  ⟨Nat.le_trans h.size h'.size, fun b => Nat.le_trans (h.pub b) (h'.pub b), fun b o ho => (h'.cell b o (Nat.lt_of_lt_of_le ho (h.pub b))).trans (h.cell b o ho)⟩

mutual
/-- A value that names objects below n alone stays, where these stay. -/
theorem RepS.mono {M : Maps} {g g' : Gh} {w w' : World} (hg : Grow g w g' w') {n : Nat} (hn : n ≤ g'.n) (hφ : ∀ id, id < n → g'.φ id = g.φ id) :
    ∀ {x : V} {v : Value}, RepS M g w x v → x.ref ≤ n → RepS M g' w' x v
  | _, _, .d x c h, _ => .d x c (h.mono hg.pub hg.cell)
  | _, _, .ptr id off h, hr => by
      simp only [V.ref] at hr
      rw [← hφ id (by omega)]; exact .ptr id off (by omega)
  | _, _, .rs id off len cap h hc, hr => by
      simp only [V.ref] at hr
      rw [← hφ id (by omega)]; exact .rs id off len cap (by omega) hc
  | _, _, .map id h, hr => by
      simp only [V.ref] at hr
      rw [← hφ id (by omega)]; exact .map id (by omega)
  | _, _, .fn f f' first cap fv cv h h1 h2, hr => by
      simp only [V.ref] at hr
      exact .fn f f' first cap fv cv h (RepSL.mono hg hn hφ h1 (by omega)) (RepSL.mono hg hn hφ h2 (by omega))
  | _, _, .ifc t t' x c h hx, hr => .ifc t t' x c h (RepS.mono hg hn hφ hx (by simpa [V.ref] using hr))
  | _, _, .agg cs vs h, hr => .agg cs vs (RepSL.mono hg hn hφ h (by simpa [V.ref] using hr))
  | _, _, .tup cs vs h, hr => .tup cs vs (RepSL.mono hg hn hφ h (by simpa [V.ref] using hr))
  | _, _, .undef c, _ => .undef c
theorem RepSL.mono {M : Maps} {g g' : Gh} {w w' : World} (hg : Grow g w g' w') {n : Nat} (hn : n ≤ g'.n) (hφ : ∀ id, id < n → g'.φ id = g.φ id) :
    ∀ {l : List V} {vs : List Value}, RepSL M g w l vs → V.ref.refs l ≤ n → RepSL M g' w' l vs
  | _, _, .nil, _ => .nil
  | _, _, .cons x v l vs h hl, hr => by
      simp only [V.ref.refs] at hr
      exact .cons x v l vs (RepS.mono hg hn hφ h (by omega)) (RepSL.mono hg hn hφ hl (by omega))
end

mutual
theorem RepS.ref {M : Maps} {g : Gh} {w : World} : ∀ {x : V} {v : Value}, RepS M g w x v → x.ref ≤ g.n
  | _, _, .d x c h => by simp [V.ref]
  | _, _, .ptr id off h => by simp only [V.ref]; omega
  | _, _, .rs id off len cap h hc => by simp only [V.ref]; omega
  | _, _, .map id h => by simp only [V.ref]; omega
  | _, _, .fn f f' first cap fv cv h h1 h2 => by
      simp only [V.ref]; have := RepSL.ref h1; have := RepSL.ref h2; omega
  | _, _, .ifc t t' x c h hx => by simp only [V.ref]; exact RepS.ref hx
  | _, _, .agg cs vs h => by simp only [V.ref]; exact RepSL.ref h
  | _, _, .tup cs vs h => by simp only [V.ref]; exact RepSL.ref h
  | _, _, .undef c => by simp [V.ref]
theorem RepSL.ref {M : Maps} {g : Gh} {w : World} : ∀ {l : List V} {vs : List Value}, RepSL M g w l vs → V.ref.refs l ≤ g.n
  | _, _, .nil => by simp [V.ref.refs]
  | _, _, .cons x v l vs h hl => by simp only [V.ref.refs]; have := RepS.ref h; have := RepSL.ref hl; omega
end

theorem RepSL.length {M : Maps} {g : Gh} {w : World} : ∀ {l : List V} {vs : List Value}, RepSL M g w l vs → l.length = vs.length
  | _, _, .nil => rfl
  | _, _, .cons _ _ _ _ _ hl => by simp [RepSL.length hl]
theorem RepSL.append {M : Maps} {g : Gh} {w : World} : ∀ {l : List V} {vs : List Value} {l' : List V} {vs' : List Value}, RepSL M g w l vs → RepSL M g w l' vs' → RepSL M g w (l ++ l') (vs ++ vs')
  | _, _, _, _, .nil, h' => h'
  | _, _, _, _, .cons x v l vs h hl, h' => .cons x v _ _ h (RepSL.append hl h')
theorem RepSL.get {M : Maps} {g : Gh} {w : World} : ∀ {l : List V} {vs : List Value}, RepSL M g w l vs → ∀ (i : Nat) (x : V), l[i]? = some x → ∃ v, vs[i]? = some v ∧ RepS M g w x v
  | _, _, .nil, i, x, h => by simp at h
  | _, _, .cons y v l vs hy hl, 0, x, h => ⟨v, rfl, by simp at h; exact h ▸ hy⟩
  | _, _, .cons y v l vs hy hl, i + 1, x, h => by simpa using RepSL.get hl i x (by simpa using h)
theorem RepSL.ofD {M : Maps} {g : Gh} {w : World} : ∀ {l : List D} {vs : List Value}, RepDL g.pub w l vs → RepSL M g w (l.map .d) vs
  | _, _, .nil => .nil
  | _, _, .cons x v l vs h hl => .cons _ _ _ _ (.d x v h) (RepSL.ofD hl)

end W

/-
  A frame's slots and the objects, and what they stand for; reading an operand; laying a value into a slot.
-/
namespace W
open Go (World Value Addr IntKind Program TypeId FuncId Operand)

/-- A slice that one place alone may grow: what lies behind its cells is free. -/
inductive OwnSl (g : Gh) (w : World) (ℓ : Loc) : List D → Value → Prop
  | mk (xs : List D) (b off cap sz : Nat) (vs : List Value) (arr : Array Value) (T : TypeId) (fz : Nat × Nat) (hne : xs ≠ []) (hsz : ∀ x ∈ xs, x.cells.length = sz)
      (hr : RepDL g.pub w (xs.flatMap D.cells) vs) (hc : ∀ j v, vs[j]? = some v → w.cell? ⟨b, off + j, none⟩ = some v)
      (hp : g.pub b = off + vs.length) (hcap : xs.length ≤ cap) (hone : ∀ u ∈ vs, u.oneCell' = true) (ho : g.own b = some ℓ) (hb : w.heap[b]? = some (.cells arr T fz)) (ha : off + cap * sz ≤ arr.size)
      (hf : ∀ o, off + vs.length ≤ o → o < off + cap * sz → w.frozen? ⟨b, o, none⟩ = false) : OwnSl g w ℓ xs (.slice (some ⟨b, off, none⟩) xs.length cap)
  | full (xs : List D) (ad : Addr) (h : RepD g.pub w (.sl xs) (.slice (some ad) xs.length xs.length)) : OwnSl g w ℓ xs (.slice (some ad) xs.length xs.length)

/-- A slice without room. -/
theorem full_of {g : Gh} {w : World} {ys : List D} {o : Option Addr} {n k : Nat} (h : RepD g.pub w (.sl ys) (.slice o n k)) (hnk : n = k) (ℓ : Loc) : OwnSl g w ℓ ys (.slice o n k) := by
  generalize hc : Value.slice o n k = c at h
  cases h with
  | sl0 a cap =>
    injection hc with h1 h2 h3
    subst h1; subst h2; subst h3
    subst hnk
    exact .full [] a (.sl0 a 0)
  | sl _ b off cap sz vs h1 h2 h3 h4 h5 h6 h7 =>
    injection hc with e1 e2 e3
    subst e1; subst e2; subst e3
    subst hnk
    exact .full ys _ (.sl ys b off _ sz vs h1 h2 h3 h4 h5 h6 h7)

inductive RepC (M : Maps) (g : Gh) (w : World) (ℓ : Loc) : V → Value → Prop
  | s {v : V} {c : Value} (h : RepS M g w v c) : RepC M g w ℓ v c
  | osl {xs : List D} {c : Value} (h : OwnSl g w ℓ xs c) : RepC M g w ℓ (.osl xs) c

inductive RepT (M : Maps) (g : Gh) (w : World) (β : Nat → Nat) (k : Nat) : V → Value → Prop
  | s {v : V} {c : Value} (h : RepS M g w v c) : RepT M g w β k v c
  | osl {xs : List D} {c : Value} (h : OwnSl g w (.slot k) xs c) : RepT M g w β k (.osl xs) c
  | lp (s off : Nat) : RepT M g w β k (.lp s off) (.pointer (some ⟨β s, off, none⟩))
  | cp (x : D) (b off : Nat) (vs : List Value) (hr : RepDL g.pub w x.cells vs) (hc : ∀ j v, vs[j]? = some v → w.cell? ⟨b, off + j, none⟩ = some v)
      (hp : off + vs.length ≤ g.pub b) : RepT M g w β k (.cp x) (.pointer (some ⟨b, off, none⟩))
  | box (cs : List V) (arr : Array Value) (T : TypeId) (hb : w.heap[β k]? = some (.cells arr T (0, 0))) (ho : g.own (β k) = some (.bblk k)) (hp : g.pub (β k) = 0) (hl : cs.length = arr.size)
      (hr : ∀ (i : Nat) x v, cs[i]? = some x → arr[i]? = some v → RepC M g w (.bcell k i) x v) : RepT M g w β k (.box cs) (.pointer (some ⟨β k, 0, none⟩))

inductive RepEs (M : Maps) (g : Gh) (w : World) : List (D × V) → List Go.MapEntry → Prop
  | nil : RepEs M g w [] []
  | cons (k : D) (x : V) (e : Go.MapEntry) (es : List (D × V)) (ents : List Go.MapEntry) (hk : RepD g.pub w k e.key) (hg : ∃ kk, goodKey kk k = true) (hx : RepS M g w x e.val)
      (hl : RepEs M g w es ents) : RepEs M g w ((k, x) :: es) (e :: ents)

theorem RepEs.mono {M : Maps} {g g' : Gh} {w w' : World} (hg : Grow g w g' w') (hn : g.n ≤ g'.n) (hφ : ∀ id, id < g.n → g'.φ id = g.φ id) :
    ∀ {es : List (D × V)} {ents : List Go.MapEntry}, RepEs M g w es ents → RepEs M g' w' es ents
  | _, _, .nil => .nil
  | _, _, .cons k x e es ents hk hgk hx hl => .cons k x e es ents (hk.mono hg.pub hg.cell) hgk (hx.mono hg hn hφ hx.ref) (RepEs.mono hg hn hφ hl)

theorem RepEs.length {M : Maps} {g : Gh} {w : World} : ∀ {es : List (D × V)} {ents : List Go.MapEntry}, RepEs M g w es ents → es.length = ents.length
  | _, _, .nil => rfl
  | _, _, .cons _ _ _ _ _ _ _ _ hl => by simp [RepEs.length hl]

inductive RepO (M : Maps) (g : Gh) (w : World) (id : Nat) : Obj → Prop
  | cells (cs : List V) (arr : Array Value) (T : TypeId) (hb : w.heap[g.φ id]? = some (.cells arr T (0, 0))) (ho : g.own (g.φ id) = some (.oblk id)) (hp : g.pub (g.φ id) = 0) (hl : cs.length = arr.size)
      (hr : ∀ (i : Nat) x v, cs[i]? = some x → arr[i]? = some v → RepC M g w (.ocell id i) x v) : RepO M g w id (.cells cs)
  | map (es : List (D × V)) (ents : Array Go.MapEntry) (clock : Nat) (hb : w.heap[g.φ id]? = some (.map ents clock)) (ho : g.own (g.φ id) = some (.oblk id))
      (hr : RepEs M g w es ents.toList) : RepO M g w id (.map es)

/-- What is never written, of the whole program. -/
def GlOk (M : Maps) (g : Gh) (w : World) : Prop := ∀ n x, look M.gl n = some x →
  ∃ vs, RepDL g.pub w x.cells vs ∧ (∀ (j : Nat) v, vs[j]? = some v → w.cell? ⟨n, 0 + j, none⟩ = some v) ∧ 0 + vs.length ≤ g.pub n

theorem GlOk.mono {M : Maps} {g g' : Gh} {w w' : World} (h : GlOk M g w) (hg : Grow g w g' w') : GlOk M g' w' := fun n x hn => by
  obtain ⟨vs, h1, h2, h3⟩ := h n x hn
  refine ⟨vs, h1.mono hg.pub hg.cell, fun j v hj => ?_, Nat.le_trans h3 (hg.pub n)⟩
  have hlt : j < vs.length := (List.getElem?_eq_some_iff.1 hj).1
  rw [hg.cell n (0 + j) (by omega)]
  exact h2 j v hj

structure Rel (M : Maps) (g : Gh) (w : World) (β : Nat → Nat) (st : St) (tmps : Array Value) : Prop where
  n : g.n = st.H.length
  e : ∀ k, RepT M g w β k (get k st.env) (tmps.getD k Go.undef)
  h : ∀ id o, st.H[id]? = some o → RepO M g w id o
  fresh : ∀ b, w.heap.size ≤ b → g.own b = none ∧ g.pub b = 0
  gl : GlOk M g w

/-- What a stretch of a run leaves: memory has grown; what nobody here owns is as it was. -/
structure Evo (g : Gh) (w : World) (g' : Gh) (w' : World) : Prop extends Grow g w g' w' where
  n : g.n ≤ g'.n
  φ : ∀ id, id < g.n → g'.φ id = g.φ id
  keep : ∀ b, b < w.heap.size → g.own b = none ∨ g.own b = some .out → g'.own b = g.own b ∧ w'.heap[b]? = w.heap[b]? ∧ g'.pub b = g.pub b
  io : w'.os = w.os ∧ w'.output = w.output

theorem Evo.refl (g : Gh) (w : World) : Evo g w g w := ⟨Grow.refl g w, Nat.le_refl _, fun _ _ => rfl, fun _ _ _ => ⟨rfl, rfl, rfl⟩, ⟨rfl, rfl⟩⟩
theorem Evo.trans {g g' g'' : Gh} {w w' w'' : World} (h : Evo g w g' w') (h' : Evo g' w' g'' w'') : Evo g w g'' w'' :=
  ⟨h.toGrow.trans h'.toGrow, Nat.le_trans h.n h'.n, fun id hi => (h'.φ id (Nat.lt_of_lt_of_le hi h.n)).trans (h.φ id hi), fun b hb ho => by
    obtain ⟨h1, h2, h3⟩ := h.keep b hb ho
    obtain ⟨k1, k2, k3⟩ := h'.keep b (Nat.lt_of_lt_of_le hb h.size) (h1 ▸ ho)
    exact ⟨k1.trans h1, k2.trans h2, k3.trans h3⟩, h'.io.1.trans h.io.1, h'.io.2.trans h.io.2⟩

/-- What one owner has is as it was. -/
structure Kept (g : Gh) (w : World) (g' : Gh) (w' : World) (ℓ : Loc) : Prop where
  k : ∀ b, g.own b = some ℓ → g'.own b = some ℓ ∧ w'.heap[b]? = w.heap[b]? ∧ g'.pub b = g.pub b

theorem Kept.refl (g : Gh) (w : World) (ℓ : Loc) : Kept g w g w ℓ := ⟨fun _ h => ⟨h, rfl, rfl⟩⟩

theorem frozen_of_heap {w w' : World} {b : Nat} (h : w'.heap[b]? = w.heap[b]?) (o : Nat) : w'.frozen? ⟨b, o, none⟩ = w.frozen? ⟨b, o, none⟩ := by
  simp only [World.frozen?, h]
theorem cell_of_heap {w w' : World} {b : Nat} (h : w'.heap[b]? = w.heap[b]?) (o : Nat) : w'.cell? ⟨b, o, none⟩ = w.cell? ⟨b, o, none⟩ := by
  simp only [World.cell?, h]

theorem OwnSl.mono {g g' : Gh} {w w' : World} (hg : Grow g w g' w') {ℓ : Loc} (hk : Kept g w g' w' ℓ) {xs : List D} {c : Value} (h : OwnSl g w ℓ xs c) : OwnSl g' w' ℓ xs c := by
  cases h with
  | mk b off cap sz vs arr T fz hne hsz hr hc hp hcap hone ho hb ha hf =>
    obtain ⟨h1, h2, h3⟩ := hk.k b ho
    exact .mk xs b off cap sz vs arr T fz hne hsz (hr.mono hg.pub hg.cell) (fun j v hj => by rw [cell_of_heap h2]; exact hc j v hj) (h3.trans hp) hcap hone h1 (h2.trans hb) ha
      (fun o h0 h1 => by rw [frozen_of_heap h2]; exact hf o h0 h1)
  | full ad h => exact .full xs ad (h.mono hg.pub hg.cell)

theorem OwnSl.rep {g : Gh} {w : World} {ℓ : Loc} {xs : List D} {c : Value} (h : OwnSl g w ℓ xs c) : RepD g.pub w (.sl xs) c := by
  cases h with
  | mk b off cap sz vs arr T fz hne hsz hr hc hp hcap hone ho hb ha hf => exact .sl xs b off cap sz vs hne hsz hr hc (by omega) hcap hone
  | full ad h => exact h

theorem RepC.mono {M : Maps} {g g' : Gh} {w w' : World} (hg : Grow g w g' w') (hn : g.n ≤ g'.n) (hφ : ∀ id, id < g.n → g'.φ id = g.φ id) {ℓ : Loc} (hk : Kept g w g' w' ℓ) {v : V} {c : Value}
    (h : RepC M g w ℓ v c) : RepC M g' w' ℓ v c := by
  cases h with
  | s h => exact .s (h.mono hg hn hφ h.ref)
  | osl h => exact .osl (h.mono hg hk)

theorem RepT.mono {M : Maps} {g g' : Gh} {w w' : World} (hg : Grow g w g' w') (hn : g.n ≤ g'.n) (hφ : ∀ id, id < g.n → g'.φ id = g.φ id) {β : Nat → Nat} {k : Nat}
    (h1 : Kept g w g' w' (.slot k)) (h2 : Kept g w g' w' (.bblk k)) (h3 : ∀ i, Kept g w g' w' (.bcell k i)) {v : V} {c : Value} (h : RepT M g w β k v c) : RepT M g' w' β k v c := by
  cases h with
  | s h => exact .s (h.mono hg hn hφ h.ref)
  | osl h => exact .osl (h.mono hg h1)
  | lp s off => exact .lp s off
  | cp x b off vs hr hc hp =>
    refine .cp x b off vs (hr.mono hg.pub hg.cell) (fun j v hj => ?_) (Nat.le_trans hp (hg.pub b))
    have hlt : j < vs.length := (List.getElem?_eq_some_iff.1 hj).1
    rw [hg.cell b (off + j) (by omega)]
    exact hc j v hj
  | box cs arr T hb ho hp hl hr =>
    obtain ⟨k1, k2, k3⟩ := h2.k _ ho
    exact .box cs arr T (k2.trans hb) k1 (k3.trans hp) hl (fun i x v hx hv => (hr i x v hx hv).mono hg hn hφ (h3 i))

theorem RepO.mono {M : Maps} {g g' : Gh} {w w' : World} (hg : Grow g w g' w') (hn : g.n ≤ g'.n) (hφ : ∀ id, id < g.n → g'.φ id = g.φ id) {id : Nat} (hid : id < g.n)
    (h1 : Kept g w g' w' (.oblk id)) (h3 : ∀ i, Kept g w g' w' (.ocell id i)) {o : Obj} (h : RepO M g w id o) : RepO M g' w' id o := by
  have e := hφ id hid
  cases h with
  | cells cs arr T hb ho hp hl hr =>
    obtain ⟨k1, k2, k3⟩ := h1.k _ ho
    exact .cells cs arr T (by rw [e]; exact k2.trans hb) (by rw [e]; exact k1) (by rw [e]; exact k3.trans hp) hl (fun i x v hx hv => (hr i x v hx hv).mono hg hn hφ (h3 i))
  | map es ents clock hb ho hr =>
    obtain ⟨k1, k2, k3⟩ := h1.k _ ho
    exact .map es ents clock (by rw [e]; exact k2.trans hb) (by rw [e]; exact k1) (hr.mono hg hn hφ)

theorem get_cons (k n : Nat) (v : V) (e : Env) : get k ((n, v) :: e) = if k = n then v else get k e := by
  simp only [get]
  by_cases h : k = n
  · subst h; simp
  · have : Nat.beq k n = false := by rw [Bool.eq_false_iff]; intro hb; exact h (Nat.eq_of_beq_eq_true hb)
    simp [this, h]

theorem getD_set (tmps : Array Value) (n k : Nat) (c : Value) (hn : n < tmps.size) : (tmps.setIfInBounds n c).getD k Go.undef = if k = n then c else tmps.getD k Go.undef := by
  by_cases h : k = n
  · subst h; simp [hn]
  · have h' : n ≠ k := fun e => h e.symm
    simp [Array.getD_eq_getD_getElem?, Array.getElem?_setIfInBounds_ne h', h]

/-- A value that owns nothing is laid into a slot. -/
theorem Rel.lay {M : Maps} {g : Gh} {w : World} {β : Nat → Nat} {st : St} {tmps : Array Value} (h : Rel M g w β st tmps) {n : Nat} (hn : n < tmps.size) {v : V} {c : Value} (hv : RepT M g w β n v c) :
    Rel M g w β { st with env := (n, v) :: st.env } (tmps.setIfInBounds n c) :=
  ⟨h.n, fun k => by
    show RepT M g w β k (get k ((n, v) :: st.env)) _
    rw [get_cons, getD_set _ _ _ _ hn]
    split
    · rename_i e; subst e; exact hv
    · exact h.e k, h.h, h.fresh, h.gl⟩

/-- What a slot has may be forgotten. -/
theorem Rel.drop {M : Maps} {g : Gh} {w : World} {β : Nat → Nat} {st : St} {tmps : Array Value} (h : Rel M g w β st tmps) (n : Nat) :
    Rel M g w β { st with env := (n, .undef) :: st.env } tmps :=
  ⟨h.n, fun k => by
    show RepT M g w β k (get k ((n, .undef) :: st.env)) _
    rw [get_cons]
    split
    · exact .s (.undef _)
    · exact h.e k, h.h, h.fresh, h.gl⟩

theorem Rel.spent {M : Maps} {g : Gh} {w : World} {β : Nat → Nat} {st : St} {tmps : Array Value} (h : Rel M g w β st tmps) (o : O) :
    Rel M g w β { st with env := W.spent o st.env } tmps := by
  cases o <;> first | exact h | exact h.drop _

theorem Rel.spentAll {M : Maps} {g : Gh} {w : World} {β : Nat → Nat} {tmps : Array Value} : ∀ (os : List O) {st : St}, Rel M g w β st tmps →
    Rel M g w β { st with env := W.spentAll os st.env } tmps
  | [], _, h => h
  | o :: l, _, h => Rel.spentAll l (h.spent o)

/-- A world that differs by draws alone. -/
structure SameMem (w w' : World) : Prop where
  heap : w'.heap = w.heap
  io : w'.os = w.os ∧ w'.output = w.output

theorem SameMem.refl (w : World) : SameMem w w := ⟨rfl, rfl, rfl⟩
theorem SameMem.grow {w w' : World} (h : SameMem w w') (g : Gh) : Grow g w g w' :=
  ⟨by rw [h.heap]; exact Nat.le_refl _, fun _ => Nat.le_refl _, fun b o _ => by simp only [World.cell?, h.heap]⟩
theorem SameMem.kept {w w' : World} (h : SameMem w w') (g : Gh) (ℓ : Loc) : Kept g w g w' ℓ := ⟨fun b hb => ⟨hb, by rw [h.heap], rfl⟩⟩
theorem SameMem.evo {w w' : World} (h : SameMem w w') (g : Gh) : Evo g w g w' := ⟨h.grow g, Nat.le_refl _, fun _ _ => rfl, fun b _ _ => ⟨rfl, by rw [h.heap], rfl⟩, h.io⟩
theorem Rel.sameMem {M : Maps} {g : Gh} {w w' : World} {β : Nat → Nat} {st : St} {tmps : Array Value} (hs : SameMem w w') (h : Rel M g w β st tmps) : Rel M g w' β st tmps :=
  ⟨h.n, fun k => (h.e k).mono (hs.grow g) (Nat.le_refl _) (fun _ _ => rfl) (hs.kept g _) (hs.kept g _) (fun _ => hs.kept g _),
    fun id o ho => (h.h id o ho).mono (hs.grow g) (Nat.le_refl _) (fun _ _ => rfl) (by rw [h.n]; exact (List.getElem?_eq_some_iff.1 ho).1) (hs.kept g _) (fun _ => hs.kept g _),
    fun b hb => h.fresh b (by rw [← hs.heap]; exact hb), h.gl.mono (hs.grow g)⟩

end W

/-
  Operands: what is read stands for what the model reads.
-/
namespace W
open Go (World Value Addr IntKind Program TypeId FuncId Operand Act)

mutual
theorem toD_rep (pub : Nat → Nat) (w : World) : ∀ (v : Value) (x : D), toD v = some x → RepD pub w x v
  | .bool z, x, h => by simp only [toD, Option.some.injEq] at h; subst h; exact .b z
  | .int k n, x, h => by simp only [toD, Option.some.injEq] at h; subst h; exact .i k n
  | .string s, x, h => by simp only [toD, Option.some.injEq] at h; subst h; exact .s _ s rfl
  | .pointer none, x, h => by simp only [toD, Option.some.injEq] at h; subst h; exact .np
  | .pointer (some _), x, h => by simp [toD] at h
  | .slice none 0 0, x, h => by simp only [toD, Option.some.injEq] at h; subst h; exact .nil
  | .slice none (n + 1) c, x, h => by simp [toD] at h
  | .slice none 0 (c + 1), x, h => by simp [toD] at h
  | .slice (some _) n c, x, h => by simp [toD] at h
  | .map none, x, h => by simp only [toD, Option.some.injEq] at h; subst h; exact .nm
  | .map (some _), x, h => by simp [toD] at h
  | .nilFunc, x, h => by simp only [toD, Option.some.injEq] at h; subst h; exact .nf
  | .nilIface, x, h => by simp only [toD, Option.some.injEq] at h; subst h; exact .ni
  | .agg cs, x, h => by
      simp only [toD] at h
      cases hl : toDs cs.toList with
      | none => simp [hl] at h
      | some l =>
        simp only [hl, Option.some.injEq] at h
        subst h
        exact .agg l cs (toDs_rep pub w cs.toList l hl)
  | .float _ _, x, h => by simp [toD] at h
  | .complex _ _ _, x, h => by simp [toD] at h
  | .chan _, x, h => by simp [toD] at h
  | .func _ _ _, x, h => by simp [toD] at h
  | .iface _ _, x, h => by simp [toD] at h
  | .tuple _, x, h => by simp [toD] at h
theorem toDs_rep (pub : Nat → Nat) (w : World) : ∀ (l : List Value) (xs : List D), toDs l = some xs → RepDL pub w xs l
  | [], xs, h => by simp only [toDs, Option.some.injEq] at h; subst h; exact .nil
  | v :: l, xs, h => by
      simp only [toDs] at h
      cases h1 : toD v with
      | none => simp [h1] at h
      | some x => cases h2 : toDs l with
        | none => simp [h1, h2] at h
        | some r =>
          simp only [h1, h2, Option.some.injEq] at h
          subst h
          exact .cons x v r l (toD_rep pub w v x h1) (toDs_rep pub w l r h2)
end

theorem allD_rep {M : Maps} {g : Gh} {w : World} : ∀ {cs : List V} {vs : List Value} {ds : List D}, RepSL M g w cs vs → allD cs = some ds → RepDL g.pub w ds vs
  | _, _, ds, .nil, h => by simp only [allD, Option.some.injEq] at h; subst h; exact .nil
  | _, _, ds, .cons x v l vs hx hl, h => by
      cases hx with
      | d y c hy =>
        simp only [allD] at h
        cases h2 : allD l with
        | none => simp [h2] at h
        | some r =>
          simp only [h2, Option.some.injEq] at h
          subst h
          exact .cons y v r vs hy (allD_rep hl h2)
      | ptr | rs | map | fn | ifc | agg | tup | undef => simp [allD] at h

theorem copy1_rep {M : Maps} {g : Gh} {w : World} : ∀ {cs : List V} {vs : List Value}, RepSL M g w cs vs → cs.map copy1 = cs
  | _, _, .nil => rfl
  | _, _, .cons x v l vs hx hl => by
      have h1 : copy1 x = x := by cases hx <;> rfl
      simp [h1, copy1_rep hl]

theorem mkAgg_rep {M : Maps} {g : Gh} {w : World} {cs : List V} {vs : Array Value} (h : RepSL M g w cs vs.toList) : RepS M g w (mkAgg cs) (.agg vs) := by
  unfold mkAgg
  cases hd : allD cs with
  | some ds => exact .d _ _ (.agg ds vs (allD_rep h hd))
  | none => exact .agg cs vs h

theorem copy_rep {M : Maps} {g : Gh} {w : World} {x : V} {v : Value} (h : RepS M g w x v) : RepS M g w (copy x) v := by
  cases h with
  | agg cs vs h => simp only [copy]; rw [copy1_rep h]; exact mkAgg_rep h
  | d x _ h => exact .d x _ h
  | ptr id off h => exact .ptr id off h
  | rs id off len cap h hc => exact .rs id off len cap h hc
  | map id h => exact .map id h
  | fn f f' first cap fv cv h h1 h2 => exact .fn f f' first cap fv cv h h1 h2
  | ifc t t' x c h hx => exact .ifc t t' x c h hx
  | tup cs vs h => exact .tup cs vs h
  | undef => exact .undef _

/-- Values without owner or place: the same in every slot. -/
inductive RepV (M : Maps) (g : Gh) (w : World) (β : Nat → Nat) : V → Value → Prop
  | s {v : V} {c : Value} (h : RepS M g w v c) : RepV M g w β v c
  | lp (s off : Nat) : RepV M g w β (.lp s off) (.pointer (some ⟨β s, off, none⟩))
  | cp (x : D) (b off : Nat) (vs : List Value) (hr : RepDL g.pub w x.cells vs) (hc : ∀ j v, vs[j]? = some v → w.cell? ⟨b, off + j, none⟩ = some v)
      (hp : off + vs.length ≤ g.pub b) : RepV M g w β (.cp x) (.pointer (some ⟨b, off, none⟩))

theorem RepV.at {M : Maps} {g : Gh} {w : World} {β : Nat → Nat} {v : V} {c : Value} (h : RepV M g w β v c) (k : Nat) : RepT M g w β k v c := by
  cases h with
  | s h => exact .s h
  | lp s off => exact .lp s off
  | cp x b off vs hr hc hp => exact .cp x b off vs hr hc hp

/-- How a slot reads by copy. -/
theorem RepT.read {M : Maps} {g : Gh} {w : World} {β : Nat → Nat} {k : Nat} {v : V} {c : Value} (h : RepT M g w β k v c) :
    RepV M g w β (readV k v) c := by
  cases h with
  | s h => 
    cases h with
    | d x _ h => exact .s (.d x _ h)
    | ptr id off h => exact .s (.ptr id off h)
    | rs id off len cap h hc => exact .s (.rs id off len cap h hc)
    | map id h => exact .s (.map id h)
    | fn f f' first cap fv cv h h1 h2 => exact .s (.fn f f' first cap fv cv h h1 h2)
    | ifc t t' x c h hx => exact .s (.ifc t t' x c h hx)
    | agg cs vs h => exact .s (copy_rep (.agg cs vs h))
    | tup cs vs h => exact .s (.tup cs vs h)
    | undef => exact .s (.undef _)
  | osl h => exact .s (.d _ _ h.rep)
  | lp s off => exact .lp s off
  | cp x b off vs hr hc hp => exact .cp x b off vs hr hc hp
  | box cs arr T hb ho hp hl hr => exact .lp k 0

theorem eval_tmp (a : Act) (t : Nat) : a.eval (.tmp t) = a.tmps.getD t Go.undef := rfl

/-- An operand that is read by copy. -/
theorem rd_rep {M : Maps} {g : Gh} {w : World} {β : Nat → Nat} {st : St} {a : Act} (hR : Rel M g w β st a.tmps) {x : Operand} {o : O} (h : opnd M false x = some o) :
    RepV M g w β (rd st.env o) (a.eval x) := by
  cases x with
  | tmp t =>
    simp only [opnd, Bool.false_eq_true, if_false, Option.some.injEq] at h
    subst h
    have := (hR.e t).read
    exact this
  | const v =>
    simp only [opnd] at h
    cases hd : toD v with
    | none => simp [hd] at h
    | some y =>
      simp only [hd, Option.map_some, Option.some.injEq] at h
      subst h
      exact .s (.d y v (toD_rep g.pub w v y hd))
  | func f =>
    simp only [opnd] at h
    cases hd : look M.fm f with
    | none => simp [hd] at h
    | some y =>
      simp only [hd, Option.map_some, Option.some.injEq] at h
      subst h
      exact .s (.fn y f [] [] #[] #[] hd .nil .nil)
  | global n =>
    simp only [opnd] at h
    cases hd : look M.gl n with
    | none => simp [hd] at h
    | some y =>
      simp only [hd, Option.map_some, Option.some.injEq] at h
      subst h
      obtain ⟨vs, h1, h2, h3⟩ := hR.gl n y hd
      exact .cp y n 0 vs h1 h2 h3

/-- An operand read either way: what it stands for, and, where it takes the slice along, whose that was. -/
inductive RepO' (M : Maps) (g : Gh) (w : World) (β : Nat → Nat) : O → V → Value → Prop
  | v {o : O} {v : V} {c : Value} (h : RepV M g w β v c) : RepO' M g w β o v c
  | own {n : Nat} {xs : List D} {c : Value} (h : OwnSl g w (.slot n) xs c) : RepO' M g w β (.mv n) (.osl xs) c

theorem rdm_rep {M : Maps} {g : Gh} {w : World} {β : Nat → Nat} {st : St} {a : Act} (hR : Rel M g w β st a.tmps) {m : Bool} {x : Operand} {o : O} (h : opnd M m x = some o) :
    RepO' M g w β o (rd st.env o) (a.eval x) := by
  cases m with
  | false => exact .v (rd_rep hR h)
  | true =>
    cases x with
    | tmp t =>
      simp only [opnd, if_true, Option.some.injEq] at h
      subst h
      have := hR.e t
      show RepO' M g w β (.mv t) (takeV (get t st.env)) (a.tmps.getD t Go.undef)
      generalize get t st.env = v at this
      generalize a.tmps.getD t Go.undef = c at this
      cases this with
      | s h => cases h <;> exact .v (.s (by constructor <;> assumption))
      | osl h => exact .own h
      | lp s off => exact .v (.lp s off)
      | cp x b off vs hr hc hp => exact .v (.cp x b off vs hr hc hp)
      | box cs arr T hb ho hp hl hr => exact .v (.s (.undef _))
    | const v => exact .v (rd_rep (x := .const v) hR (by simpa [opnd] using h))
    | func f => exact .v (rd_rep (x := .func f) hR (by simpa [opnd] using h))
    | global n => exact .v (rd_rep (x := .global n) hR (by simpa [opnd] using h))

end W

/-
  Operations that change no object, one by one: what the model does is what the small semantics does.
-/
namespace W
open Go (World Value Addr IntKind Program TypeId FuncId Operand Act Oper Next Result Sem)

def Gh.setOwn (g : Gh) (b : Nat) (ℓ : Option Loc) : Gh := { g with own := fun x => if x = b then ℓ else g.own x }

theorem setOwn_grow (g : Gh) (w : World) (b : Nat) (ℓ : Option Loc) : Grow g w (g.setOwn b ℓ) w := ⟨Nat.le_refl _, fun _ => Nat.le_refl _, fun _ _ _ => rfl⟩
theorem setOwn_kept {g : Gh} {w : World} {b : Nat} {ℓ₀ : Loc} (ℓ : Option Loc) (hb : g.own b = some ℓ₀) {ℓ₁ : Loc} (hne : ℓ₁ ≠ ℓ₀) : Kept g w (g.setOwn b ℓ) w ℓ₁ :=
  ⟨fun x hx => ⟨by
    have : x ≠ b := fun e => by subst e; rw [hb] at hx; exact hne (Option.some.inj hx).symm
    simp [Gh.setOwn, this, hx], rfl, rfl⟩⟩
theorem setOwn_evo {g : Gh} {w : World} {b : Nat} {ℓ₀ : Loc} (ℓ : Option Loc) (hb : g.own b = some ℓ₀) (h0 : ℓ₀ ≠ .out) : Evo g w (g.setOwn b ℓ) w :=
  ⟨setOwn_grow g w b ℓ, Nat.le_refl _, fun _ _ => rfl, fun x _ ho => ⟨by
    have : x ≠ b := fun e => by
      subst e; rw [hb] at ho
      rcases ho with h | h
      · cases h
      · exact h0 (Option.some.inj h)
    simp [Gh.setOwn, this], rfl, rfl⟩, ⟨rfl, rfl⟩⟩

/-- A slot that says nothing: what it owned may be given away. -/
theorem Rel.reown {M : Maps} {g : Gh} {w : World} {β : Nat → Nat} {st : St} {tmps : Array Value} (h : Rel M g w β st tmps) {n b : Nat} (hn : get n st.env = .undef) (hb : g.own b = some (.slot n)) (hlt : b < w.heap.size)
    (ℓ : Option Loc) : Rel M (g.setOwn b ℓ) w β st tmps := by
  have hg := setOwn_grow g w b ℓ
  refine ⟨h.n, fun k => ?_, fun id o ho => ?_, fun x hx => ?_, h.gl.mono hg⟩
  · by_cases hk : k = n
    · subst hk; rw [hn]; exact .s (.undef _)
    · exact (h.e k).mono hg (Nat.le_refl _) (fun _ _ => rfl) (setOwn_kept ℓ hb (by simp [hk])) (setOwn_kept ℓ hb (by simp)) (fun i => setOwn_kept ℓ hb (by simp))
  · exact (h.h id o ho).mono hg (Nat.le_refl _) (fun _ _ => rfl) (by rw [h.n]; exact (List.getElem?_eq_some_iff.1 ho).1) (setOwn_kept ℓ hb (by simp)) (fun i => setOwn_kept ℓ hb (by simp))
  · have : x ≠ b := by omega
    simpa [Gh.setOwn, this] using h.fresh x hx

theorem OwnSl.setOwn {g : Gh} {w : World} {ℓ : Loc} {xs : List D} {c : Value} (h : OwnSl g w ℓ xs c) :
    (∃ b, g.own b = some ℓ ∧ b < w.heap.size ∧ ∀ ℓ', OwnSl (g.setOwn b (some ℓ')) w ℓ' xs c) ∨ ∀ ℓ', OwnSl g w ℓ' xs c := by
  cases h with
  | full ad h => exact .inr fun ℓ' => .full xs ad h
  | mk b off cap sz vs arr T fz hne hsz hr hc hp hcap hone ho hb ha hf =>
    exact .inl ⟨b, ho, (Array.getElem?_eq_some_iff.1 hb).1, fun ℓ' => .mk xs b off cap sz vs arr T fz hne hsz hr hc hp hcap hone (by simp [Gh.setOwn]) hb ha hf⟩

/-- An operation's plain results. -/
inductive Yields (P : Program) (o : Oper) (a : Act) (w : World) : Value → World → Prop
  | value {c : Value} {w' : World} (h : (Go.execOp a.eval o).run P w = .ok (.value c) w') : Yields P o a w c w'
  | skip {w' : World} (h : (Go.execOp a.eval o).run P w = .ok .skip w') : Yields P o a w Go.undef w'

theorem Yields.wp {P : Program} {o : Oper} {a : Act} {w : World} {c : Value} {w' : World} (h : Yields P o a w c w') {next : Act → World → Prop} {Q : Go.Exit → Act → World → Prop} (hn : next (a.put o.dst c) w') :
    o.wp P a w next Q := by
  unfold Oper.wp
  cases h with
  | value h => rw [h]; exact hn
  | skip h => rw [h]; exact hn

/-- What an operation is to leave. -/
def Left1 (P : Program) (M : Maps) (g : Gh) (w : World) (o : Oper) (a : Act) (r : Or) : Prop :=
  ∃ c w' g' β', Yields P o a w c w' ∧ Rel M g' w' β' (put o.dst r.v r.st) (a.put o.dst c).tmps ∧ Evo g w g' w'

def DstOk (o : Oper) (a : Act) : Prop := ∀ n, o.dst = some n → n < a.tmps.size

theorem put_plain {v : V} (hv : ∀ cs, v ≠ .box cs) (dst : Option Nat) (st : St) : put dst v st = match dst with | some n => { st with env := (n, v) :: st.env } | none => st := by
  cases dst with
  | none => rfl
  | some n => cases v <;> first | rfl | (exact absurd rfl (hv _))

theorem RepV.notBox {M : Maps} {g : Gh} {w : World} {β : Nat → Nat} {v : V} {c : Value} (h : RepV M g w β v c) : ∀ cs, v ≠ .box cs := by
  intro cs e; subst e
  cases h with
  | s h => cases h

theorem Act.put_tmps (a : Act) (dst : Option Nat) (c : Value) : (a.put dst c).tmps = match dst with | some n => a.tmps.setIfInBounds n c | none => a.tmps := by
  cases dst <;> rfl

/-- A value without owner is laid. -/
theorem Rel.putV {M : Maps} {g : Gh} {w : World} {β : Nat → Nat} {st : St} {a : Act} {o : Oper} (hd : DstOk o a) (h : Rel M g w β st a.tmps) {v : V} {c : Value} (hv : RepV M g w β v c) :
    Rel M g w β (put o.dst v st) (a.put o.dst c).tmps := by
  rw [put_plain hv.notBox, Act.put_tmps]
  cases hdst : o.dst with
  | none => exact h
  | some n => exact h.lay (hd n hdst) (hv.at n)

/-- A slice of one's own is laid, out of a slot that has let it go. -/
theorem Rel.putOwn {M : Maps} {g : Gh} {w : World} {β : Nat → Nat} {st : St} {a : Act} {o : Oper} (hd : DstOk o a) (h : Rel M g w β st a.tmps) {n : Nat} (hn : get n st.env = .undef) {xs : List D} {c : Value}
    (hv : OwnSl g w (.slot n) xs c) : ∃ g', Rel M g' w β (put o.dst (.osl xs) st) (a.put o.dst c).tmps ∧ Evo g w g' w := by
  rw [put_plain (by intro cs e; cases e), Act.put_tmps]
  cases hdst : o.dst with
  | none => exact ⟨g, h, Evo.refl g w⟩
  | some d =>
    rcases hv.setOwn with ⟨b, hb, hlt, hv'⟩ | hv'
    case inr => exact ⟨g, h.lay (hd d hdst) (.osl (hv' _)), Evo.refl g w⟩
    exact ⟨g.setOwn b (some (.slot d)), (h.reown hn hb hlt (some (.slot d))).lay (hd d hdst) (.osl (hv' _)), setOwn_evo _ hb (by simp)⟩

theorem Rel.putFull {M : Maps} {g : Gh} {w : World} {β : Nat → Nat} {st : St} {a : Act} {o : Oper} (hd : DstOk o a) (h : Rel M g w β st a.tmps) {xs : List D} {c : Value}
    (hv : ∀ ℓ, OwnSl g w ℓ xs c) : Rel M g w β (put o.dst (.osl xs) st) (a.put o.dst c).tmps := by
  rw [put_plain (by intro cs e; cases e), Act.put_tmps]
  cases hdst : o.dst with
  | none => exact h
  | some d => exact h.lay (hd d hdst) (.osl (hv _))

theorem left_full {P : Program} {M : Maps} {g : Gh} {w : World} {β : Nat → Nat} {st : St} {o : Oper} {a : Act} (hd : DstOk o a) (hR : Rel M g w β st a.tmps) {xs : List D} {c : Value} (hv : ∀ ℓ, OwnSl g w ℓ xs c)
    (hrun : (Go.execOp a.eval o).run P w = .ok (.value c) w) {r : Or} (hr : ok (.osl xs) st = some r) : Left1 P M g w o a r := by
  simp only [ok, Option.some.injEq] at hr
  subst hr
  exact ⟨c, w, g, β, .value hrun, hR.putFull hd hv, Evo.refl g w⟩

theorem left_pure {P : Program} {M : Maps} {g : Gh} {w : World} {β : Nat → Nat} {st : St} {o : Oper} {a : Act} (hd : DstOk o a) (hR : Rel M g w β st a.tmps) {v : V} {c : Value} (hv : RepV M g w β v c)
    (hrun : (Go.execOp a.eval o).run P w = .ok (.value c) w) {r : Or} (hr : ok v st = some r) : Left1 P M g w o a r := by
  simp only [ok, Option.some.injEq] at hr
  subst hr
  exact ⟨c, w, g, β, .value hrun, hR.putV hd hv, Evo.refl g w⟩

/-- A value that was read either way is laid. -/
theorem Rel.putRead {M : Maps} {g : Gh} {w : World} {β : Nat → Nat} {st : St} {a : Act} {o : Oper} (hd : DstOk o a) (h : Rel M g w β st a.tmps) {x : O} {v : V} {c : Value} (hv : RepO' M g w β x v c) :
    ∃ g', Rel M g' w β (put o.dst v { st with env := W.spent x st.env }) (a.put o.dst c).tmps ∧ Evo g w g' w := by
  cases hv with
  | v hv => exact ⟨g, (h.spent x).putV hd hv, Evo.refl g w⟩
  | own hv =>
    rename_i n xs
    exact (h.drop n).putOwn hd (by simp [get_cons]) hv

theorem sim_mov {P : Program} {M : Maps} {g : Gh} {w : World} {β : Nat → Nat} {st : St} {o : Oper} {a : Act} (hd : DstOk o a) (hR : Rel M g w β st a.tmps) {m : Bool} {x : Operand} {y : O} (hy : opnd M m x = some y)
    (ho : o.op = .move x ∨ o.op = .assign x) {r : Or} (hr : eMov y st = some r) : Left1 P M g w o a r := by
  simp only [eMov, ok, Option.some.injEq] at hr
  subst hr
  obtain ⟨g', h1, h2⟩ := hR.putRead hd (rdm_rep hR hy)
  refine ⟨a.eval x, w, g', β, .value ?_, h1, h2⟩
  rcases ho with ho | ho <;> simp only [Go.execOp, ho] <;> rfl

end W

/-
  Operations on numbers, texts, bools, nil.
-/
namespace W
open Go (World Value Addr IntKind Program TypeId FuncId Operand Act Oper Next Result Sem BinOp UnOp)

theorem eqI_eq (a b : Int) : eqI a b = (a == b) := by
  cases a <;> cases b <;> simp only [eqI]
  · rename_i a b
    rw [Bool.eq_iff_iff, Nat.beq_eq, beq_iff_eq]; simp only [Int.ofNat_eq_natCast]; omega
  · rfl
  · rfl
  · rename_i a b
    rw [Bool.eq_iff_iff, Nat.beq_eq, beq_iff_eq]; simp
theorem leI_eq (a b : Int) : leI a b = decide (a ≤ b) := by
  cases a <;> cases b <;> simp only [leI]
  · rename_i a b
    rw [Bool.eq_iff_iff, Nat.ble_eq, decide_eq_true_iff]; simp
  · rename_i a b
    rw [eq_comm, decide_eq_false_iff_not]
    have := Int.negSucc_lt_zero b; simp only [Int.ofNat_eq_natCast]; omega
  · rename_i a b
    rw [eq_comm, decide_eq_true_iff]
    have := Int.negSucc_lt_zero a; simp only [Int.ofNat_eq_natCast]; omega
  · rename_i a b
    rw [Bool.eq_iff_iff, Nat.ble_eq, decide_eq_true_iff]
    simp only [Int.negSucc_eq]; omega
theorem eqK_eq (a b : IntKind) : eqK a b = (a == b) := by cases a <;> cases b <;> rfl
theorem eqK_true {a b : IntKind} (h : eqK a b = true) : a = b := by rw [eqK_eq] at h; exact beq_iff_eq.1 h
theorem eqT_eq : ∀ (a b : List Nat), eqT a b = (a == b)
  | [], [] => rfl
  | [], _ :: _ => rfl
  | _ :: _, [] => rfl
  | a :: x, b :: y => by
    simp only [eqT, eqT_eq x y]
    rw [List.cons_beq_cons]
    congr 1
    rw [Bool.eq_iff_iff, Nat.beq_eq, beq_iff_eq]

theorem wr_eq (k : IntKind) (n : Int) : wr k n = k.wrap n := by
  unfold wr
  cases n with
  | ofNat a =>
    simp only
    cases h : Nat.ble a (inMax k) with
    | false => rfl
    | true =>
      simp only [cond_true]
      have ha := Nat.le_of_ble_eq_true h
      cases k <;> simp only [inMax] at ha <;> simp only [IntKind.wrap, IntKind.bits, IntKind.signed] <;> simp <;> omega
  | negSucc a =>
    simp only
    cases h : inNeg k a with
    | false => rfl
    | true =>
      simp only [cond_true]
      cases k <;> simp only [inNeg, Bool.false_eq_true] at h <;> (have ha := Nat.le_of_ble_eq_true h) <;> simp only [IntKind.wrap, IntKind.bits, IntKind.signed, Int.negSucc_eq] <;> simp <;> omega

theorem toList_nat (a b : ByteArray) : (a.data.toList.map (·.toNat) == b.data.toList.map (·.toNat)) = (a.toList == b.toList) := by
  rw [Go.Lib.toList_data, Go.Lib.toList_data]
  have inj : ∀ (x y : List UInt8), x.map (·.toNat) = y.map (·.toNat) → x = y := by
    intro x
    induction x with
    | nil => intro y h; cases y <;> simp_all
    | cons a x ih =>
      intro y h
      cases y with
      | nil => simp at h
      | cons b y =>
        simp only [List.map_cons, List.cons.injEq] at h
        rw [UInt8.toNat_inj.1 h.1, ih y h.2]
  rw [Bool.eq_iff_iff, beq_iff_eq, beq_iff_eq]
  exact ⟨inj _ _, fun h => by rw [h]⟩

theorem textLess_eq : ∀ (a b : List UInt8), textLess (a.map (·.toNat)) (b.map (·.toNat)) = Go.Op.bytesLess a b
  | _, [] => by simp [textLess, Go.Op.bytesLess]
  | [], _ :: _ => by simp [textLess, Go.Op.bytesLess]
  | a :: x, b :: y => by
    simp only [List.map_cons, textLess, Go.Op.bytesLess, textLess_eq x y]
    congr 1
    · rw [Bool.eq_iff_iff, Nat.blt_eq, decide_eq_true_iff, UInt8.lt_iff_toNat_lt]
    · congr 1
      rw [Bool.eq_iff_iff, Nat.beq_eq, beq_iff_eq, UInt8.toNat_inj]

theorem RepV.inv_d {M : Maps} {g : Gh} {w : World} {β : Nat → Nat} {x : D} {c : Value} (h : RepV M g w β (.d x) c) : RepD g.pub w x c := by
  cases h with
  | s h => cases h with | d _ _ h => exact h

theorem RepV.inv_ptr {M : Maps} {g : Gh} {w : World} {β : Nat → Nat} {id off : Nat} {c : Value} (h : RepV M g w β (.ptr id off) c) : c = .pointer (some ⟨g.φ id, off, none⟩) ∧ id < g.n := by
  cases h with
  | s h => cases h with | ptr _ _ h => exact ⟨rfl, h⟩
theorem RepV.inv_lp {M : Maps} {g : Gh} {w : World} {β : Nat → Nat} {s off : Nat} {c : Value} (h : RepV M g w β (.lp s off) c) : c = .pointer (some ⟨β s, off, none⟩) := by
  cases h with
  | s h => cases h
  | lp _ _ => rfl
theorem RepV.inv_cp {M : Maps} {g : Gh} {w : World} {β : Nat → Nat} {x : D} {c : Value} (h : RepV M g w β (.cp x) c) :
    ∃ b off vs, c = .pointer (some ⟨b, off, none⟩) ∧ RepDL g.pub w x.cells vs ∧ (∀ j v, vs[j]? = some v → w.cell? ⟨b, off + j, none⟩ = some v) ∧ off + vs.length ≤ g.pub b := by
  cases h with
  | s h => cases h
  | cp _ b off vs hr hc hp => exact ⟨b, off, vs, rfl, hr, hc, hp⟩
theorem repD_b {pub : Nat → Nat} {w : World} {z : Bool} {c : Value} (h : RepD pub w (.b z) c) : c = .bool z := by cases h; rfl
theorem repD_i {pub : Nat → Nat} {w : World} {k : IntKind} {n : Int} {c : Value} (h : RepD pub w (.i k n) c) : c = .int k n := by cases h; rfl
theorem repD_s {pub : Nat → Nat} {w : World} {t : List Nat} {c : Value} (h : RepD pub w (.s t) c) : ∃ x : ByteArray, c = .string x ∧ x.data.toList.map (·.toNat) = t := by
  cases h with | s _ x h => exact ⟨x, rfl, h⟩

section
variable {P : Program} {M : Maps} {g : Gh} {w : World} {β : Nat → Nat} {st : St} {o : Oper} {a : Act}

theorem sim_pick (hd : DstOk o a) (hR : Rel M g w β st a.tmps) {c x y : Operand} {c' x' y' : O} (hc : opnd M false c = some c') (hx : opnd M false x = some x') (hy : opnd M false y = some y')
    (ho : o.op = .pick c x y) {r : Or} (hr : ePick c' x' y' st = some r) : Left1 P M g w o a r := by
  have h1 := rd_rep hR hc
  unfold ePick at hr
  split at hr
  · rename_i z hz
    rw [hz] at h1
    have e1 := repD_b h1.inv_d
    cases z
    · exact left_pure hd hR (rd_rep hR hy) (by simp [Go.execOp, ho, e1, Go.asBool]) (by simpa using hr)
    · exact left_pure hd hR (rd_rep hR hx) (by simp [Go.execOp, ho, e1, Go.asBool]) (by simpa using hr)
  · cases hr

theorem sim_nilCheck (hd : DstOk o a) (hR : Rel M g w β st a.tmps) {x : Operand} {x' : O} (hx : opnd M false x = some x')
    (ho : o.op = .nilCheck x) {r : Or} (hr : eNilCheck x' st = some r) : Left1 P M g w o a r := by
  have h1 := rd_rep hR hx
  unfold eNilCheck at hr
  split at hr
  · rename_i id off hz
    rw [hz] at h1
    exact left_pure hd hR h1 (by simp [Go.execOp, ho, h1.inv_ptr.1]) hr
  · rename_i s off hz
    rw [hz] at h1
    exact left_pure hd hR h1 (by simp [Go.execOp, ho, h1.inv_lp]) hr
  · rename_i y hz
    rw [hz] at h1
    obtain ⟨b, off, vs, e, _⟩ := h1.inv_cp
    exact left_pure hd hR h1 (by simp [Go.execOp, ho, e]) hr
  · cases hr

theorem sim_un (hd : DstOk o a) (hR : Rel M g w β st a.tmps) {op : UnOp} {t : TypeId} {x : Operand} {x' : O} (hx : opnd M false x = some x')
    (ho : o.op = .unOp op t x) {r : Or} (hr : eUn op x' st = some r) : Left1 P M g w o a r := by
  have h1 := rd_rep hR hx
  unfold eUn at hr
  split at hr
  · rename_i y hz
    rw [hz] at h1
    split at hr
    · rename_i z hz2
      have h3 := h1.inv_d
      unfold unD at hz2
      split at hz2
      · rename_i k n
        have e1 := repD_i h3
        split at hz2
        · simp only [Option.some.injEq] at hz2
          subst hz2
          exact left_pure hd hR (.s (.d _ _ (.i k _))) (by simp [Go.execOp, ho, e1, Go.Op.unary, Go.Op.intArith, wr_eq]) hr
        · simp only [intBits, Option.map_some, Option.some.injEq] at hz2
          subst hz2
          exact left_pure hd hR (.s (.d _ _ (.i k _))) (by simp [Go.execOp, ho, e1, Go.Op.unary, Go.Op.intBits]) hr
        · cases hz2
      · rename_i z
        have e1 := repD_b h3
        split at hz2
        · simp only [Option.some.injEq] at hz2
          subst hz2
          exact left_pure hd hR (.s (.d _ _ (.b _))) (by simp [Go.execOp, ho, e1, Go.Op.unary]) hr
        · cases hz2
      · cases hz2
    · cases hr
  · cases hr

theorem sim_conv (hd : DstOk o a) (hR : Rel M g w β st a.tmps) {s t : TypeId} {ks k : IntKind} {x : Operand} {x' : O} (hx : opnd M false x = some x') (hs : P.underlying s = some (.int ks)) (ht : P.underlying t = some (.int k))
    (ho : o.op = .convert s t x) {r : Or} (hr : eConv k x' st = some r) : Left1 P M g w o a r := by
  have h1 := rd_rep hR hx
  unfold eConv at hr
  split at hr
  · rename_i k' n hz
    rw [hz] at h1
    have e1 := repD_i h1.inv_d
    exact left_pure hd hR (.s (.d _ _ (.i k _))) (by simp [Go.execOp, ho, e1, Go.convert, Go.run_underlying hs, Go.run_underlying ht, Go.Conv.intToInt, wr_eq]) hr
  · cases hr

theorem sim_convS (hd : DstOk o a) (hR : Rel M g w β st a.tmps) {s t : TypeId} {x : Operand} {x' : O} (hx : opnd M false x = some x') (hs : P.underlying s = some .string) (ht : P.underlying t = some .string)
    (ho : o.op = .convert s t x) {r : Or} (hr : eMovS x' st = some r) : Left1 P M g w o a r := by
  have h1 := rd_rep hR hx
  unfold eMovS at hr
  split at hr
  · rename_i y hz
    rw [hz] at h1
    obtain ⟨z, e1, _⟩ := repD_s h1.inv_d
    exact left_pure hd hR h1 (by simp [Go.execOp, ho, e1, Go.convert, Go.run_underlying hs, Go.run_underlying ht]) hr
  · cases hr
end
end W

