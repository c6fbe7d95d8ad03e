/-
  TypesRecords: part 2 of what the proof rests on (a value semantics for a part of the language, sound against the model; the walks).
-/
import Derived.Test.YtbdngljblileeaaDoorW1
set_option linter.unusedVariables false
namespace W
def glD (n : Nat) : D :=
  bif Nat.beq n 0 then gl_internal_strconv_uint64pow10 else
  bif Nat.beq n 1 then gl_math_bits_deBruijn32tab else
  bif Nat.beq n 2 then gl_math_bits_deBruijn64tab else .nil
def f_gosem_cut_init : Fn := ⟨0, [], false,
  .ops [⟨(some 0), .call (.f 1) [], none⟩], none, none⟩
def f_waferlaw12_TypesRecords_B0 : C :=
  (.seq ((.seq (.ops [⟨(some 30), .mov (.t 11), none⟩,
    ⟨(some 31), .mov (.t 0), none⟩,
    ⟨(some 32), .bi .lenL [(.t 31)], none⟩,
    ⟨(some 33), .bin .lss .num (.t 30) (.t 32), none⟩])
  ((.cond (.t 33) (.skip)
   (.exit 0)))))
  ((.seq ((.block 1 [0, 1, 2, 3, 9, 11] ((.seq (.ops [⟨(some 36), .mov (.t 0), none⟩,
     ⟨(some 37), .mov (.t 11), none⟩,
     ⟨(some 38), .indexAddr (.t 36) (.t 37) 6 none, none⟩,
     ⟨(some 39), .fieldAddr (.t 38) 2 ⟨4, true⟩, none⟩,
     ⟨(some 40), .load false none ⟨4, true⟩ (.t 39), none⟩,
     ⟨(some 41), .call (.f 8) [(.t 40), (.c (.i .i64 20))], none⟩,
     ⟨(some 42), .un .not (.t 41), none⟩])
   ((.cond (.t 42) ((.seq (.ops [⟨(some 10), .mov (.c (.b true)), none⟩])
    (.ret)))
    (.skip)))))))
  (.ops [⟨(some 34), .mov (.t 11), none⟩,
    ⟨(some 35), .bin .add .num (.t 34) (.c (.i .i64 1)), none⟩,
    ⟨(some 11), .mov (.t 35), none⟩]))))
def f_waferlaw12_TypesRecords_L0 : C := .loop [0, 1, 2, 3, 9, 11] f_waferlaw12_TypesRecords_B0
noncomputable def f_waferlaw12_TypesRecords_l0 (pg : Pg) (v0 v1 v2 v3 v9 v11 : V) (H : List Obj) (lo : Nat) : Option (Ex × St) := exL pg f_waferlaw12_TypesRecords_L0 ⟨[(0, v0), (1, v1), (2, v2), (3, v3), (9, v9), (11, v11)], H, lo⟩
theorem f_waferlaw12_TypesRecords_l0_in {pg : Pg} {e : Env} {H : List Obj} {lo : Nat} : exL pg f_waferlaw12_TypesRecords_L0 ⟨e, H, lo⟩ = f_waferlaw12_TypesRecords_l0 pg (keepV (get 0 e)) (keepV (get 1 e)) (keepV (get 2 e)) (keepV (get 3 e)) (keepV (get 9 e)) (keepV (get 11 e)) H lo := loop_in
theorem f_waferlaw12_TypesRecords_l0_eq {pg : Pg} {v0 v1 v2 v3 v9 v11 : V} {H : List Obj} {lo : Nat} : f_waferlaw12_TypesRecords_l0 pg v0 v1 v2 v3 v9 v11 H lo = thenC pg (exL pg f_waferlaw12_TypesRecords_B0 ⟨[(0, keepV v0), (1, keepV v1), (2, keepV v2), (3, keepV v3), (9, keepV v9), (11, keepV v11)], H, lo⟩) f_waferlaw12_TypesRecords_L0 := by
  unfold f_waferlaw12_TypesRecords_l0 f_waferlaw12_TypesRecords_L0; rw [exL_loop]; simp only [restrict_cons, restrict_nil, get_eq, get_ne, Nat.reduceEqDiff]
def f_waferlaw12_TypesRecords_B1 : C :=
  (.seq (.ops [⟨(some 103), .bin .lss .num (.t 102) (.t 101), none⟩])
  ((.seq ((.cond (.t 103) (.skip)
   (.exit 2)))
  ((.seq ((.block 3 [12, 100, 101, 102] ((.seq (.ops [⟨(some 104), .indexAddr (.t 100) (.t 102) 4 none, none⟩,
     ⟨(some 105), .load false none ⟨4, true⟩ (.t 104), none⟩,
     ⟨(some 20), .alloc true [(.i .i64 0), (.i .i64 0), (.s []), .nil], none⟩,
     ⟨none, .store (some 20) ⟨4, true⟩ (.t 20) (.t 105), none⟩])
   ((.seq (.ops [⟨(some 107), .load false (some 20) ⟨4, true⟩ (.t 20), none⟩,
     ⟨(some 108), .mov (.t 12), none⟩,
     ⟨(some 109), .call (.f 17) [(.t 107), (.t 108)], none⟩,
     ⟨(some 106), .mov (.t 109), none⟩,
     ⟨(some 110), .extract (.t 106) 0, none⟩,
     ⟨(some 111), .extract (.t 106) 1, none⟩,
     ⟨(some 21), .mov (.t 110), none⟩,
     ⟨(some 22), .mov (.t 111), none⟩])
   ((.seq (.ops [⟨(some 113), .load false (some 20) ⟨4, true⟩ (.t 20), none⟩,
     ⟨(some 114), .mov (.t 12), none⟩,
     ⟨(some 115), .call (.f 18) [(.t 113), (.t 114)], none⟩,
     ⟨(some 112), .mov (.t 115), none⟩,
     ⟨(some 116), .extract (.t 112) 0, none⟩,
     ⟨(some 117), .extract (.t 112) 1, none⟩,
     ⟨(some 23), .mov (.t 116), none⟩,
     ⟨(some 24), .mov (.t 117), none⟩])
   ((.seq (.ops [⟨(some 118), .mov (.t 21), none⟩,
     ⟨(some 119), .mov (.t 23), none⟩,
     ⟨(some 120), .bin .neq .num (.t 118) (.t 119), none⟩,
     ⟨(some 121), .mov (.t 120), none⟩,
     ⟨(some 122), .mov (.t 24), some (121, true)⟩,
     ⟨(some 123), .pick (.t 121) (.t 122) (.c (.b false)), none⟩,
     ⟨(some 124), .mov (.t 123), none⟩,
     ⟨(some 125), .mov (.t 22), some (124, false)⟩,
     ⟨(some 126), .mov (.t 24), some (124, false)⟩,
     ⟨(some 127), .bin .neq .bool (.t 125) (.t 126), some (124, false)⟩,
     ⟨(some 128), .pick (.t 124) (.c (.b true)) (.t 127), none⟩,
     ⟨(some 129), .mov (.t 128), none⟩,
     ⟨(some 130), .mov (.t 22), some (129, false)⟩,
     ⟨(some 131), .un .not (.t 130), some (129, false)⟩,
     ⟨(some 132), .mov (.t 131), some (129, false)⟩,
     ⟨(some 133), .mov (.t 21), some (132, true)⟩,
     ⟨(some 134), .bin .neq .num (.t 133) (.c (.i .i64 0)), some (132, true)⟩,
     ⟨(some 135), .pick (.t 132) (.t 134) (.c (.b false)), some (129, false)⟩,
     ⟨(some 136), .pick (.t 129) (.c (.b true)) (.t 135), none⟩])
   ((.cond (.t 136) ((.seq (.ops [⟨(some 10), .mov (.c (.b false)), none⟩])
    (.ret)))
    (.skip)))))))))))))
  (.ops [⟨(some 137), .bin .add .num (.t 102) (.c (.i .i64 1)), none⟩,
    ⟨(some 102), .mov (.t 137), none⟩]))))))
def f_waferlaw12_TypesRecords_L1 : C := .loop [12, 100, 101, 102] f_waferlaw12_TypesRecords_B1
noncomputable def f_waferlaw12_TypesRecords_l1 (pg : Pg) (v12 v100 v101 v102 : V) (H : List Obj) (lo : Nat) : Option (Ex × St) := exL pg f_waferlaw12_TypesRecords_L1 ⟨[(12, v12), (100, v100), (101, v101), (102, v102)], H, lo⟩
theorem f_waferlaw12_TypesRecords_l1_in {pg : Pg} {e : Env} {H : List Obj} {lo : Nat} : exL pg f_waferlaw12_TypesRecords_L1 ⟨e, H, lo⟩ = f_waferlaw12_TypesRecords_l1 pg (keepV (get 12 e)) (keepV (get 100 e)) (keepV (get 101 e)) (keepV (get 102 e)) H lo := loop_in
theorem f_waferlaw12_TypesRecords_l1_eq {pg : Pg} {v12 v100 v101 v102 : V} {H : List Obj} {lo : Nat} : f_waferlaw12_TypesRecords_l1 pg v12 v100 v101 v102 H lo = thenC pg (exL pg f_waferlaw12_TypesRecords_B1 ⟨[(12, keepV v12), (100, keepV v100), (101, keepV v101), (102, keepV v102)], H, lo⟩) f_waferlaw12_TypesRecords_L1 := by
  unfold f_waferlaw12_TypesRecords_l1 f_waferlaw12_TypesRecords_L1; rw [exL_loop]; simp only [restrict_cons, restrict_nil, get_eq, get_ne, Nat.reduceEqDiff]
def f_waferlaw12_TypesRecords_R2 : C :=
  (.seq (.ops [⟨(some 10), .mov (.c (.b true)), none⟩])
  (.ret))
def f_waferlaw12_TypesRecords_R3 : C :=
  (.seq (.ops [⟨(some 43), .mov (.mv 0), none⟩,
    ⟨(some 44), .call (.f 9) [(.mv 43)], none⟩,
    ⟨(some 12), .mov (.mv 44), none⟩])
  ((.seq (.opsD [(⟨(some 45), .mov (.t 1), none⟩, false, []),
    (⟨(some 46), .bin .rem .num (.t 45) (.c (.i .u8 8)), none⟩, false, []),
    (⟨(some 47), .bin .add .num (.c (.i .u8 48)) (.t 46), none⟩, false, []),
    (⟨(some 48), .buildSlice (.i .u8 0) 1 [(0, (.t 47))], none⟩, false, []),
    (⟨(some 49), .text (.t 48), none⟩, false, []),
    (⟨(some 50), .bin .add .num (.c (.s [77, 46, 82])) (.t 49), none⟩, false, []),
    (⟨(some 51), .mov (.t 2), none⟩, false, []),
    (⟨(some 52), .bin .rem .num (.t 51) (.c (.i .u8 8)), none⟩, false, []),
    (⟨(some 53), .bin .add .num (.c (.i .u8 48)) (.t 52), none⟩, false, []),
    (⟨(some 54), .buildSlice (.i .u8 0) 1 [(0, (.t 53))], none⟩, false, []),
    (⟨(some 55), .text (.t 54), none⟩, false, []),
    (⟨(some 56), .bin .add .num (.c (.s [77, 46, 82])) (.t 55), none⟩, false, []),
    (⟨(some 13), .mov (.t 50), none⟩, false, []),
    (⟨(some 14), .mov (.t 56), none⟩, true, [])])
  ((.seq (.ops [⟨(some 58), .mov (.t 13), none⟩,
    ⟨(some 59), .mov (.t 12), none⟩,
    ⟨(some 60), .call (.f 10) [(.t 58), (.t 59)], none⟩,
    ⟨(some 57), .mov (.t 60), none⟩,
    ⟨(some 61), .extract (.t 57) 0, none⟩,
    ⟨(some 62), .extract (.t 57) 1, none⟩,
    ⟨(some 15), .mov (.t 61), none⟩,
    ⟨(some 16), .mov (.t 62), none⟩])
  ((.seq (.ops [⟨(some 64), .mov (.t 13), none⟩,
    ⟨(some 65), .mov (.t 12), none⟩,
    ⟨(some 66), .call (.f 11) [(.t 64), (.t 65)], none⟩,
    ⟨(some 63), .mov (.t 66), none⟩,
    ⟨(some 67), .extract (.t 63) 0, none⟩,
    ⟨(some 68), .extract (.t 63) 1, none⟩,
    ⟨(some 17), .mov (.t 67), none⟩,
    ⟨(some 18), .mov (.t 68), none⟩])
  ((.seq ((.seq (.ops [⟨(some 69), .mov (.t 16), none⟩,
    ⟨(some 70), .mov (.t 18), none⟩,
    ⟨(some 71), .bin .neq .bool (.t 69) (.t 70), none⟩,
    ⟨(some 72), .mov (.t 71), none⟩,
    ⟨(some 73), .mov (.t 15), some (72, false)⟩,
    ⟨(some 74), .mov (.t 17), some (72, false)⟩,
    ⟨(some 75), .call (.f 12) [(.t 73), (.t 74)], some (72, false)⟩,
    ⟨(some 76), .un .not (.t 75), some (72, false)⟩,
    ⟨(some 77), .pick (.t 72) (.c (.b true)) (.t 76), none⟩,
    ⟨(some 78), .mov (.t 77), none⟩,
    ⟨(some 79), .mov (.t 13), some (78, false)⟩,
    ⟨(some 80), .mov (.t 14), some (78, false)⟩,
    ⟨(some 81), .mov (.t 12), some (78, false)⟩,
    ⟨(some 82), .call (.f 13) [(.t 79), (.t 80), (.t 81)], some (78, false)⟩,
    ⟨(some 83), .mov (.t 13), some (78, false)⟩,
    ⟨(some 84), .mov (.t 14), some (78, false)⟩,
    ⟨(some 85), .mov (.t 12), some (78, false)⟩,
    ⟨(some 86), .call (.f 14) [(.t 83), (.t 84), (.t 85)], some (78, false)⟩,
    ⟨(some 87), .bin .neq .bool (.t 82) (.t 86), some (78, false)⟩,
    ⟨(some 88), .pick (.t 78) (.c (.b true)) (.t 87), none⟩])
  ((.cond (.t 88) ((.seq (.ops [⟨(some 10), .mov (.c (.b false)), none⟩])
   (.ret)))
   (.skip)))))
  ((.seq ((.seq (.opsD [(⟨(some 89), .load false (some 9) ⟨4, true⟩ (.t 9), none⟩, false, []),
    (⟨(some 90), .mov (.t 3), none⟩, false, []),
    (⟨(some 91), .load false (some 9) ⟨4, true⟩ (.t 9), none⟩, false, []),
    (⟨(some 92), .call (.f 15) [(.t 90), (.t 91)], none⟩, false, []),
    (⟨(some 93), .mov (.t 13), none⟩, false, []),
    (⟨(some 94), .build [(.i .i64 0), (.i .i64 0), (.s []), .nil] [(0, 1, (.c (.i .i64 8))), (2, 1, (.t 93))], none⟩, false, []),
    (⟨(some 95), .mov (.t 3), none⟩, false, []),
    (⟨(some 96), .conv .i64 (.t 95), none⟩, false, []),
    (⟨(some 97), .mov (.t 14), none⟩, false, []),
    (⟨(some 98), .build [(.i .i64 0), (.i .i64 0), (.s []), .nil] [(0, 1, (.c (.i .i64 8))), (2, 1, (.t 97))], none⟩, false, []),
    (⟨(some 99), .call (.f 16) [(.t 96), (.t 98)], none⟩, false, []),
    (⟨(some 100), .buildSlice (.agg [(.i .i64 0), (.i .i64 0), (.s []), .nil]) 4 [(0, (.t 89)), (1, (.t 92)), (2, (.t 94)), (3, (.t 99))], none⟩, false, []),
    (⟨(some 101), .bi .lenL [(.t 100)], none⟩, false, []),
    (⟨(some 102), .mov (.c (.i .i64 0)), none⟩, false, [])])
  ((.block 2 [] (f_waferlaw12_TypesRecords_L1)))))
  (f_waferlaw12_TypesRecords_R2))))))))))))
def f_waferlaw12_TypesRecords : Fn := ⟨5, [(.t 10)], true,
  (.seq (.ops [⟨(some 9), .box true (.t 4), none⟩,
    ⟨(some 10), .mov (.c (.b false)), none⟩])
  ((.seq ((.seq (.ops [⟨(some 25), .call (.f 7) [], none⟩,
    ⟨(some 26), .un .not (.t 25), none⟩])
  ((.cond (.t 26) ((.seq (.ops [⟨(some 10), .mov (.c (.b false)), none⟩])
   (.ret)))
   (.skip)))))
  ((.seq ((.seq (.ops [⟨(some 27), .load false (some 9) ⟨4, true⟩ (.t 9), none⟩,
    ⟨(some 28), .call (.f 8) [(.t 27), (.c (.i .i64 20))], none⟩,
    ⟨(some 29), .un .not (.t 28), none⟩])
  ((.cond (.t 29) ((.seq (.ops [⟨(some 10), .mov (.c (.b true)), none⟩])
   (.ret)))
   (.skip)))))
  ((.seq ((.seq (.ops [⟨(some 11), .mov (.c (.i .i64 0)), none⟩])
  ((.block 0 [0, 1, 2, 3, 9] (f_waferlaw12_TypesRecords_L0)))))
  (f_waferlaw12_TypesRecords_R3)))))))), none, none⟩
def f_waferlaw12_TypesFit_B0 : C :=
  (.seq ((.seq (.ops [⟨(some 26), .mov (.t 11), none⟩,
    ⟨(some 27), .mov (.t 0), none⟩,
    ⟨(some 28), .bi .lenL [(.t 27)], none⟩,
    ⟨(some 29), .bin .lss .num (.t 26) (.t 28), none⟩])
  ((.cond (.t 29) (.skip)
   (.exit 0)))))
  ((.seq ((.block 1 [0, 1, 2, 8, 9, 11] ((.seq (.ops [⟨(some 32), .mov (.t 0), none⟩,
     ⟨(some 33), .mov (.t 11), none⟩,
     ⟨(some 34), .indexAddr (.t 32) (.t 33) 6 none, none⟩,
     ⟨(some 35), .fieldAddr (.t 34) 2 ⟨4, true⟩, none⟩,
     ⟨(some 36), .load false none ⟨4, true⟩ (.t 35), none⟩,
     ⟨(some 37), .call (.f 8) [(.t 36), (.c (.i .i64 20))], none⟩,
     ⟨(some 38), .un .not (.t 37), none⟩])
   ((.cond (.t 38) ((.seq (.ops [⟨(some 10), .mov (.c (.b true)), none⟩])
    (.ret)))
    (.skip)))))))
  (.ops [⟨(some 30), .mov (.t 11), none⟩,
    ⟨(some 31), .bin .add .num (.t 30) (.c (.i .i64 1)), none⟩,
    ⟨(some 11), .mov (.t 31), none⟩]))))
def f_waferlaw12_TypesFit_L0 : C := .loop [0, 1, 2, 8, 9, 11] f_waferlaw12_TypesFit_B0
noncomputable def f_waferlaw12_TypesFit_l0 (pg : Pg) (v0 v1 v2 v8 v9 v11 : V) (H : List Obj) (lo : Nat) : Option (Ex × St) := exL pg f_waferlaw12_TypesFit_L0 ⟨[(0, v0), (1, v1), (2, v2), (8, v8), (9, v9), (11, v11)], H, lo⟩
theorem f_waferlaw12_TypesFit_l0_in {pg : Pg} {e : Env} {H : List Obj} {lo : Nat} : exL pg f_waferlaw12_TypesFit_L0 ⟨e, H, lo⟩ = f_waferlaw12_TypesFit_l0 pg (keepV (get 0 e)) (keepV (get 1 e)) (keepV (get 2 e)) (keepV (get 8 e)) (keepV (get 9 e)) (keepV (get 11 e)) H lo := loop_in
theorem f_waferlaw12_TypesFit_l0_eq {pg : Pg} {v0 v1 v2 v8 v9 v11 : V} {H : List Obj} {lo : Nat} : f_waferlaw12_TypesFit_l0 pg v0 v1 v2 v8 v9 v11 H lo = thenC pg (exL pg f_waferlaw12_TypesFit_B0 ⟨[(0, keepV v0), (1, keepV v1), (2, keepV v2), (8, keepV v8), (9, keepV v9), (11, keepV v11)], H, lo⟩) f_waferlaw12_TypesFit_L0 := by
  unfold f_waferlaw12_TypesFit_l0 f_waferlaw12_TypesFit_L0; rw [exL_loop]; simp only [restrict_cons, restrict_nil, get_eq, get_ne, Nat.reduceEqDiff]
def f_waferlaw12_TypesFit_B1 : C :=
  (.seq ((.seq (.ops [⟨(some 58), .mov (.t 15), none⟩,
    ⟨(some 59), .mov (.t 13), none⟩,
    ⟨(some 60), .bi .lenL [(.t 59)], none⟩,
    ⟨(some 61), .bin .lss .num (.t 58) (.t 60), none⟩])
  ((.cond (.t 61) (.skip)
   (.exit 4)))))
  ((.seq ((.block 5 [12, 13, 14, 15] ((.seq (.opsD [(⟨(some 64), .mov (.t 13), none⟩, false, []),
     (⟨(some 65), .mov (.t 14), none⟩, false, []),
     (⟨(some 66), .indexAddr (.t 64) (.t 65) 4 none, none⟩, false, []),
     (⟨(some 67), .load false none ⟨4, true⟩ (.t 66), none⟩, false, []),
     (⟨(some 68), .mov (.t 13), none⟩, false, []),
     (⟨(some 69), .mov (.t 15), none⟩, false, []),
     (⟨(some 70), .indexAddr (.t 68) (.t 69) 4 none, none⟩, false, []),
     (⟨(some 71), .load false none ⟨4, true⟩ (.t 70), none⟩, false, []),
     (⟨(some 72), .mov (.t 12), none⟩, false, []),
     (⟨(some 73), .call (.f 20) [(.t 67), (.t 71), (.t 72)], none⟩, false, []),
     (⟨(some 74), .mov (.t 13), none⟩, false, []),
     (⟨(some 75), .mov (.t 14), none⟩, false, []),
     (⟨(some 76), .indexAddr (.t 74) (.t 75) 4 none, none⟩, false, []),
     (⟨(some 77), .load false none ⟨4, true⟩ (.t 76), none⟩, false, []),
     (⟨(some 78), .mov (.t 13), none⟩, false, []),
     (⟨(some 79), .mov (.t 15), none⟩, false, []),
     (⟨(some 80), .indexAddr (.t 78) (.t 79) 4 none, none⟩, false, []),
     (⟨(some 81), .load false none ⟨4, true⟩ (.t 80), none⟩, false, []),
     (⟨(some 82), .mov (.t 12), none⟩, false, []),
     (⟨(some 83), .call (.f 21) [(.t 77), (.t 81), (.t 82)], none⟩, true, []),
     (⟨(some 84), .bin .neq .bool (.t 73) (.t 83), none⟩, true, [])])
   ((.cond (.t 84) ((.seq (.ops [⟨(some 10), .mov (.c (.b false)), none⟩])
    (.ret)))
    (.skip)))))))
  (.ops [⟨(some 62), .mov (.t 15), none⟩,
    ⟨(some 63), .bin .add .num (.t 62) (.c (.i .i64 1)), none⟩,
    ⟨(some 15), .mov (.t 63), none⟩]))))
def f_waferlaw12_TypesFit_L1 : C := .loop [12, 13, 14, 15] f_waferlaw12_TypesFit_B1
noncomputable def f_waferlaw12_TypesFit_l1 (pg : Pg) (v12 v13 v14 v15 : V) (H : List Obj) (lo : Nat) : Option (Ex × St) := exL pg f_waferlaw12_TypesFit_L1 ⟨[(12, v12), (13, v13), (14, v14), (15, v15)], H, lo⟩
theorem f_waferlaw12_TypesFit_l1_in {pg : Pg} {e : Env} {H : List Obj} {lo : Nat} : exL pg f_waferlaw12_TypesFit_L1 ⟨e, H, lo⟩ = f_waferlaw12_TypesFit_l1 pg (keepV (get 12 e)) (keepV (get 13 e)) (keepV (get 14 e)) (keepV (get 15 e)) H lo := loop_in
theorem f_waferlaw12_TypesFit_l1_eq {pg : Pg} {v12 v13 v14 v15 : V} {H : List Obj} {lo : Nat} : f_waferlaw12_TypesFit_l1 pg v12 v13 v14 v15 H lo = thenC pg (exL pg f_waferlaw12_TypesFit_B1 ⟨[(12, keepV v12), (13, keepV v13), (14, keepV v14), (15, keepV v15)], H, lo⟩) f_waferlaw12_TypesFit_L1 := by
  unfold f_waferlaw12_TypesFit_l1 f_waferlaw12_TypesFit_L1; rw [exL_loop]; simp only [restrict_cons, restrict_nil, get_eq, get_ne, Nat.reduceEqDiff]
def f_waferlaw12_TypesFit_R2 : C :=
  .ops [⟨(some 56), .mov (.t 14), none⟩,
    ⟨(some 57), .bin .add .num (.t 56) (.c (.i .i64 1)), none⟩,
    ⟨(some 14), .mov (.t 57), none⟩]
def f_waferlaw12_TypesFit_B3 : C :=
  (.seq ((.seq (.ops [⟨(some 52), .mov (.t 14), none⟩,
    ⟨(some 53), .mov (.t 13), none⟩,
    ⟨(some 54), .bi .lenL [(.t 53)], none⟩,
    ⟨(some 55), .bin .lss .num (.t 52) (.t 54), none⟩])
  ((.cond (.t 55) (.skip)
   (.exit 2)))))
  ((.seq ((.block 3 [12, 13, 14] ((.seq (.ops [⟨(some 15), .mov (.c (.i .i64 0)), none⟩])
   ((.block 4 [12, 13, 14] (f_waferlaw12_TypesFit_L1)))))))
  (f_waferlaw12_TypesFit_R2))))
def f_waferlaw12_TypesFit_L3 : C := .loop [12, 13, 14] f_waferlaw12_TypesFit_B3
noncomputable def f_waferlaw12_TypesFit_l3 (pg : Pg) (v12 v13 v14 : V) (H : List Obj) (lo : Nat) : Option (Ex × St) := exL pg f_waferlaw12_TypesFit_L3 ⟨[(12, v12), (13, v13), (14, v14)], H, lo⟩
theorem f_waferlaw12_TypesFit_l3_in {pg : Pg} {e : Env} {H : List Obj} {lo : Nat} : exL pg f_waferlaw12_TypesFit_L3 ⟨e, H, lo⟩ = f_waferlaw12_TypesFit_l3 pg (keepV (get 12 e)) (keepV (get 13 e)) (keepV (get 14 e)) H lo := loop_in
theorem f_waferlaw12_TypesFit_l3_eq {pg : Pg} {v12 v13 v14 : V} {H : List Obj} {lo : Nat} : f_waferlaw12_TypesFit_l3 pg v12 v13 v14 H lo = thenC pg (exL pg f_waferlaw12_TypesFit_B3 ⟨[(12, keepV v12), (13, keepV v13), (14, keepV v14)], H, lo⟩) f_waferlaw12_TypesFit_L3 := by
  unfold f_waferlaw12_TypesFit_l3 f_waferlaw12_TypesFit_L3; rw [exL_loop]; simp only [restrict_cons, restrict_nil, get_eq, get_ne, Nat.reduceEqDiff]
def f_waferlaw12_TypesFit_R4 : C :=
  (.seq (.ops [⟨(some 10), .mov (.c (.b true)), none⟩])
  (.ret))
def f_waferlaw12_TypesFit_R5 : C :=
  (.seq (.ops [⟨(some 39), .mov (.mv 0), none⟩,
    ⟨(some 40), .call (.f 9) [(.mv 39)], none⟩,
    ⟨(some 12), .mov (.mv 40), none⟩])
  ((.seq (.opsD [(⟨(some 41), .load false (some 8) ⟨4, true⟩ (.t 8), none⟩, false, []),
    (⟨(some 42), .load false (some 9) ⟨4, true⟩ (.t 9), none⟩, false, []),
    (⟨(some 43), .mov (.mv 1), none⟩, false, []),
    (⟨(some 44), .load false (some 8) ⟨4, true⟩ (.t 8), none⟩, false, []),
    (⟨(some 45), .call (.f 15) [(.mv 43), (.t 44)], none⟩, false, []),
    (⟨(some 46), .mov (.mv 2), none⟩, false, []),
    (⟨(some 47), .load false (some 9) ⟨4, true⟩ (.t 9), none⟩, false, []),
    (⟨(some 48), .call (.f 15) [(.mv 46), (.t 47)], none⟩, false, []),
    (⟨(some 49), .call (.f 19) [(.c (.i .i64 5))], none⟩, false, []),
    (⟨(some 50), .call (.f 19) [(.c (.i .i64 6))], none⟩, false, []),
    (⟨(some 51), .buildSlice (.agg [(.i .i64 0), (.i .i64 0), (.s []), .nil]) 6 [(0, (.t 41)), (1, (.t 42)), (2, (.t 45)), (3, (.t 48)), (4, (.t 49)), (5, (.t 50))], none⟩, true, []),
    (⟨(some 13), .mov (.mv 51), none⟩, true, [])])
  ((.seq ((.seq (.ops [⟨(some 14), .mov (.c (.i .i64 0)), none⟩])
  ((.block 2 [] (f_waferlaw12_TypesFit_L3)))))
  (f_waferlaw12_TypesFit_R4))))))
def f_waferlaw12_TypesFit : Fn := ⟨5, [(.t 10)], true,
  (.seq (.ops [⟨(some 8), .box true (.t 3), none⟩,
    ⟨(some 9), .box true (.t 4), none⟩,
    ⟨(some 10), .mov (.c (.b false)), none⟩])
  ((.seq ((.seq (.ops [⟨(some 16), .call (.f 7) [], none⟩,
    ⟨(some 17), .un .not (.t 16), none⟩])
  ((.cond (.t 17) ((.seq (.ops [⟨(some 10), .mov (.c (.b false)), none⟩])
   (.ret)))
   (.skip)))))
  ((.seq ((.seq (.ops [⟨(some 18), .load false (some 8) ⟨4, true⟩ (.t 8), none⟩,
    ⟨(some 19), .call (.f 8) [(.t 18), (.c (.i .i64 20))], none⟩,
    ⟨(some 20), .un .not (.t 19), none⟩,
    ⟨(some 21), .mov (.t 20), none⟩,
    ⟨(some 22), .load false (some 9) ⟨4, true⟩ (.t 9), some (21, false)⟩,
    ⟨(some 23), .call (.f 8) [(.t 22), (.c (.i .i64 20))], some (21, false)⟩,
    ⟨(some 24), .un .not (.t 23), some (21, false)⟩,
    ⟨(some 25), .pick (.t 21) (.c (.b true)) (.t 24), none⟩])
  ((.cond (.t 25) ((.seq (.ops [⟨(some 10), .mov (.c (.b true)), none⟩])
   (.ret)))
   (.skip)))))
  ((.seq ((.seq (.ops [⟨(some 11), .mov (.c (.i .i64 0)), none⟩])
  ((.block 0 [0, 1, 2, 8, 9] (f_waferlaw12_TypesFit_L0)))))
  (f_waferlaw12_TypesFit_R5)))))))), none, none⟩
def f_waferlaw12_TypesChain_B0 : C :=
  (.seq ((.seq (.ops [⟨(some 27), .mov (.t 9), none⟩,
    ⟨(some 28), .mov (.t 7), none⟩,
    ⟨(some 29), .bin .lss .num (.t 27) (.t 28), none⟩])
  ((.cond (.t 29) (.skip)
   (.exit 0)))))
  ((.seq ((.block 1 [1, 2, 7, 8, 9] ((.seq (.opsD [(⟨(some 32), .mov (.t 9), none⟩, false, [10]),
     (⟨(some 33), .conv .u8 (.t 32), none⟩, false, [10]),
     (⟨(some 34), .bin .add .num (.c (.i .u8 97)) (.t 33), none⟩, false, [10]),
     (⟨(some 35), .buildSlice (.i .u8 0) 1 [(0, (.t 34))], none⟩, false, [10]),
     (⟨(some 36), .text (.t 35), none⟩, false, [10]),
     (⟨(some 37), .bin .add .num (.c (.s [102])) (.t 36), none⟩, false, [10]),
     (⟨(some 38), .mov (.t 9), none⟩, false, [10]),
     (⟨(some 39), .bin .add .num (.t 38) (.c (.i .i64 1)), none⟩, false, [10]),
     (⟨(some 40), .call (.f 19) [(.c (.i .i64 1))], none⟩, false, [10]),
     (⟨(some 41), .call (.f 16) [(.t 39), (.t 40)], none⟩, false, [10]),
     (⟨(some 42), .build [(.s []), (.b false), (.i .i64 0), (.i .i64 0), (.s []), .nil] [(0, 1, (.t 37)), (2, 4, (.t 41))], none⟩, false, [10]),
     (⟨(some 43), .buildSlice (.agg [(.s []), (.b false), (.i .i64 0), (.i .i64 0), (.s []), .nil]) 1 [(0, (.t 42))], none⟩, false, [10]),
     (⟨(some 44), .build [(.s []), (.b false), (.s []), .nil] [(0, 1, (.c (.s [82]))), (3, 1, (.t 43))], none⟩, false, [10]),
     (⟨(some 10), .alloc true [(.s []), (.b false), (.s []), .nil], none⟩, false, [10]),
     (⟨none, .store (some 10) ⟨4, true⟩ (.t 10) (.t 44), none⟩, true, [])])
   ((.seq ((.seq (.ops [⟨(some 45), .mov (.t 9), none⟩,
     ⟨(some 46), .bin .gtr .num (.t 45) (.c (.i .i64 0)), none⟩])
   ((.cond (.t 46) (.ops [⟨(some 47), .mov (.t 9), none⟩,
      ⟨(some 48), .bin .sub .num (.t 47) (.c (.i .i64 1)), none⟩,
      ⟨(some 49), .conv .u8 (.t 48), none⟩,
      ⟨(some 50), .bin .add .num (.c (.i .u8 97)) (.t 49), none⟩,
      ⟨(some 51), .buildSlice (.i .u8 0) 1 [(0, (.t 50))], none⟩,
      ⟨(some 52), .text (.t 51), none⟩,
      ⟨(some 53), .bin .add .num (.c (.s [77, 46])) (.t 52), none⟩,
      ⟨(some 54), .fieldAddr (.t 10) 2 ⟨1, false⟩, none⟩,
      ⟨none, .store (some 10) ⟨1, false⟩ (.t 54) (.t 53), none⟩])
    (.skip)))))
   (.ops [⟨(some 55), .mov (.t 8), none⟩,
     ⟨(some 56), .mov (.t 9), none⟩,
     ⟨(some 57), .conv .u8 (.t 56), none⟩,
     ⟨(some 58), .bin .add .num (.c (.i .u8 97)) (.t 57), none⟩,
     ⟨(some 59), .buildSlice (.i .u8 0) 1 [(0, (.t 58))], none⟩,
     ⟨(some 60), .text (.t 59), none⟩,
     ⟨(some 61), .bin .add .num (.c (.s [77, 46])) (.t 60), none⟩,
     ⟨(some 62), .load false (some 10) ⟨4, true⟩ (.t 10), none⟩,
     ⟨none, .mapUpdate 2 (.t 55) (.t 61) (.t 62), none⟩])))))))
  (.ops [⟨(some 30), .mov (.t 9), none⟩,
    ⟨(some 31), .bin .add .num (.t 30) (.c (.i .i64 1)), none⟩,
    ⟨(some 9), .mov (.t 31), none⟩]))))
def f_waferlaw12_TypesChain_L0 : C := .loop [1, 2, 7, 8, 9] f_waferlaw12_TypesChain_B0
noncomputable def f_waferlaw12_TypesChain_l0 (pg : Pg) (v1 v2 v7 v8 v9 : V) (H : List Obj) (lo : Nat) : Option (Ex × St) := exL pg f_waferlaw12_TypesChain_L0 ⟨[(1, v1), (2, v2), (7, v7), (8, v8), (9, v9)], H, lo⟩
theorem f_waferlaw12_TypesChain_l0_in {pg : Pg} {e : Env} {H : List Obj} {lo : Nat} : exL pg f_waferlaw12_TypesChain_L0 ⟨e, H, lo⟩ = f_waferlaw12_TypesChain_l0 pg (keepV (get 1 e)) (keepV (get 2 e)) (keepV (get 7 e)) (keepV (get 8 e)) (keepV (get 9 e)) H lo := loop_in
theorem f_waferlaw12_TypesChain_l0_eq {pg : Pg} {v1 v2 v7 v8 v9 : V} {H : List Obj} {lo : Nat} : f_waferlaw12_TypesChain_l0 pg v1 v2 v7 v8 v9 H lo = thenC pg (exL pg f_waferlaw12_TypesChain_B0 ⟨[(1, keepV v1), (2, keepV v2), (7, keepV v7), (8, keepV v8), (9, keepV v9)], H, lo⟩) f_waferlaw12_TypesChain_L0 := by
  unfold f_waferlaw12_TypesChain_l0 f_waferlaw12_TypesChain_L0; rw [exL_loop]; simp only [restrict_cons, restrict_nil, get_eq, get_ne, Nat.reduceEqDiff]
def f_waferlaw12_TypesChain_B1 : C :=
  (.seq ((.seq (.ops [⟨(some 129), .mov (.t 19), none⟩,
    ⟨(some 130), .mov (.t 15), none⟩,
    ⟨(some 131), .bi .lenL [(.t 130)], none⟩,
    ⟨(some 132), .bin .lss .num (.t 129) (.t 131), none⟩])
  ((.cond (.t 132) (.skip)
   (.exit 2)))))
  ((.seq ((.block 3 [8, 11, 12, 13, 14, 15, 19] ((.seq (.opsD [(⟨(some 135), .mov (.t 15), none⟩, false, []),
     (⟨(some 136), .mov (.t 19), none⟩, false, []),
     (⟨(some 137), .indexAddr (.t 135) (.t 136) 6 none, none⟩, false, []),
     (⟨(some 138), .fieldAddr (.t 137) 0 ⟨1, false⟩, none⟩, false, []),
     (⟨(some 139), .load false none ⟨1, false⟩ (.t 138), none⟩, false, []),
     (⟨(some 140), .mov (.t 19), none⟩, false, []),
     (⟨(some 141), .conv .u8 (.t 140), none⟩, false, []),
     (⟨(some 142), .bin .add .num (.c (.i .u8 97)) (.t 141), none⟩, false, []),
     (⟨(some 143), .buildSlice (.i .u8 0) 1 [(0, (.t 142))], none⟩, false, []),
     (⟨(some 144), .text (.t 143), none⟩, false, []),
     (⟨(some 145), .bin .add .num (.c (.s [102])) (.t 144), none⟩, false, []),
     (⟨(some 146), .bin .neq .num (.t 139) (.t 145), none⟩, true, [])])
   ((.cond (.t 146) ((.seq (.ops [⟨(some 6), .mov (.c (.b false)), none⟩])
    (.ret)))
    (.skip)))))))
  (.ops [⟨(some 133), .mov (.t 19), none⟩,
    ⟨(some 134), .bin .add .num (.t 133) (.c (.i .i64 1)), none⟩,
    ⟨(some 19), .mov (.t 134), none⟩]))))
def f_waferlaw12_TypesChain_L1 : C := .loop [8, 11, 12, 13, 14, 15, 19] f_waferlaw12_TypesChain_B1
noncomputable def f_waferlaw12_TypesChain_l1 (pg : Pg) (v8 v11 v12 v13 v14 v15 v19 : V) (H : List Obj) (lo : Nat) : Option (Ex × St) := exL pg f_waferlaw12_TypesChain_L1 ⟨[(8, v8), (11, v11), (12, v12), (13, v13), (14, v14), (15, v15), (19, v19)], H, lo⟩
theorem f_waferlaw12_TypesChain_l1_in {pg : Pg} {e : Env} {H : List Obj} {lo : Nat} : exL pg f_waferlaw12_TypesChain_L1 ⟨e, H, lo⟩ = f_waferlaw12_TypesChain_l1 pg (keepV (get 8 e)) (keepV (get 11 e)) (keepV (get 12 e)) (keepV (get 13 e)) (keepV (get 14 e)) (keepV (get 15 e)) (keepV (get 19 e)) H lo := loop_in
theorem f_waferlaw12_TypesChain_l1_eq {pg : Pg} {v8 v11 v12 v13 v14 v15 v19 : V} {H : List Obj} {lo : Nat} : f_waferlaw12_TypesChain_l1 pg v8 v11 v12 v13 v14 v15 v19 H lo = thenC pg (exL pg f_waferlaw12_TypesChain_B1 ⟨[(8, keepV v8), (11, keepV v11), (12, keepV v12), (13, keepV v13), (14, keepV v14), (15, keepV v15), (19, keepV v19)], H, lo⟩) f_waferlaw12_TypesChain_L1 := by
  unfold f_waferlaw12_TypesChain_l1 f_waferlaw12_TypesChain_L1; rw [exL_loop]; simp only [restrict_cons, restrict_nil, get_eq, get_ne, Nat.reduceEqDiff]
def f_waferlaw12_TypesChain_R2 : C :=
  (.seq (.ops [⟨(some 147), .mov (.t 14), none⟩,
    ⟨(some 148), .build [(.i .i64 0), (.i .i64 0), (.s []), .nil] [(0, 1, (.c (.i .i64 9))), (2, 1, (.t 147))], none⟩,
    ⟨(some 149), .mov (.t 13), none⟩,
    ⟨(some 150), .build [(.i .i64 0), (.i .i64 0), (.s []), .nil] [(0, 1, (.c (.i .i64 9))), (2, 1, (.t 149))], none⟩,
    ⟨(some 151), .mov (.mv 8), none⟩,
    ⟨(some 152), .call (.f 20) [(.t 148), (.t 150), (.mv 151)], none⟩,
    ⟨(some 153), .mov (.t 11), none⟩,
    ⟨(some 154), .mov (.t 12), none⟩,
    ⟨(some 155), .bin .geq .num (.t 153) (.t 154), none⟩,
    ⟨(some 156), .bin .eql .bool (.t 152) (.t 155), none⟩,
    ⟨(some 6), .mov (.t 156), none⟩])
  (.ret))
def f_waferlaw12_TypesChain_R3 : C :=
  (.seq (.opsD [(⟨(some 63), .mov (.t 1), none⟩, false, []),
    (⟨(some 64), .conv .i64 (.t 63), none⟩, false, []),
    (⟨(some 65), .mov (.t 7), none⟩, false, []),
    (⟨(some 66), .bin .rem .num (.t 64) (.t 65), none⟩, false, []),
    (⟨(some 67), .mov (.t 2), none⟩, false, []),
    (⟨(some 68), .conv .i64 (.t 67), none⟩, false, []),
    (⟨(some 69), .mov (.t 7), none⟩, false, []),
    (⟨(some 70), .bin .rem .num (.t 68) (.t 69), none⟩, false, []),
    (⟨(some 11), .mov (.t 66), none⟩, false, []),
    (⟨(some 12), .mov (.t 70), none⟩, true, [])])
  ((.seq (.opsD [(⟨(some 71), .mov (.t 11), none⟩, false, []),
    (⟨(some 72), .conv .u8 (.t 71), none⟩, false, []),
    (⟨(some 73), .bin .add .num (.c (.i .u8 97)) (.t 72), none⟩, false, []),
    (⟨(some 74), .buildSlice (.i .u8 0) 1 [(0, (.t 73))], none⟩, false, []),
    (⟨(some 75), .text (.t 74), none⟩, false, []),
    (⟨(some 76), .bin .add .num (.c (.s [77, 46])) (.t 75), none⟩, false, []),
    (⟨(some 77), .mov (.t 12), none⟩, false, []),
    (⟨(some 78), .conv .u8 (.t 77), none⟩, false, []),
    (⟨(some 79), .bin .add .num (.c (.i .u8 97)) (.t 78), none⟩, false, []),
    (⟨(some 80), .buildSlice (.i .u8 0) 1 [(0, (.t 79))], none⟩, false, []),
    (⟨(some 81), .text (.t 80), none⟩, false, []),
    (⟨(some 82), .bin .add .num (.c (.s [77, 46])) (.t 81), none⟩, false, []),
    (⟨(some 13), .mov (.t 76), none⟩, false, []),
    (⟨(some 14), .mov (.t 82), none⟩, true, [])])
  ((.seq (.ops [⟨(some 84), .mov (.t 13), none⟩,
    ⟨(some 85), .mov (.t 8), none⟩,
    ⟨(some 86), .call (.f 10) [(.t 84), (.t 85)], none⟩,
    ⟨(some 83), .mov (.t 86), none⟩,
    ⟨(some 87), .extract (.t 83) 0, none⟩,
    ⟨(some 88), .extract (.t 83) 1, none⟩,
    ⟨(some 15), .mov (.t 87), none⟩,
    ⟨(some 16), .mov (.t 88), none⟩])
  ((.seq (.ops [⟨(some 90), .mov (.t 13), none⟩,
    ⟨(some 91), .build [(.i .i64 0), (.i .i64 0), (.s []), .nil] [(0, 1, (.c (.i .i64 8))), (2, 1, (.t 90))], none⟩,
    ⟨(some 92), .mov (.t 8), none⟩,
    ⟨(some 93), .call (.f 17) [(.t 91), (.t 92)], none⟩,
    ⟨(some 89), .mov (.t 93), none⟩,
    ⟨(some 94), .extract (.t 89) 0, none⟩,
    ⟨(some 95), .extract (.t 89) 1, none⟩,
    ⟨(some 17), .mov (.t 94), none⟩,
    ⟨(some 18), .mov (.t 95), none⟩])
  ((.seq ((.seq (.ops [⟨(some 96), .mov (.t 16), none⟩,
    ⟨(some 97), .un .not (.t 96), none⟩,
    ⟨(some 98), .mov (.t 97), none⟩,
    ⟨(some 99), .mov (.t 18), some (98, false)⟩,
    ⟨(some 100), .un .not (.t 99), some (98, false)⟩,
    ⟨(some 101), .pick (.t 98) (.c (.b true)) (.t 100), none⟩,
    ⟨(some 102), .mov (.t 101), none⟩,
    ⟨(some 103), .mov (.t 15), some (102, false)⟩,
    ⟨(some 104), .bi .lenL [(.t 103)], some (102, false)⟩,
    ⟨(some 105), .mov (.t 11), some (102, false)⟩,
    ⟨(some 106), .bin .add .num (.t 105) (.c (.i .i64 1)), some (102, false)⟩,
    ⟨(some 107), .bin .neq .num (.t 104) (.t 106), some (102, false)⟩,
    ⟨(some 108), .pick (.t 102) (.c (.b true)) (.t 107), none⟩,
    ⟨(some 109), .mov (.t 108), none⟩,
    ⟨(some 110), .mov (.t 17), some (109, false)⟩,
    ⟨(some 111), .mov (.t 11), some (109, false)⟩,
    ⟨(some 112), .bin .add .num (.t 111) (.c (.i .i64 1)), some (109, false)⟩,
    ⟨(some 113), .mov (.t 11), some (109, false)⟩,
    ⟨(some 114), .bin .add .num (.t 113) (.c (.i .i64 2)), some (109, false)⟩,
    ⟨(some 115), .bin .mul .num (.t 112) (.t 114), some (109, false)⟩,
    ⟨(some 116), .bin .quo .num (.t 115) (.c (.i .i64 2)), some (109, false)⟩,
    ⟨(some 117), .bin .neq .num (.t 110) (.t 116), some (109, false)⟩,
    ⟨(some 118), .pick (.t 109) (.c (.b true)) (.t 117), none⟩,
    ⟨(some 119), .mov (.t 118), none⟩,
    ⟨(some 120), .mov (.t 13), some (119, false)⟩,
    ⟨(some 121), .mov (.t 14), some (119, false)⟩,
    ⟨(some 122), .mov (.t 8), some (119, false)⟩,
    ⟨(some 123), .call (.f 13) [(.t 120), (.t 121), (.t 122)], some (119, false)⟩,
    ⟨(some 124), .mov (.t 11), some (119, false)⟩,
    ⟨(some 125), .mov (.t 12), some (119, false)⟩,
    ⟨(some 126), .bin .geq .num (.t 124) (.t 125), some (119, false)⟩,
    ⟨(some 127), .bin .neq .bool (.t 123) (.t 126), some (119, false)⟩,
    ⟨(some 128), .pick (.t 119) (.c (.b true)) (.t 127), none⟩])
  ((.cond (.t 128) ((.seq (.ops [⟨(some 6), .mov (.c (.b false)), none⟩])
   (.ret)))
   (.skip)))))
  ((.seq ((.seq (.ops [⟨(some 19), .mov (.c (.i .i64 0)), none⟩])
  ((.block 2 [8, 11, 12, 13, 14] (f_waferlaw12_TypesChain_L1)))))
  (f_waferlaw12_TypesChain_R2))))))))))))
def f_waferlaw12_TypesChain : Fn := ⟨3, [(.t 6)], true,
  (.seq (.ops [⟨(some 6), .mov (.c (.b false)), none⟩])
  ((.seq ((.seq (.ops [⟨(some 20), .call (.f 7) [], none⟩,
    ⟨(some 21), .un .not (.t 20), none⟩])
  ((.cond (.t 21) ((.seq (.ops [⟨(some 6), .mov (.c (.b false)), none⟩])
   (.ret)))
   (.skip)))))
  ((.seq (.ops [⟨(some 22), .mov (.t 0), none⟩,
    ⟨(some 23), .bin .rem .num (.t 22) (.c (.i .u8 12)), none⟩,
    ⟨(some 24), .conv .i64 (.t 23), none⟩,
    ⟨(some 25), .bin .add .num (.t 24) (.c (.i .i64 1)), none⟩,
    ⟨(some 7), .mov (.t 25), none⟩])
  ((.seq (.ops [⟨(some 26), .mkMap, none⟩,
    ⟨(some 8), .mov (.t 26), none⟩])
  ((.seq ((.seq (.ops [⟨(some 9), .mov (.c (.i .i64 0)), none⟩])
  ((.block 0 [1, 2, 7, 8] (f_waferlaw12_TypesChain_L0)))))
  (f_waferlaw12_TypesChain_R3)))))))))), none, none⟩
def f_waferlaw12_TypesGreat : Fn := ⟨2, [(.t 4)], true,
  (.seq (.ops [⟨(some 4), .mov (.c (.b false)), none⟩])
  ((.seq ((.seq (.ops [⟨(some 14), .call (.f 7) [], none⟩,
    ⟨(some 15), .un .not (.t 14), none⟩])
  ((.cond (.t 15) ((.seq (.ops [⟨(some 4), .mov (.c (.b false)), none⟩])
   (.ret)))
   (.skip)))))
  ((.seq (.ops [⟨(some 16), .mov (.t 0), none⟩,
    ⟨(some 17), .bin .rem .num (.t 16) (.c (.i .u8 5)), none⟩,
    ⟨(some 18), .conv .i64 (.t 17), none⟩,
    ⟨(some 19), .bin .sub .num (.t 18) (.c (.i .i64 2)), none⟩,
    ⟨(some 5), .mov (.t 19), none⟩])
  ((.seq (.ops [⟨(some 20), .call (.f 19) [(.c (.i .i64 1))], none⟩,
    ⟨(some 21), .call (.f 16) [(.c (.i .i64 1024)), (.t 20)], none⟩,
    ⟨(some 22), .call (.f 16) [(.c (.i .i64 16)), (.t 21)], none⟩,
    ⟨(some 6), .alloc true [(.i .i64 0), (.i .i64 0), (.s []), .nil], none⟩,
    ⟨none, .store (some 6) ⟨4, true⟩ (.t 6) (.mv 22), none⟩])
  ((.seq ((.seq (.ops [⟨(some 23), .mov (.t 1), none⟩])
  ((.cond (.t 23) ((.seq (.ops [⟨(some 24), .call (.f 19) [(.c (.i .i64 1))], none⟩,
     ⟨(some 25), .call (.f 16) [(.c (.i .i64 1023)), (.t 24)], none⟩,
     ⟨(some 26), .call (.f 16) [(.c (.i .i64 16)), (.t 25)], none⟩,
     ⟨(some 27), .build [(.s []), (.b false), (.i .i64 0), (.i .i64 0), (.s []), .nil] [(0, 1, (.c (.s [97]))), (2, 4, (.t 26))], none⟩,
     ⟨(some 28), .mov (.t 5), none⟩,
     ⟨(some 29), .bin .add .num (.c (.i .i64 16)) (.t 28), none⟩,
     ⟨(some 30), .call (.f 19) [(.c (.i .i64 1))], none⟩,
     ⟨(some 31), .call (.f 16) [(.t 29), (.t 30)], none⟩,
     ⟨(some 32), .build [(.s []), (.b false), (.i .i64 0), (.i .i64 0), (.s []), .nil] [(0, 1, (.c (.s [98]))), (2, 4, (.t 31))], none⟩,
     ⟨(some 33), .buildSlice (.agg [(.s []), (.b false), (.i .i64 0), (.i .i64 0), (.s []), .nil]) 2 [(0, (.t 27)), (1, (.t 32))], none⟩,
     ⟨(some 34), .build [(.s []), (.b false), (.s []), .nil] [(3, 1, (.t 33))], none⟩,
     ⟨(some 7), .alloc true [(.s []), (.b false), (.s []), .nil], none⟩,
     ⟨none, .store (some 7) ⟨4, true⟩ (.t 7) (.t 34), none⟩])
   ((.seq (.ops [⟨(some 36), .build [(.i .i64 0), (.i .i64 0), (.s []), .nil] [(0, 1, (.c (.i .i64 8))), (2, 1, (.c (.s [77, 46, 82])))], none⟩,
     ⟨(some 37), .mkMap, none⟩,
     ⟨(some 38), .load false (some 7) ⟨4, true⟩ (.t 7), none⟩,
     ⟨none, .mapUpdate 2 (.t 37) (.c (.s [77, 46, 82])) (.t 38), none⟩,
     ⟨(some 39), .mov (.mv 37), none⟩,
     ⟨(some 40), .call (.f 17) [(.t 36), (.mv 39)], none⟩,
     ⟨(some 35), .mov (.t 40), none⟩,
     ⟨(some 41), .extract (.t 35) 0, none⟩,
     ⟨(some 42), .extract (.t 35) 1, none⟩,
     ⟨(some 8), .mov (.t 41), none⟩,
     ⟨(some 9), .mov (.t 42), none⟩])
   ((.seq (.ops [⟨(some 43), .mov (.t 9), none⟩,
     ⟨(some 44), .mov (.t 5), none⟩,
     ⟨(some 45), .bin .leq .num (.t 44) (.c (.i .i64 0)), none⟩,
     ⟨(some 46), .bin .eql .bool (.t 43) (.t 45), none⟩,
     ⟨(some 47), .mov (.t 46), none⟩,
     ⟨(some 48), .mov (.t 9), some (47, true)⟩,
     ⟨(some 49), .un .not (.t 48), some (47, true)⟩,
     ⟨(some 50), .mov (.t 49), some (47, true)⟩,
     ⟨(some 51), .mov (.t 8), some (50, false)⟩,
     ⟨(some 52), .mov (.t 5), some (50, false)⟩,
     ⟨(some 53), .bin .add .num (.c (.i .i64 16384)) (.t 52), some (50, false)⟩,
     ⟨(some 54), .bin .eql .num (.t 51) (.t 53), some (50, false)⟩,
     ⟨(some 55), .pick (.t 50) (.c (.b true)) (.t 54), some (47, true)⟩,
     ⟨(some 56), .pick (.t 47) (.t 55) (.c (.b false)), none⟩,
     ⟨(some 4), .mov (.t 56), none⟩])
   (.ret)))))))
   (.skip)))))
  ((.seq (.ops [⟨(some 58), .load false (some 6) ⟨4, true⟩ (.t 6), none⟩,
    ⟨(some 59), .call (.f 17) [(.t 58), (.c .nm)], none⟩,
    ⟨(some 57), .mov (.t 59), none⟩,
    ⟨(some 60), .extract (.t 57) 0, none⟩,
    ⟨(some 61), .extract (.t 57) 1, none⟩,
    ⟨(some 10), .mov (.t 60), none⟩,
    ⟨(some 11), .mov (.t 61), none⟩])
  ((.seq (.ops [⟨(some 63), .fieldAddr (.t 6) 3 ⟨1, false⟩, none⟩,
    ⟨(some 64), .load false (some 6) ⟨1, false⟩ (.t 63), none⟩,
    ⟨(some 65), .indexAddr (.t 64) (.c (.i .i64 0)) 4 none, none⟩,
    ⟨(some 66), .load false none ⟨4, true⟩ (.t 65), none⟩,
    ⟨(some 67), .call (.f 16) [(.c (.i .i64 17)), (.t 66)], none⟩,
    ⟨(some 68), .call (.f 17) [(.t 67), (.c .nm)], none⟩,
    ⟨(some 62), .mov (.t 68), none⟩,
    ⟨(some 69), .extract (.t 62) 0, none⟩,
    ⟨(some 70), .extract (.t 62) 1, none⟩,
    ⟨(some 12), .mov (.t 69), none⟩,
    ⟨(some 13), .mov (.t 70), none⟩])
  ((.seq (.ops [⟨(some 71), .mov (.t 11), none⟩,
    ⟨(some 72), .mov (.t 71), none⟩,
    ⟨(some 73), .mov (.t 10), some (72, true)⟩,
    ⟨(some 74), .bin .eql .num (.t 73) (.c (.i .i64 16384)), some (72, true)⟩,
    ⟨(some 75), .pick (.t 72) (.t 74) (.c (.b false)), none⟩,
    ⟨(some 76), .mov (.t 75), none⟩,
    ⟨(some 77), .mov (.t 13), some (76, true)⟩,
    ⟨(some 78), .un .not (.t 77), some (76, true)⟩,
    ⟨(some 79), .pick (.t 76) (.t 78) (.c (.b false)), none⟩,
    ⟨(some 4), .mov (.t 79), none⟩])
  (.ret)))))))))))))))), none, none⟩
def f_waferlaw12_known : Fn := ⟨0, [(.t 0)], true,
  (.seq (.ops [⟨(some 0), .mov (.c (.b false)), none⟩])
  ((.seq (.ops [⟨(some 7), .call (.f 19) [(.c (.i .i64 2))], none⟩,
    ⟨(some 8), .call (.f 16) [(.c (.i .i64 3)), (.t 7)], none⟩,
    ⟨(some 1), .alloc true [(.i .i64 0), (.i .i64 0), (.s []), .nil], none⟩,
    ⟨none, .store (some 1) ⟨4, true⟩ (.t 1) (.mv 8), none⟩])
  ((.seq (.ops [⟨(some 9), .mkMap, none⟩,
    ⟨(some 10), .load false (some 1) ⟨4, true⟩ (.t 1), none⟩,
    ⟨(some 11), .build [(.s []), (.b false), (.i .i64 0), (.i .i64 0), (.s []), .nil] [(0, 1, (.c (.s [120]))), (2, 4, (.t 10))], none⟩,
    ⟨(some 12), .buildSlice (.agg [(.s []), (.b false), (.i .i64 0), (.i .i64 0), (.s []), .nil]) 1 [(0, (.t 11))], none⟩,
    ⟨(some 13), .build [(.s []), (.b false), (.s []), .nil] [(0, 1, (.c (.s [82]))), (3, 1, (.t 12))], none⟩,
    ⟨none, .mapUpdate 2 (.t 9) (.c (.s [77, 46, 82])) (.t 13), none⟩,
    ⟨(some 14), .build [(.s []), (.b false), (.s []), .nil] [(0, 1, (.c (.s [83]))), (2, 1, (.c (.s [77, 46, 82])))], none⟩,
    ⟨none, .mapUpdate 2 (.t 9) (.c (.s [77, 46, 83])) (.t 14), none⟩,
    ⟨(some 15), .mov (.t 9), none⟩,
    ⟨(some 2), .mov (.t 15), none⟩])
  ((.seq (.ops [⟨(some 17), .build [(.i .i64 0), (.i .i64 0), (.s []), .nil] [(0, 1, (.c (.i .i64 8))), (2, 1, (.c (.s [77, 46, 83])))], none⟩,
    ⟨(some 18), .mov (.t 2), none⟩,
    ⟨(some 19), .call (.f 17) [(.t 17), (.t 18)], none⟩,
    ⟨(some 16), .mov (.t 19), none⟩,
    ⟨(some 20), .extract (.t 16) 0, none⟩,
    ⟨(some 21), .extract (.t 16) 1, none⟩,
    ⟨(some 3), .mov (.t 20), none⟩,
    ⟨(some 4), .mov (.t 21), none⟩])
  ((.seq (.ops [⟨(some 23), .mov (.t 2), none⟩,
    ⟨(some 24), .call (.f 10) [(.c (.s [77, 46, 83])), (.t 23)], none⟩,
    ⟨(some 22), .mov (.t 24), none⟩,
    ⟨(some 25), .extract (.t 22) 0, none⟩,
    ⟨(some 26), .extract (.t 22) 1, none⟩,
    ⟨(some 5), .mov (.t 25), none⟩,
    ⟨(some 6), .mov (.t 26), none⟩])
  ((.seq (.opsD [(⟨(some 27), .load false (some 1) ⟨4, true⟩ (.t 1), none⟩, true, []),
    (⟨(some 28), .call (.f 22) [(.t 27)], none⟩, true, []),
    (⟨(some 29), .bin .eql .num (.t 28) (.c (.s [65, 82, 82, 65, 89, 32, 51, 32, 79, 70, 32, 67, 72, 65, 82])), none⟩, true, []),
    (⟨(some 30), .mov (.t 29), none⟩, true, []),
    (⟨(some 31), .load false (some 1) ⟨4, true⟩ (.t 1), some (30, true)⟩, true, []),
    (⟨(some 32), .call (.f 23) [(.t 31)], some (30, true)⟩, true, []),
    (⟨(some 33), .pick (.t 30) (.t 32) (.c (.b false)), none⟩, true, []),
    (⟨(some 34), .mov (.t 33), none⟩, true, []),
    (⟨(some 35), .mov (.t 3), some (34, true)⟩, true, []),
    (⟨(some 36), .bin .eql .num (.t 35) (.c (.i .i64 3)), some (34, true)⟩, true, []),
    (⟨(some 37), .pick (.t 34) (.t 36) (.c (.b false)), none⟩, true, []),
    (⟨(some 38), .mov (.t 37), none⟩, true, []),
    (⟨(some 39), .mov (.t 4), some (38, true)⟩, true, []),
    (⟨(some 40), .pick (.t 38) (.t 39) (.c (.b false)), none⟩, true, []),
    (⟨(some 41), .mov (.t 40), none⟩, true, []),
    (⟨(some 42), .mov (.t 5), some (41, true)⟩, true, []),
    (⟨(some 43), .bi .lenL [(.t 42)], some (41, true)⟩, true, []),
    (⟨(some 44), .bin .eql .num (.t 43) (.c (.i .i64 1)), some (41, true)⟩, true, []),
    (⟨(some 45), .pick (.t 41) (.t 44) (.c (.b false)), none⟩, true, []),
    (⟨(some 46), .mov (.t 45), none⟩, true, []),
    (⟨(some 47), .mov (.t 6), some (46, true)⟩, true, []),
    (⟨(some 48), .pick (.t 46) (.t 47) (.c (.b false)), none⟩, true, []),
    (⟨(some 49), .mov (.t 48), none⟩, true, []),
    (⟨(some 50), .mov (.t 2), some (49, true)⟩, true, []),
    (⟨(some 51), .call (.f 13) [(.c (.s [77, 46, 83])), (.c (.s [77, 46, 82])), (.t 50)], some (49, true)⟩, true, []),
    (⟨(some 52), .pick (.t 49) (.t 51) (.c (.b false)), none⟩, true, []),
    (⟨(some 53), .mov (.t 52), none⟩, true, []),
    (⟨(some 54), .mov (.t 2), some (53, true)⟩, true, []),
    (⟨(some 55), .call (.f 13) [(.c (.s [77, 46, 82])), (.c (.s [77, 46, 83])), (.t 54)], some (53, true)⟩, true, []),
    (⟨(some 56), .un .not (.t 55), some (53, true)⟩, true, []),
    (⟨(some 57), .pick (.t 53) (.t 56) (.c (.b false)), none⟩, true, []),
    (⟨(some 58), .mov (.t 57), none⟩, true, []),
    (⟨(some 59), .load false (some 1) ⟨4, true⟩ (.t 1), some (58, true)⟩, false, []),
    (⟨(some 60), .load false (some 1) ⟨4, true⟩ (.t 1), some (58, true)⟩, false, []),
    (⟨(some 61), .call (.f 24) [(.t 59), (.t 60)], some (58, true)⟩, true, []),
    (⟨(some 62), .pick (.t 58) (.t 61) (.c (.b false)), none⟩, true, []),
    (⟨(some 63), .mov (.t 62), none⟩, true, []),
    (⟨(some 64), .call (.f 25) [(.c (.i .i64 1))], some (63, true)⟩, true, []),
    (⟨(some 65), .field (.t 64) 0 ⟨1, false⟩, some (63, true)⟩, true, []),
    (⟨(some 66), .bin .eql .num (.t 65) (.c (.i .i64 1)), some (63, true)⟩, true, []),
    (⟨(some 67), .pick (.t 63) (.t 66) (.c (.b false)), none⟩, true, []),
    (⟨(some 68), .mov (.t 67), none⟩, true, []),
    (⟨(some 69), .load false (some 1) ⟨4, true⟩ (.t 1), some (68, true)⟩, false, []),
    (⟨(some 70), .call (.f 25) [(.c (.i .i64 1))], some (68, true)⟩, false, []),
    (⟨(some 71), .mov (.t 2), some (68, true)⟩, false, []),
    (⟨(some 72), .call (.f 20) [(.t 69), (.t 70), (.t 71)], some (68, true)⟩, true, []),
    (⟨(some 73), .un .not (.t 72), some (68, true)⟩, true, []),
    (⟨(some 74), .pick (.t 68) (.t 73) (.c (.b false)), none⟩, true, []),
    (⟨(some 0), .mov (.t 74), none⟩, true, [])])
  (.ret)))))))))))), none, none⟩
def f_waferlaw12_light_B0 : C :=
  (.seq ((.seq (.ops [⟨(some 14), .mov (.t 5), none⟩,
    ⟨(some 15), .fieldAddr (.t 2) 3 ⟨1, false⟩, none⟩,
    ⟨(some 16), .load false (some 2) ⟨1, false⟩ (.t 15), none⟩,
    ⟨(some 17), .bi .lenL [(.t 16)], none⟩,
    ⟨(some 18), .bin .lss .num (.t 14) (.t 17), none⟩])
  ((.cond (.t 18) (.skip)
   (.exit 0)))))
  ((.seq ((.block 1 [1, 2, 5] ((.seq (.ops [⟨(some 21), .fieldAddr (.t 2) 3 ⟨1, false⟩, none⟩,
     ⟨(some 22), .load false (some 2) ⟨1, false⟩ (.t 21), none⟩,
     ⟨(some 23), .mov (.t 5), none⟩,
     ⟨(some 24), .indexAddr (.t 22) (.t 23) 4 none, none⟩,
     ⟨(some 25), .load false none ⟨4, true⟩ (.t 24), none⟩,
     ⟨(some 26), .mov (.t 1), none⟩,
     ⟨(some 27), .bin .sub .num (.t 26) (.c (.i .i64 1)), none⟩,
     ⟨(some 28), .call (.f 8) [(.t 25), (.t 27)], none⟩,
     ⟨(some 29), .un .not (.t 28), none⟩])
   ((.cond (.t 29) ((.seq (.ops [⟨(some 4), .mov (.c (.b false)), none⟩])
    (.ret)))
    (.skip)))))))
  (.ops [⟨(some 19), .mov (.t 5), none⟩,
    ⟨(some 20), .bin .add .num (.t 19) (.c (.i .i64 1)), none⟩,
    ⟨(some 5), .mov (.t 20), none⟩]))))
def f_waferlaw12_light_L0 : C := .loop [1, 2, 5] f_waferlaw12_light_B0
noncomputable def f_waferlaw12_light_l0 (pg : Pg) (v1 v2 v5 : V) (H : List Obj) (lo : Nat) : Option (Ex × St) := exL pg f_waferlaw12_light_L0 ⟨[(1, v1), (2, v2), (5, v5)], H, lo⟩
theorem f_waferlaw12_light_l0_in {pg : Pg} {e : Env} {H : List Obj} {lo : Nat} : exL pg f_waferlaw12_light_L0 ⟨e, H, lo⟩ = f_waferlaw12_light_l0 pg (keepV (get 1 e)) (keepV (get 2 e)) (keepV (get 5 e)) H lo := loop_in
theorem f_waferlaw12_light_l0_eq {pg : Pg} {v1 v2 v5 : V} {H : List Obj} {lo : Nat} : f_waferlaw12_light_l0 pg v1 v2 v5 H lo = thenC pg (exL pg f_waferlaw12_light_B0 ⟨[(1, keepV v1), (2, keepV v2), (5, keepV v5)], H, lo⟩) f_waferlaw12_light_L0 := by
  unfold f_waferlaw12_light_l0 f_waferlaw12_light_L0; rw [exL_loop]; simp only [restrict_cons, restrict_nil, get_eq, get_ne, Nat.reduceEqDiff]
def f_waferlaw12_light_R1 : C :=
  (.seq (.ops [⟨(some 4), .mov (.c (.b true)), none⟩])
  (.ret))
def f_waferlaw12_light : Fn := ⟨2, [(.t 4)], true,
  (.seq (.ops [⟨(some 2), .box true (.t 0), none⟩,
    ⟨(some 4), .mov (.c (.b false)), none⟩])
  ((.seq ((.seq (.ops [⟨(some 6), .mov (.t 1), none⟩,
    ⟨(some 7), .bin .eql .num (.t 6) (.c (.i .i64 0)), none⟩,
    ⟨(some 8), .mov (.t 7), none⟩,
    ⟨(some 9), .fieldAddr (.t 2) 3 ⟨1, false⟩, some (8, false)⟩,
    ⟨(some 10), .load false (some 2) ⟨1, false⟩ (.t 9), some (8, false)⟩,
    ⟨(some 11), .bi .lenL [(.t 10)], some (8, false)⟩,
    ⟨(some 12), .bin .gtr .num (.t 11) (.c (.i .i64 5)), some (8, false)⟩,
    ⟨(some 13), .pick (.t 8) (.c (.b true)) (.t 12), none⟩])
  ((.cond (.t 13) ((.seq (.ops [⟨(some 4), .mov (.c (.b false)), none⟩])
   (.ret)))
   (.skip)))))
  ((.seq ((.seq (.ops [⟨(some 5), .mov (.c (.i .i64 0)), none⟩])
  ((.block 0 [] (f_waferlaw12_light_L0)))))
  (f_waferlaw12_light_R1)))))), none, none⟩
def f_waferlaw12_made_B0 : C :=
  (.seq ((.seq (.ops [⟨(some 44), .mov (.t 7), none⟩,
    ⟨(some 45), .mov (.t 0), none⟩,
    ⟨(some 46), .mov (.t 4), none⟩,
    ⟨(some 47), .indexAddr (.t 45) (.t 46) 6 none, none⟩,
    ⟨(some 48), .fieldAddr (.t 47) 1 ⟨1, false⟩, none⟩,
    ⟨(some 49), .load false none ⟨1, false⟩ (.t 48), none⟩,
    ⟨(some 50), .bi .lenL [(.t 49)], none⟩,
    ⟨(some 51), .bin .lss .num (.t 44) (.t 50), none⟩,
    ⟨(some 52), .mov (.t 51), none⟩,
    ⟨(some 53), .mov (.t 7), some (52, true)⟩,
    ⟨(some 54), .bin .lss .num (.t 53) (.c (.i .i64 5)), some (52, true)⟩,
    ⟨(some 55), .pick (.t 52) (.t 54) (.c (.b false)), none⟩])
  ((.cond (.t 55) (.skip)
   (.exit 2)))))
  ((.seq ((.block 3 [0, 3, 4, 5, 7] (.opsD [(⟨(some 58), .fieldAddr (.t 5) 3 ⟨1, false⟩, none⟩, false, []),
     (⟨(some 59), .load true (some 5) ⟨1, false⟩ (.t 58), none⟩, false, []),
     (⟨(some 60), .mov (.t 7), none⟩, false, []),
     (⟨(some 61), .conv .u8 (.t 60), none⟩, false, []),
     (⟨(some 62), .bin .add .num (.c (.i .u8 97)) (.t 61), none⟩, false, []),
     (⟨(some 63), .buildSlice (.i .u8 0) 1 [(0, (.t 62))], none⟩, false, []),
     (⟨(some 64), .text (.t 63), none⟩, false, []),
     (⟨(some 65), .bin .add .num (.c (.s [102])) (.t 64), none⟩, false, []),
     (⟨(some 66), .mov (.t 0), none⟩, false, []),
     (⟨(some 67), .mov (.t 4), none⟩, false, []),
     (⟨(some 68), .indexAddr (.t 66) (.t 67) 6 none, none⟩, false, []),
     (⟨(some 69), .fieldAddr (.t 68) 1 ⟨1, false⟩, none⟩, false, []),
     (⟨(some 70), .load false none ⟨1, false⟩ (.t 69), none⟩, false, []),
     (⟨(some 71), .mov (.t 7), none⟩, false, []),
     (⟨(some 72), .indexAddr (.t 70) (.t 71) 1 none, none⟩, false, []),
     (⟨(some 73), .load false none ⟨1, false⟩ (.t 72), none⟩, false, []),
     (⟨(some 74), .mov (.t 0), none⟩, false, []),
     (⟨(some 75), .mov (.t 4), none⟩, false, []),
     (⟨(some 76), .indexAddr (.t 74) (.t 75) 6 none, none⟩, false, []),
     (⟨(some 77), .fieldAddr (.t 76) 2 ⟨4, true⟩, none⟩, false, []),
     (⟨(some 78), .load false none ⟨4, true⟩ (.t 77), none⟩, false, []),
     (⟨(some 79), .call (.f 15) [(.t 73), (.t 78)], none⟩, false, []),
     (⟨(some 80), .build [(.s []), (.b false), (.i .i64 0), (.i .i64 0), (.s []), .nil] [(0, 1, (.t 65)), (2, 4, (.t 79))], none⟩, false, []),
     (⟨(some 81), .buildSlice (.agg [(.s []), (.b false), (.i .i64 0), (.i .i64 0), (.s []), .nil]) 1 [(0, (.t 80))], none⟩, false, []),
     (⟨(some 82), .bi (.append 6 80) [(.mv 59), (.t 81)], none⟩, true, []),
     (⟨(some 83), .fieldAddr (.t 5) 3 ⟨1, false⟩, none⟩, true, []),
     (⟨none, .store (some 5) ⟨1, false⟩ (.t 83) (.mv 82), none⟩, true, [])])))
  (.ops [⟨(some 56), .mov (.t 7), none⟩,
    ⟨(some 57), .bin .add .num (.t 56) (.c (.i .i64 1)), none⟩,
    ⟨(some 7), .mov (.t 57), none⟩]))))
def f_waferlaw12_made_L0 : C := .loop [0, 3, 4, 5, 7] f_waferlaw12_made_B0
noncomputable def f_waferlaw12_made_l0 (pg : Pg) (v0 v3 v4 v5 v7 : V) (H : List Obj) (lo : Nat) : Option (Ex × St) := exL pg f_waferlaw12_made_L0 ⟨[(0, v0), (3, v3), (4, v4), (5, v5), (7, v7)], H, lo⟩
theorem f_waferlaw12_made_l0_in {pg : Pg} {e : Env} {H : List Obj} {lo : Nat} : exL pg f_waferlaw12_made_L0 ⟨e, H, lo⟩ = f_waferlaw12_made_l0 pg (keepV (get 0 e)) (keepV (get 3 e)) (keepV (get 4 e)) (keepV (get 5 e)) (keepV (get 7 e)) H lo := loop_in
theorem f_waferlaw12_made_l0_eq {pg : Pg} {v0 v3 v4 v5 v7 : V} {H : List Obj} {lo : Nat} : f_waferlaw12_made_l0 pg v0 v3 v4 v5 v7 H lo = thenC pg (exL pg f_waferlaw12_made_B0 ⟨[(0, keepV v0), (3, keepV v3), (4, keepV v4), (5, keepV v5), (7, keepV v7)], H, lo⟩) f_waferlaw12_made_L0 := by
  unfold f_waferlaw12_made_l0 f_waferlaw12_made_L0; rw [exL_loop]; simp only [restrict_cons, restrict_nil, get_eq, get_ne, Nat.reduceEqDiff]
def f_waferlaw12_made_R1 : C :=
  .ops [⟨(some 84), .mov (.t 3), none⟩,
     ⟨(some 85), .mov (.t 4), none⟩,
     ⟨(some 86), .conv .u8 (.t 85), none⟩,
     ⟨(some 87), .bin .add .num (.c (.i .u8 48)) (.t 86), none⟩,
     ⟨(some 88), .buildSlice (.i .u8 0) 1 [(0, (.t 87))], none⟩,
     ⟨(some 89), .text (.t 88), none⟩,
     ⟨(some 90), .bin .add .num (.c (.s [77, 46, 82])) (.t 89), none⟩,
     ⟨(some 91), .load false (some 5) ⟨4, true⟩ (.t 5), none⟩,
     ⟨none, .mapUpdate 2 (.t 84) (.t 90) (.t 91), none⟩]
def f_waferlaw12_made_R2 : C :=
  .ops [⟨(some 17), .mov (.t 4), none⟩,
    ⟨(some 18), .bin .add .num (.t 17) (.c (.i .i64 1)), none⟩,
    ⟨(some 4), .mov (.t 18), none⟩]
def f_waferlaw12_made_B3 : C :=
  (.seq ((.seq (.ops [⟨(some 9), .mov (.t 4), none⟩,
    ⟨(some 10), .mov (.t 0), none⟩,
    ⟨(some 11), .bi .lenL [(.t 10)], none⟩,
    ⟨(some 12), .bin .lss .num (.t 9) (.t 11), none⟩,
    ⟨(some 13), .mov (.t 12), none⟩,
    ⟨(some 14), .mov (.t 4), some (13, true)⟩,
    ⟨(some 15), .bin .lss .num (.t 14) (.c (.i .i64 6)), some (13, true)⟩,
    ⟨(some 16), .pick (.t 13) (.t 15) (.c (.b false)), none⟩])
  ((.cond (.t 16) (.skip)
   (.exit 0)))))
  ((.seq ((.block 1 [0, 3, 4] ((.seq (.ops [⟨(some 19), .build [(.s []), (.b false), (.s []), .nil] [(0, 1, (.c (.s [82])))], none⟩,
     ⟨(some 5), .alloc true [(.s []), (.b false), (.s []), .nil], none⟩,
     ⟨none, .store (some 5) ⟨4, true⟩ (.t 5) (.t 19), none⟩])
   ((.seq ((.seq (.ops [⟨(some 20), .mov (.t 0), none⟩,
     ⟨(some 21), .mov (.t 4), none⟩,
     ⟨(some 22), .indexAddr (.t 20) (.t 21) 6 none, none⟩,
     ⟨(some 23), .fieldAddr (.t 22) 0 ⟨1, false⟩, none⟩,
     ⟨(some 24), .load false none ⟨1, false⟩ (.t 23), none⟩,
     ⟨(some 25), .bin .rem .num (.t 24) (.c (.i .u8 9)), none⟩,
     ⟨(some 26), .conv .i64 (.t 25), none⟩,
     ⟨(some 6), .mov (.mv 26), none⟩])
   ((.seq (.ops [⟨(some 27), .mov (.t 6), none⟩,
     ⟨(some 28), .bin .lss .num (.t 27) (.c (.i .i64 7)), none⟩,
     ⟨(some 29), .mov (.t 28), none⟩,
     ⟨(some 30), .mov (.t 0), some (29, true)⟩,
     ⟨(some 31), .mov (.t 4), some (29, true)⟩,
     ⟨(some 32), .indexAddr (.t 30) (.t 31) 6 none, some (29, true)⟩,
     ⟨(some 33), .fieldAddr (.t 32) 0 ⟨1, false⟩, some (29, true)⟩,
     ⟨(some 34), .load false none ⟨1, false⟩ (.t 33), some (29, true)⟩,
     ⟨(some 35), .bin .gtr .num (.t 34) (.c (.i .u8 60)), some (29, true)⟩,
     ⟨(some 36), .pick (.t 29) (.t 35) (.c (.b false)), none⟩])
   ((.cond (.t 36) (.ops [⟨(some 37), .mov (.t 6), none⟩,
      ⟨(some 38), .conv .u8 (.t 37), none⟩,
      ⟨(some 39), .bin .add .num (.c (.i .u8 48)) (.t 38), none⟩,
      ⟨(some 40), .buildSlice (.i .u8 0) 1 [(0, (.t 39))], none⟩,
      ⟨(some 41), .text (.t 40), none⟩,
      ⟨(some 42), .bin .add .num (.c (.s [77, 46, 82])) (.t 41), none⟩,
      ⟨(some 43), .fieldAddr (.t 5) 2 ⟨1, false⟩, none⟩,
      ⟨none, .store (some 5) ⟨1, false⟩ (.t 43) (.t 42), none⟩])
    (.skip)))))))
   ((.seq ((.seq (.ops [⟨(some 7), .mov (.c (.i .i64 0)), none⟩])
   ((.block 2 [0, 3, 4, 5] (f_waferlaw12_made_L0)))))
   (f_waferlaw12_made_R1)))))))))
  (f_waferlaw12_made_R2))))
def f_waferlaw12_made_L3 : C := .loop [0, 3, 4] f_waferlaw12_made_B3
noncomputable def f_waferlaw12_made_l3 (pg : Pg) (v0 v3 v4 : V) (H : List Obj) (lo : Nat) : Option (Ex × St) := exL pg f_waferlaw12_made_L3 ⟨[(0, v0), (3, v3), (4, v4)], H, lo⟩
theorem f_waferlaw12_made_l3_in {pg : Pg} {e : Env} {H : List Obj} {lo : Nat} : exL pg f_waferlaw12_made_L3 ⟨e, H, lo⟩ = f_waferlaw12_made_l3 pg (keepV (get 0 e)) (keepV (get 3 e)) (keepV (get 4 e)) H lo := loop_in
theorem f_waferlaw12_made_l3_eq {pg : Pg} {v0 v3 v4 : V} {H : List Obj} {lo : Nat} : f_waferlaw12_made_l3 pg v0 v3 v4 H lo = thenC pg (exL pg f_waferlaw12_made_B3 ⟨[(0, keepV v0), (3, keepV v3), (4, keepV v4)], H, lo⟩) f_waferlaw12_made_L3 := by
  unfold f_waferlaw12_made_l3 f_waferlaw12_made_L3; rw [exL_loop]; simp only [restrict_cons, restrict_nil, get_eq, get_ne, Nat.reduceEqDiff]
def f_waferlaw12_made_R4 : C :=
  (.seq (.ops [⟨(some 92), .mov (.t 3), none⟩,
    ⟨(some 2), .mov (.t 92), none⟩])
  (.ret))
def f_waferlaw12_made : Fn := ⟨1, [(.t 2)], true,
  (.seq (.ops [⟨(some 2), .mov (.c .nm), none⟩])
  ((.seq (.ops [⟨(some 8), .mkMap, none⟩,
    ⟨(some 3), .mov (.t 8), none⟩])
  ((.seq ((.seq (.ops [⟨(some 4), .mov (.c (.i .i64 0)), none⟩])
  ((.block 0 [3] (f_waferlaw12_made_L3)))))
  (f_waferlaw12_made_R4)))))), none, none⟩
def f_types_Fields_B0 : C :=
  (.seq (.ops [⟨(some 29), .bin .lss .num (.t 28) (.t 27), none⟩])
  ((.seq ((.cond (.t 29) (.skip)
   (.exit 2)))
  ((.seq ((.block 3 [8, 26, 27, 28] ((.seq (.ops [⟨(some 30), .indexAddr (.t 26) (.t 28) 6 none, none⟩,
     ⟨(some 31), .load false none ⟨6, true⟩ (.t 30), none⟩,
     ⟨(some 12), .alloc true [(.s []), (.b false), (.i .i64 0), (.i .i64 0), (.s []), .nil], none⟩,
     ⟨none, .store (some 12) ⟨6, true⟩ (.t 12) (.t 31), none⟩])
   ((.seq (.ops [⟨(some 32), .fieldAddr (.t 12) 2 ⟨4, true⟩, none⟩,
     ⟨(some 33), .load false (some 12) ⟨4, true⟩ (.t 32), none⟩,
     ⟨(some 34), .call (.f 28) [(.t 33)], none⟩,
     ⟨(some 35), .fieldAddr (.t 12) 2 ⟨4, true⟩, none⟩,
     ⟨none, .store (some 12) ⟨4, true⟩ (.t 35) (.mv 34), none⟩])
   (.ops [⟨(some 36), .load true none ⟨1, false⟩ (.t 8), none⟩,
     ⟨(some 37), .load false (some 12) ⟨6, true⟩ (.t 12), none⟩,
     ⟨(some 38), .buildSlice (.agg [(.s []), (.b false), (.i .i64 0), (.i .i64 0), (.s []), .nil]) 1 [(0, (.t 37))], none⟩,
     ⟨(some 39), .bi (.append 6 80) [(.mv 36), (.t 38)], none⟩,
     ⟨none, .store none ⟨1, false⟩ (.t 8) (.mv 39), none⟩])))))))
  (.ops [⟨(some 40), .bin .add .num (.t 28) (.c (.i .i64 1)), none⟩,
    ⟨(some 28), .mov (.t 40), none⟩]))))))
def f_types_Fields_L0 : C := .loop [8, 26, 27, 28] f_types_Fields_B0
noncomputable def f_types_Fields_l0 (pg : Pg) (v8 v26 v27 v28 : V) (H : List Obj) (lo : Nat) : Option (Ex × St) := exL pg f_types_Fields_L0 ⟨[(8, v8), (26, v26), (27, v27), (28, v28)], H, lo⟩
theorem f_types_Fields_l0_in {pg : Pg} {e : Env} {H : List Obj} {lo : Nat} : exL pg f_types_Fields_L0 ⟨e, H, lo⟩ = f_types_Fields_l0 pg (keepV (get 8 e)) (keepV (get 26 e)) (keepV (get 27 e)) (keepV (get 28 e)) H lo := loop_in
theorem f_types_Fields_l0_eq {pg : Pg} {v8 v26 v27 v28 : V} {H : List Obj} {lo : Nat} : f_types_Fields_l0 pg v8 v26 v27 v28 H lo = thenC pg (exL pg f_types_Fields_B0 ⟨[(8, keepV v8), (26, keepV v26), (27, keepV v27), (28, keepV v28)], H, lo⟩) f_types_Fields_L0 := by
  unfold f_types_Fields_l0 f_types_Fields_L0; rw [exL_loop]; simp only [restrict_cons, restrict_nil, get_eq, get_ne, Nat.reduceEqDiff]
def f_types_Fields_A1 : C :=
  .ops [⟨(some 10), .alloc true [(.s []), (.b false), (.s []), .nil], none⟩,
    ⟨none, .store (some 10) ⟨4, true⟩ (.t 10) (.t 24), none⟩]
def f_types_Fields_B1 : C :=
  (.block 1 [8] ((.seq (.ops [⟨(some 25), .fieldAddr (.t 10) 3 ⟨1, false⟩, none⟩,
     ⟨(some 26), .load false (some 10) ⟨1, false⟩ (.t 25), none⟩,
     ⟨(some 27), .bi .lenL [(.t 26)], none⟩,
     ⟨(some 28), .mov (.c (.i .i64 0)), none⟩])
   ((.block 2 [8] (f_types_Fields_L0))))))
def f_types_Fields_R2 : C :=
  (.seq (.ops [⟨(some 41), .load false none ⟨1, false⟩ (.t 8), none⟩,
    ⟨(some 4), .mov (.t 41), none⟩,
    ⟨(some 5), .mov (.c (.b true)), none⟩])
  (.ret))
def f_types_Fields : Fn := ⟨2, [(.t 4), (.t 5)], false,
  (.seq (.ops [⟨(some 4), .mov (.c .nil), none⟩,
    ⟨(some 5), .mov (.c (.b false)), none⟩])
  ((.seq (.ops [⟨(some 14), .mov (.mv 0), none⟩,
    ⟨(some 15), .mov (.mv 1), none⟩,
    ⟨(some 16), .call (.f 26) [(.mv 14), (.mv 15)], none⟩,
    ⟨(some 13), .mov (.t 16), none⟩,
    ⟨(some 17), .extract (.t 13) 0, none⟩,
    ⟨(some 18), .extract (.t 13) 1, none⟩,
    ⟨(some 6), .mov (.t 17), none⟩,
    ⟨(some 7), .mov (.t 18), none⟩])
  ((.seq ((.seq (.ops [⟨(some 19), .mov (.t 7), none⟩,
    ⟨(some 20), .un .not (.t 19), none⟩])
  ((.cond (.t 20) ((.seq (.ops [⟨(some 4), .mov (.c .nil), none⟩,
     ⟨(some 5), .mov (.c (.b false)), none⟩])
   (.ret)))
   (.skip)))))
  ((.seq (.ops [⟨(some 8), .alloc false [.nil], none⟩])
  ((.seq ((.seq (.ops [⟨(some 21), .mov (.mv 6), none⟩,
    ⟨(some 22), .call (.f 27) [(.mv 21)], none⟩])
  ((.block 0 [8] ((.rangeB 37 ⟨4, true⟩ (.t 22) 23 24 [4, 5, 8] f_types_Fields_A1 f_types_Fields_B1))))))
  (f_types_Fields_R2)))))))))), none, none⟩
def f_waferref11_Fields : Fn := ⟨2, [(.t 4), (.t 5)], false,
  (.seq (.ops [⟨(some 4), .mov (.c .nil), none⟩,
    ⟨(some 5), .mov (.c (.b false)), none⟩])
  ((.seq (.ops [⟨(some 6), .mov (.mv 0), none⟩,
    ⟨(some 7), .mov (.t 1), none⟩,
    ⟨(some 8), .mov (.t 1), none⟩,
    ⟨(some 9), .bi .lenM [(.t 8)], none⟩,
    ⟨(some 10), .call (.f 29) [(.mv 6), (.t 7), (.t 9)], none⟩,
    ⟨(some 11), .extract (.t 10) 0, none⟩,
    ⟨(some 12), .extract (.t 10) 1, none⟩,
    ⟨(some 4), .mov (.t 11), none⟩,
    ⟨(some 5), .mov (.t 12), none⟩])
  (.ret)))), none, none⟩
def f_waferhelp_Vars_B0 : C :=
  (.seq ((.seq (.ops [⟨(some 11), .mov (.t 5), none⟩,
    ⟨(some 12), .mov (.t 0), none⟩,
    ⟨(some 13), .bi .lenL [(.t 12)], none⟩,
    ⟨(some 14), .bin .lss .num (.t 11) (.t 13), none⟩])
  ((.cond (.t 14) (.skip)
   (.exit 0)))))
  ((.seq ((.block 1 [0, 1, 5] ((.seq (.opsD [(⟨(some 17), .mov (.t 0), none⟩, false, []),
     (⟨(some 18), .mov (.t 5), none⟩, false, []),
     (⟨(some 19), .indexAddr (.t 17) (.t 18) 6 none, none⟩, false, []),
     (⟨(some 20), .fieldAddr (.t 19) 0 ⟨1, false⟩, none⟩, false, []),
     (⟨(some 21), .load false none ⟨1, false⟩ (.t 20), none⟩, false, []),
     (⟨(some 22), .mov (.t 1), none⟩, false, []),
     (⟨(some 23), .mov (.t 5), none⟩, false, []),
     (⟨(some 24), .indexAddr (.t 22) (.t 23) 6 none, none⟩, false, []),
     (⟨(some 25), .fieldAddr (.t 24) 0 ⟨1, false⟩, none⟩, false, []),
     (⟨(some 26), .load false none ⟨1, false⟩ (.t 25), none⟩, false, []),
     (⟨(some 27), .bin .neq .num (.t 21) (.t 26), none⟩, true, []),
     (⟨(some 28), .mov (.t 27), none⟩, true, []),
     (⟨(some 29), .mov (.t 0), some (28, false)⟩, false, []),
     (⟨(some 30), .mov (.t 5), some (28, false)⟩, false, []),
     (⟨(some 31), .indexAddr (.t 29) (.t 30) 6 none, some (28, false)⟩, false, []),
     (⟨(some 32), .fieldAddr (.t 31) 1 ⟨1, false⟩, some (28, false)⟩, false, []),
     (⟨(some 33), .load false none ⟨1, false⟩ (.t 32), some (28, false)⟩, false, []),
     (⟨(some 34), .mov (.t 1), some (28, false)⟩, false, []),
     (⟨(some 35), .mov (.t 5), some (28, false)⟩, false, []),
     (⟨(some 36), .indexAddr (.t 34) (.t 35) 6 none, some (28, false)⟩, false, []),
     (⟨(some 37), .fieldAddr (.t 36) 1 ⟨1, false⟩, some (28, false)⟩, false, []),
     (⟨(some 38), .load false none ⟨1, false⟩ (.t 37), some (28, false)⟩, false, []),
     (⟨(some 39), .bin .neq .bool (.t 33) (.t 38), some (28, false)⟩, true, []),
     (⟨(some 40), .pick (.t 28) (.c (.b true)) (.t 39), none⟩, true, []),
     (⟨(some 41), .mov (.t 40), none⟩, true, []),
     (⟨(some 42), .mov (.t 0), some (41, false)⟩, false, []),
     (⟨(some 43), .mov (.t 5), some (41, false)⟩, false, []),
     (⟨(some 44), .indexAddr (.t 42) (.t 43) 6 none, some (41, false)⟩, false, []),
     (⟨(some 45), .fieldAddr (.t 44) 2 ⟨4, true⟩, some (41, false)⟩, false, []),
     (⟨(some 46), .load false none ⟨4, true⟩ (.t 45), some (41, false)⟩, false, []),
     (⟨(some 47), .mov (.t 1), some (41, false)⟩, false, []),
     (⟨(some 48), .mov (.t 5), some (41, false)⟩, false, []),
     (⟨(some 49), .indexAddr (.t 47) (.t 48) 6 none, some (41, false)⟩, false, []),
     (⟨(some 50), .fieldAddr (.t 49) 2 ⟨4, true⟩, some (41, false)⟩, false, []),
     (⟨(some 51), .load false none ⟨4, true⟩ (.t 50), some (41, false)⟩, false, []),
     (⟨(some 52), .call (.f 30) [(.t 46), (.t 51)], some (41, false)⟩, true, []),
     (⟨(some 53), .un .not (.t 52), some (41, false)⟩, true, []),
     (⟨(some 54), .pick (.t 41) (.c (.b true)) (.t 53), none⟩, true, [])])
   ((.cond (.t 54) ((.seq (.ops [⟨(some 4), .mov (.c (.b false)), none⟩])
    (.ret)))
    (.skip)))))))
  (.ops [⟨(some 15), .mov (.t 5), none⟩,
    ⟨(some 16), .bin .add .num (.t 15) (.c (.i .i64 1)), none⟩,
    ⟨(some 5), .mov (.t 16), none⟩]))))
def f_waferhelp_Vars_L0 : C := .loop [0, 1, 5] f_waferhelp_Vars_B0
noncomputable def f_waferhelp_Vars_l0 (pg : Pg) (v0 v1 v5 : V) (H : List Obj) (lo : Nat) : Option (Ex × St) := exL pg f_waferhelp_Vars_L0 ⟨[(0, v0), (1, v1), (5, v5)], H, lo⟩
theorem f_waferhelp_Vars_l0_in {pg : Pg} {e : Env} {H : List Obj} {lo : Nat} : exL pg f_waferhelp_Vars_L0 ⟨e, H, lo⟩ = f_waferhelp_Vars_l0 pg (keepV (get 0 e)) (keepV (get 1 e)) (keepV (get 5 e)) H lo := loop_in
theorem f_waferhelp_Vars_l0_eq {pg : Pg} {v0 v1 v5 : V} {H : List Obj} {lo : Nat} : f_waferhelp_Vars_l0 pg v0 v1 v5 H lo = thenC pg (exL pg f_waferhelp_Vars_B0 ⟨[(0, keepV v0), (1, keepV v1), (5, keepV v5)], H, lo⟩) f_waferhelp_Vars_L0 := by
  unfold f_waferhelp_Vars_l0 f_waferhelp_Vars_L0; rw [exL_loop]; simp only [restrict_cons, restrict_nil, get_eq, get_ne, Nat.reduceEqDiff]
def f_waferhelp_Vars_R1 : C :=
  (.seq (.ops [⟨(some 4), .mov (.c (.b true)), none⟩])
  (.ret))
def f_waferhelp_Vars : Fn := ⟨2, [(.t 4)], true,
  (.seq (.ops [⟨(some 4), .mov (.c (.b false)), none⟩])
  ((.seq ((.seq (.ops [⟨(some 6), .mov (.t 0), none⟩,
    ⟨(some 7), .bi .lenL [(.t 6)], none⟩,
    ⟨(some 8), .mov (.t 1), none⟩,
    ⟨(some 9), .bi .lenL [(.t 8)], none⟩,
    ⟨(some 10), .bin .neq .num (.t 7) (.t 9), none⟩])
  ((.cond (.t 10) ((.seq (.ops [⟨(some 4), .mov (.c (.b false)), none⟩])
   (.ret)))
   (.skip)))))
  ((.seq ((.seq (.ops [⟨(some 5), .mov (.c (.i .i64 0)), none⟩])
  ((.block 0 [] (f_waferhelp_Vars_L0)))))
  (f_waferhelp_Vars_R1)))))), none, none⟩
def f_types_Extends_B0 : C :=
  (.seq ((.seq (.ops [⟨(some 11), .mov (.t 7), none⟩,
    ⟨(some 12), .mov (.t 0), none⟩,
    ⟨(some 13), .lookup 2 (.b false) (.t 11) (.t 12) false, none⟩,
    ⟨(some 14), .un .not (.t 13), none⟩])
  ((.cond (.t 14) (.skip)
   (.exit 0)))))
  ((.block 1 [0, 1, 2, 7] ((.seq ((.seq (.ops [⟨(some 15), .mov (.t 0), none⟩,
     ⟨(some 16), .mov (.t 1), none⟩,
     ⟨(some 17), .bin .eql .num (.t 15) (.t 16), none⟩])
   ((.cond (.t 17) ((.seq (.ops [⟨(some 6), .mov (.c (.b true)), none⟩])
    (.ret)))
    (.skip)))))
   ((.seq (.ops [⟨(some 18), .mov (.t 7), none⟩,
     ⟨(some 19), .mov (.t 0), none⟩,
     ⟨none, .mapUpdate 2 (.t 18) (.t 19) (.c (.b true)), none⟩])
   ((.seq (.ops [⟨(some 21), .mov (.t 2), none⟩,
     ⟨(some 22), .mov (.t 0), none⟩,
     ⟨(some 23), .lookup 2 (.agg [(.s []), (.b false), (.s []), .nil]) (.t 21) (.t 22) true, none⟩,
     ⟨(some 20), .mov (.t 23), none⟩,
     ⟨(some 24), .extract (.t 20) 0, none⟩,
     ⟨(some 25), .extract (.t 20) 1, none⟩,
     ⟨(some 8), .alloc true [(.s []), (.b false), (.s []), .nil], none⟩,
     ⟨none, .store (some 8) ⟨4, true⟩ (.t 8) (.t 24), none⟩,
     ⟨(some 9), .mov (.t 25), none⟩])
   ((.seq ((.seq (.ops [⟨(some 26), .mov (.t 9), none⟩,
     ⟨(some 27), .un .not (.t 26), none⟩,
     ⟨(some 28), .mov (.t 27), none⟩,
     ⟨(some 29), .fieldAddr (.t 8) 2 ⟨1, false⟩, some (28, false)⟩,
     ⟨(some 30), .load false (some 8) ⟨1, false⟩ (.t 29), some (28, false)⟩,
     ⟨(some 31), .bin .eql .num (.t 30) (.c (.s [])), some (28, false)⟩,
     ⟨(some 32), .pick (.t 28) (.c (.b true)) (.t 31), none⟩])
   ((.cond (.t 32) ((.seq (.ops [⟨(some 6), .mov (.c (.b false)), none⟩])
    (.ret)))
    (.skip)))))
   (.ops [⟨(some 33), .fieldAddr (.t 8) 2 ⟨1, false⟩, none⟩,
     ⟨(some 34), .load false (some 8) ⟨1, false⟩ (.t 33), none⟩,
     ⟨(some 0), .mov (.t 34), none⟩]))))))))))))
def f_types_Extends_L0 : C := .loop [0, 1, 2, 7] f_types_Extends_B0
noncomputable def f_types_Extends_l0 (pg : Pg) (v0 v1 v2 v7 : V) (H : List Obj) (lo : Nat) : Option (Ex × St) := exL pg f_types_Extends_L0 ⟨[(0, v0), (1, v1), (2, v2), (7, v7)], H, lo⟩
theorem f_types_Extends_l0_in {pg : Pg} {e : Env} {H : List Obj} {lo : Nat} : exL pg f_types_Extends_L0 ⟨e, H, lo⟩ = f_types_Extends_l0 pg (keepV (get 0 e)) (keepV (get 1 e)) (keepV (get 2 e)) (keepV (get 7 e)) H lo := loop_in
theorem f_types_Extends_l0_eq {pg : Pg} {v0 v1 v2 v7 : V} {H : List Obj} {lo : Nat} : f_types_Extends_l0 pg v0 v1 v2 v7 H lo = thenC pg (exL pg f_types_Extends_B0 ⟨[(0, keepV v0), (1, keepV v1), (2, keepV v2), (7, keepV v7)], H, lo⟩) f_types_Extends_L0 := by
  unfold f_types_Extends_l0 f_types_Extends_L0; rw [exL_loop]; simp only [restrict_cons, restrict_nil, get_eq, get_ne, Nat.reduceEqDiff]
def f_types_Extends_R1 : C :=
  (.seq (.ops [⟨(some 6), .mov (.c (.b false)), none⟩])
  (.ret))
def f_types_Extends : Fn := ⟨3, [(.t 6)], true,
  (.seq (.ops [⟨(some 6), .mov (.c (.b false)), none⟩])
  ((.seq (.ops [⟨(some 10), .mkMap, none⟩,
    ⟨(some 7), .mov (.t 10), none⟩])
  ((.seq ((.block 0 [] (f_types_Extends_L0)))
  (f_types_Extends_R1)))))), none, none⟩
def f_waferref11_Extends_B0 : C :=
  (.seq ((.seq (.ops [⟨(some 10), .mov (.t 7), none⟩,
    ⟨(some 11), .mov (.t 2), none⟩,
    ⟨(some 12), .bi .lenM [(.t 11)], none⟩,
    ⟨(some 13), .bin .leq .num (.t 10) (.t 12), none⟩])
  ((.cond (.t 13) (.skip)
   (.exit 0)))))
  ((.seq ((.block 1 [0, 1, 2, 7] ((.seq ((.seq (.ops [⟨(some 16), .mov (.t 0), none⟩,
     ⟨(some 17), .mov (.t 1), none⟩,
     ⟨(some 18), .bin .eql .num (.t 16) (.t 17), none⟩])
   ((.cond (.t 18) ((.seq (.ops [⟨(some 6), .mov (.c (.b true)), none⟩])
    (.ret)))
    (.skip)))))
   ((.seq (.ops [⟨(some 20), .mov (.t 2), none⟩,
     ⟨(some 21), .mov (.t 0), none⟩,
     ⟨(some 22), .lookup 2 (.agg [(.s []), (.b false), (.s []), .nil]) (.t 20) (.t 21) true, none⟩,
     ⟨(some 19), .mov (.t 22), none⟩,
     ⟨(some 23), .extract (.t 19) 0, none⟩,
     ⟨(some 24), .extract (.t 19) 1, none⟩,
     ⟨(some 8), .alloc true [(.s []), (.b false), (.s []), .nil], none⟩,
     ⟨none, .store (some 8) ⟨4, true⟩ (.t 8) (.t 23), none⟩,
     ⟨(some 9), .mov (.t 24), none⟩])
   ((.seq ((.seq (.ops [⟨(some 25), .mov (.t 9), none⟩,
     ⟨(some 26), .un .not (.t 25), none⟩,
     ⟨(some 27), .mov (.t 26), none⟩,
     ⟨(some 28), .fieldAddr (.t 8) 2 ⟨1, false⟩, some (27, false)⟩,
     ⟨(some 29), .load false (some 8) ⟨1, false⟩ (.t 28), some (27, false)⟩,
     ⟨(some 30), .bin .eql .num (.t 29) (.c (.s [])), some (27, false)⟩,
     ⟨(some 31), .pick (.t 27) (.c (.b true)) (.t 30), none⟩])
   ((.cond (.t 31) ((.seq (.ops [⟨(some 6), .mov (.c (.b false)), none⟩])
    (.ret)))
    (.skip)))))
   (.ops [⟨(some 32), .fieldAddr (.t 8) 2 ⟨1, false⟩, none⟩,
     ⟨(some 33), .load false (some 8) ⟨1, false⟩ (.t 32), none⟩,
     ⟨(some 0), .mov (.t 33), none⟩])))))))))
  (.ops [⟨(some 14), .mov (.t 7), none⟩,
    ⟨(some 15), .bin .add .num (.t 14) (.c (.i .i64 1)), none⟩,
    ⟨(some 7), .mov (.t 15), none⟩]))))
def f_waferref11_Extends_L0 : C := .loop [0, 1, 2, 7] f_waferref11_Extends_B0
noncomputable def f_waferref11_Extends_l0 (pg : Pg) (v0 v1 v2 v7 : V) (H : List Obj) (lo : Nat) : Option (Ex × St) := exL pg f_waferref11_Extends_L0 ⟨[(0, v0), (1, v1), (2, v2), (7, v7)], H, lo⟩
theorem f_waferref11_Extends_l0_in {pg : Pg} {e : Env} {H : List Obj} {lo : Nat} : exL pg f_waferref11_Extends_L0 ⟨e, H, lo⟩ = f_waferref11_Extends_l0 pg (keepV (get 0 e)) (keepV (get 1 e)) (keepV (get 2 e)) (keepV (get 7 e)) H lo := loop_in
theorem f_waferref11_Extends_l0_eq {pg : Pg} {v0 v1 v2 v7 : V} {H : List Obj} {lo : Nat} : f_waferref11_Extends_l0 pg v0 v1 v2 v7 H lo = thenC pg (exL pg f_waferref11_Extends_B0 ⟨[(0, keepV v0), (1, keepV v1), (2, keepV v2), (7, keepV v7)], H, lo⟩) f_waferref11_Extends_L0 := by
  unfold f_waferref11_Extends_l0 f_waferref11_Extends_L0; rw [exL_loop]; simp only [restrict_cons, restrict_nil, get_eq, get_ne, Nat.reduceEqDiff]
def f_waferref11_Extends_R1 : C :=
  (.seq (.ops [⟨(some 6), .mov (.c (.b false)), none⟩])
  (.ret))
def f_waferref11_Extends : Fn := ⟨3, [(.t 6)], true,
  (.seq (.ops [⟨(some 6), .mov (.c (.b false)), none⟩])
  ((.seq ((.seq (.ops [⟨(some 7), .mov (.c (.i .i64 0)), none⟩])
  ((.block 0 [] (f_waferref11_Extends_L0)))))
  (f_waferref11_Extends_R1)))), none, none⟩
def f_waferlaw12_typeOf : Fn := ⟨2, [(.cell 4 ⟨4, true⟩)], true,
  (.seq (.ops [⟨(some 3), .box true (.t 1), none⟩,
    ⟨(some 4), .alloc true [(.i .i64 0), (.i .i64 0), (.s []), .nil], none⟩])
  ((.seq (.ops [⟨(some 6), .mov (.t 0), none⟩,
    ⟨(some 7), .bin .quo .num (.t 6) (.c (.i .u8 16)), none⟩,
    ⟨(some 8), .bin .rem .num (.t 7) (.c (.i .u8 7)), none⟩,
    ⟨(some 9), .bin .add .num (.c (.i .u8 48)) (.t 8), none⟩,
    ⟨(some 10), .buildSlice (.i .u8 0) 1 [(0, (.t 9))], none⟩,
    ⟨(some 11), .text (.t 10), none⟩,
    ⟨(some 12), .bin .add .num (.c (.s [77, 46, 82])) (.t 11), none⟩,
    ⟨(some 5), .mov (.t 12), none⟩])
  ((.seq ((.seq (.ops [⟨(some 13), .mov (.t 0), none⟩,
    ⟨(some 14), .bin .rem .num (.t 13) (.c (.i .u8 10)), none⟩])
  ((.block 0 [3, 4] ((.seq ((.seq (.ops [⟨(some 16), .bin .eql .num (.t 14) (.c (.i .u8 0)), none⟩,
     ⟨(some 15), .mov (.t 16), none⟩])
   ((.cond (.t 15) (.skip)
    (.ops [⟨(some 17), .bin .eql .num (.t 14) (.c (.i .u8 1)), none⟩,
      ⟨(some 15), .mov (.t 17), none⟩])))))
   ((.cond (.t 15) ((.seq (.ops [⟨(some 18), .call (.f 19) [(.c (.i .i64 1))], none⟩,
      ⟨none, .store (some 4) ⟨4, true⟩ (.t 4) (.mv 18), none⟩])
    (.ret)))
    ((.seq (.ops [⟨(some 20), .bin .eql .num (.t 14) (.c (.i .u8 2)), none⟩,
      ⟨(some 19), .mov (.t 20), none⟩])
    ((.cond (.t 19) ((.seq (.ops [⟨(some 21), .mov (.t 0), none⟩,
       ⟨(some 22), .bin .quo .num (.t 21) (.c (.i .u8 16)), none⟩,
       ⟨(some 23), .bin .rem .num (.t 22) (.c (.i .u8 3)), none⟩,
       ⟨(some 24), .conv .i64 (.t 23), none⟩,
       ⟨(some 25), .bin .add .num (.c (.i .i64 2)) (.t 24), none⟩,
       ⟨(some 26), .call (.f 19) [(.t 25)], none⟩,
       ⟨none, .store (some 4) ⟨4, true⟩ (.t 4) (.mv 26), none⟩])
     (.ret)))
     ((.seq ((.seq (.ops [⟨(some 28), .bin .eql .num (.t 14) (.c (.i .u8 3)), none⟩,
       ⟨(some 27), .mov (.t 28), none⟩])
     ((.cond (.t 27) (.skip)
      (.ops [⟨(some 29), .bin .eql .num (.t 14) (.c (.i .u8 4)), none⟩,
        ⟨(some 27), .mov (.t 29), none⟩])))))
     ((.cond (.t 27) ((.seq (.ops [⟨(some 30), .mov (.t 5), none⟩,
        ⟨(some 31), .build [(.i .i64 0), (.i .i64 0), (.s []), .nil] [(0, 1, (.c (.i .i64 9))), (2, 1, (.t 30))], none⟩,
        ⟨none, .store (some 4) ⟨4, true⟩ (.t 4) (.t 31), none⟩])
      (.ret)))
      ((.seq (.ops [⟨(some 33), .bin .eql .num (.t 14) (.c (.i .u8 5)), none⟩,
        ⟨(some 32), .mov (.t 33), none⟩])
      ((.cond (.t 32) ((.seq (.ops [⟨(some 34), .mov (.t 5), none⟩,
         ⟨(some 35), .build [(.i .i64 0), (.i .i64 0), (.s []), .nil] [(0, 1, (.c (.i .i64 8))), (2, 1, (.t 34))], none⟩,
         ⟨none, .store (some 4) ⟨4, true⟩ (.t 4) (.t 35), none⟩])
       (.ret)))
       ((.seq ((.seq (.ops [⟨(some 37), .bin .eql .num (.t 14) (.c (.i .u8 6)), none⟩,
         ⟨(some 36), .mov (.t 37), none⟩])
       ((.cond (.t 36) (.skip)
        (.ops [⟨(some 38), .bin .eql .num (.t 14) (.c (.i .u8 7)), none⟩,
          ⟨(some 36), .mov (.t 38), none⟩])))))
       ((.cond (.t 36) ((.seq (.ops [⟨(some 39), .mov (.t 0), none⟩,
          ⟨(some 40), .bin .rem .num (.t 39) (.c (.i .u8 64)), none⟩,
          ⟨(some 41), .conv .i64 (.t 40), none⟩,
          ⟨(some 42), .bin .mul .num (.t 41) (.c (.i .i64 20)), none⟩,
          ⟨(some 43), .call (.f 19) [(.c (.i .i64 1))], none⟩,
          ⟨(some 44), .call (.f 16) [(.t 42), (.t 43)], none⟩,
          ⟨none, .store (some 4) ⟨4, true⟩ (.t 4) (.mv 44), none⟩])
        (.ret)))
        ((.seq (.ops [⟨(some 46), .bin .eql .num (.t 14) (.c (.i .u8 8)), none⟩,
          ⟨(some 45), .mov (.t 46), none⟩])
        ((.cond (.t 45) ((.seq (.ops [⟨(some 47), .mov (.t 0), none⟩,
           ⟨(some 48), .bin .rem .num (.t 47) (.c (.i .u8 9)), none⟩,
           ⟨(some 49), .conv .i64 (.t 48), none⟩,
           ⟨(some 50), .mov (.t 5), none⟩,
           ⟨(some 51), .build [(.i .i64 0), (.i .i64 0), (.s []), .nil] [(0, 1, (.c (.i .i64 8))), (2, 1, (.t 50))], none⟩,
           ⟨(some 52), .call (.f 16) [(.t 49), (.t 51)], none⟩,
           ⟨none, .store (some 4) ⟨4, true⟩ (.t 4) (.mv 52), none⟩])
         (.ret)))
         (.skip)))))))))))))))))))))))))))))
  ((.seq (.ops [⟨(some 53), .load false (some 3) ⟨4, true⟩ (.t 3), none⟩,
    ⟨none, .store (some 4) ⟨4, true⟩ (.t 4) (.t 53), none⟩])
  (.ret)))))))), none, none⟩
def f_waferref11_Arr : Fn := ⟨2, [(.cell 4 ⟨4, true⟩)], true,
  (.seq (.ops [⟨(some 3), .box true (.t 1), none⟩,
    ⟨(some 4), .alloc true [(.i .i64 0), (.i .i64 0), (.s []), .nil], none⟩])
  ((.seq (.ops [⟨(some 5), .mov (.t 0), none⟩,
    ⟨(some 6), .load false (some 3) ⟨4, true⟩ (.t 3), none⟩,
    ⟨(some 7), .buildSlice (.agg [(.i .i64 0), (.i .i64 0), (.s []), .nil]) 1 [(0, (.t 6))], none⟩,
    ⟨(some 8), .build [(.i .i64 0), (.i .i64 0), (.s []), .nil] [(0, 1, (.c (.i .i64 7))), (1, 1, (.t 5)), (3, 1, (.t 7))], none⟩,
    ⟨none, .store (some 4) ⟨4, true⟩ (.t 4) (.t 8), none⟩])
  (.ret)))), none, none⟩
def f_types_Words : Fn := ⟨2, [(.t 4), (.t 5)], false,
  (.seq (.ops [⟨(some 2), .box true (.t 0), none⟩,
    ⟨(some 4), .mov (.c (.i .i64 0)), none⟩,
    ⟨(some 5), .mov (.c (.b false)), none⟩])
  ((.seq (.ops [⟨(some 8), .mov (.t 1), none⟩,
    ⟨(some 9), .mkMap, none⟩,
    ⟨(some 10), .build [.nm, .nm] [(0, 1, (.t 8)), (1, 1, (.t 9))], none⟩,
    ⟨(some 11), .box false (.t 10), none⟩,
    ⟨(some 6), .mov (.t 11), none⟩])
  ((.seq (.ops [⟨(some 12), .mov (.mv 6), none⟩,
    ⟨(some 13), .load false (some 2) ⟨4, true⟩ (.t 2), none⟩,
    ⟨(some 14), .call (.f 31) [(.mv 12), (.t 13)], none⟩,
    ⟨(some 7), .mov (.mv 14), none⟩])
  ((.seq (.ops [⟨(some 15), .mov (.t 7), none⟩,
    ⟨(some 16), .bi .max [(.t 15), (.c (.i .i64 0))], none⟩,
    ⟨(some 17), .mov (.t 7), none⟩,
    ⟨(some 18), .bin .geq .num (.t 17) (.c (.i .i64 0)), none⟩,
    ⟨(some 4), .mov (.t 16), none⟩,
    ⟨(some 5), .mov (.t 18), none⟩])
  (.ret)))))))), none, none⟩
def f_waferref11_Words : Fn := ⟨2, [(.t 4), (.t 5)], false,
  (.seq (.ops [⟨(some 2), .box true (.t 0), none⟩,
    ⟨(some 4), .mov (.c (.i .i64 0)), none⟩,
    ⟨(some 5), .mov (.c (.b false)), none⟩])
  ((.seq (.ops [⟨(some 6), .load false (some 2) ⟨4, true⟩ (.t 2), none⟩,
    ⟨(some 7), .mov (.mv 1), none⟩,
    ⟨(some 8), .mkMap, none⟩,
    ⟨(some 9), .call (.f 32) [(.t 6), (.mv 7), (.t 8)], none⟩,
    ⟨(some 10), .extract (.t 9) 0, none⟩,
    ⟨(some 11), .extract (.t 9) 1, none⟩,
    ⟨(some 4), .mov (.t 10), none⟩,
    ⟨(some 5), .mov (.t 11), none⟩])
  (.ret)))), none, none⟩
def f_waferref11_Basic : Fn := ⟨1, [(.cell 2 ⟨4, true⟩)], true,
  (.seq (.ops [⟨(some 2), .alloc true [(.i .i64 0), (.i .i64 0), (.s []), .nil], none⟩])
  ((.seq (.ops [⟨(some 3), .mov (.t 0), none⟩,
    ⟨(some 4), .build [(.i .i64 0), (.i .i64 0), (.s []), .nil] [(0, 1, (.t 3))], none⟩,
    ⟨none, .store (some 2) ⟨4, true⟩ (.t 2) (.t 4), none⟩])
  (.ret)))), none, none⟩
def f_types_Fits : Fn := ⟨3, [(.t 6)], true,
  (.seq (.ops [⟨(some 3), .box true (.t 0), none⟩,
    ⟨(some 4), .box true (.t 1), none⟩,
    ⟨(some 6), .mov (.c (.b false)), none⟩])
  ((.seq ((.block 0 [] ((.seq (.ops [⟨(some 8), .fieldAddr (.t 3) 0 ⟨1, false⟩, none⟩,
     ⟨(some 9), .load false (some 3) ⟨1, false⟩ (.t 8), none⟩,
     ⟨(some 10), .bin .eql .num (.t 9) (.c (.i .i64 9)), none⟩,
     ⟨(some 11), .mov (.t 10), none⟩,
     ⟨(some 12), .fieldAddr (.t 4) 0 ⟨1, false⟩, some (11, true)⟩,
     ⟨(some 13), .load false (some 4) ⟨1, false⟩ (.t 12), some (11, true)⟩,
     ⟨(some 14), .bin .eql .num (.t 13) (.c (.i .i64 9)), some (11, true)⟩,
     ⟨(some 15), .pick (.t 11) (.t 14) (.c (.b false)), none⟩,
     ⟨(some 7), .mov (.t 15), none⟩])
   ((.cond (.t 7) ((.seq (.ops [⟨(some 16), .fieldAddr (.t 4) 2 ⟨1, false⟩, none⟩,
      ⟨(some 17), .load false (some 4) ⟨1, false⟩ (.t 16), none⟩,
      ⟨(some 18), .fieldAddr (.t 3) 2 ⟨1, false⟩, none⟩,
      ⟨(some 19), .load false (some 3) ⟨1, false⟩ (.t 18), none⟩,
      ⟨(some 20), .mov (.mv 2), none⟩,
      ⟨(some 21), .call (.f 13) [(.t 17), (.t 19), (.mv 20)], none⟩,
      ⟨(some 6), .mov (.mv 21), none⟩])
    (.ret)))
    ((.seq (.ops [⟨(some 23), .fieldAddr (.t 3) 0 ⟨1, false⟩, none⟩,
      ⟨(some 24), .load false (some 3) ⟨1, false⟩ (.t 23), none⟩,
      ⟨(some 25), .bin .eql .num (.t 24) (.c (.i .i64 9)), none⟩,
      ⟨(some 22), .mov (.t 25), none⟩])
    ((.cond (.t 22) ((.seq (.ops [⟨(some 26), .fieldAddr (.t 4) 0 ⟨1, false⟩, none⟩,
       ⟨(some 27), .load false (some 4) ⟨1, false⟩ (.t 26), none⟩,
       ⟨(some 28), .bin .eql .num (.t 27) (.c (.i .i64 5)), none⟩,
       ⟨(some 6), .mov (.t 28), none⟩])
     (.ret)))
     ((.seq (.ops [⟨(some 30), .fieldAddr (.t 3) 0 ⟨1, false⟩, none⟩,
       ⟨(some 31), .load false (some 3) ⟨1, false⟩ (.t 30), none⟩,
       ⟨(some 32), .call (.f 33) [(.t 31)], none⟩,
       ⟨(some 33), .mov (.mv 32), none⟩,
       ⟨(some 34), .fieldAddr (.t 3) 0 ⟨1, false⟩, some (33, false)⟩,
       ⟨(some 35), .load false (some 3) ⟨1, false⟩ (.t 34), some (33, false)⟩,
       ⟨(some 36), .bin .eql .num (.t 35) (.c (.i .i64 8)), some (33, false)⟩,
       ⟨(some 37), .pick (.t 33) (.c (.b true)) (.t 36), none⟩,
       ⟨(some 38), .mov (.t 37), none⟩,
       ⟨(some 39), .fieldAddr (.t 3) 0 ⟨1, false⟩, some (38, false)⟩,
       ⟨(some 40), .load false (some 3) ⟨1, false⟩ (.t 39), some (38, false)⟩,
       ⟨(some 41), .bin .eql .num (.t 40) (.c (.i .i64 7)), some (38, false)⟩,
       ⟨(some 42), .pick (.t 38) (.c (.b true)) (.t 41), none⟩,
       ⟨(some 29), .mov (.t 42), none⟩])
     ((.cond (.t 29) ((.seq (.ops [⟨(some 43), .load false (some 3) ⟨4, true⟩ (.t 3), none⟩,
        ⟨(some 44), .load false (some 4) ⟨4, true⟩ (.t 4), none⟩,
        ⟨(some 45), .call (.f 24) [(.t 43), (.t 44)], none⟩,
        ⟨(some 6), .mov (.mv 45), none⟩])
      (.ret)))
      (.skip)))))))))))))))
  ((.seq (.ops [⟨(some 6), .mov (.c (.b false)), none⟩])
  (.ret)))))), none, none⟩
def f_waferref11_Fits : Fn := ⟨3, [(.t 6)], true,
  (.seq (.ops [⟨(some 3), .box true (.t 0), none⟩,
    ⟨(some 4), .box true (.t 1), none⟩,
    ⟨(some 6), .mov (.c (.b false)), none⟩])
  ((.seq ((.seq (.ops [⟨(some 7), .fieldAddr (.t 3) 0 ⟨1, false⟩, none⟩,
    ⟨(some 8), .load false (some 3) ⟨1, false⟩ (.t 7), none⟩])
  ((.block 0 [] ((.seq ((.seq (.ops [⟨(some 10), .bin .eql .num (.t 8) (.c (.i .i64 1)), none⟩,
     ⟨(some 9), .mov (.t 10), none⟩])
   ((.cond (.t 9) (.skip)
    ((.seq (.ops [⟨(some 11), .bin .eql .num (.t 8) (.c (.i .i64 2)), none⟩,
      ⟨(some 9), .mov (.t 11), none⟩])
    ((.cond (.t 9) (.skip)
     ((.seq (.ops [⟨(some 12), .bin .eql .num (.t 8) (.c (.i .i64 3)), none⟩,
       ⟨(some 9), .mov (.t 12), none⟩])
     ((.cond (.t 9) (.skip)
      ((.seq (.ops [⟨(some 13), .bin .eql .num (.t 8) (.c (.i .i64 4)), none⟩,
        ⟨(some 9), .mov (.t 13), none⟩])
      ((.cond (.t 9) (.skip)
       ((.seq (.ops [⟨(some 14), .bin .eql .num (.t 8) (.c (.i .i64 8)), none⟩,
         ⟨(some 9), .mov (.t 14), none⟩])
       ((.cond (.t 9) (.skip)
        (.ops [⟨(some 15), .bin .eql .num (.t 8) (.c (.i .i64 7)), none⟩,
          ⟨(some 9), .mov (.t 15), none⟩])))))))))))))))))))))
   ((.cond (.t 9) ((.seq (.ops [⟨(some 16), .load false (some 3) ⟨4, true⟩ (.t 3), none⟩,
      ⟨(some 17), .load false (some 4) ⟨4, true⟩ (.t 4), none⟩,
      ⟨(some 18), .call (.f 34) [(.t 16), (.t 17)], none⟩,
      ⟨(some 6), .mov (.mv 18), none⟩])
    (.ret)))
    ((.seq (.ops [⟨(some 20), .bin .eql .num (.t 8) (.c (.i .i64 9)), none⟩,
      ⟨(some 19), .mov (.t 20), none⟩])
    ((.cond (.t 19) ((.seq (.ops [⟨(some 21), .fieldAddr (.t 4) 0 ⟨1, false⟩, none⟩,
       ⟨(some 22), .load false (some 4) ⟨1, false⟩ (.t 21), none⟩,
       ⟨(some 23), .bin .eql .num (.t 22) (.c (.i .i64 5)), none⟩,
       ⟨(some 24), .mov (.t 23), none⟩,
       ⟨(some 25), .fieldAddr (.t 4) 0 ⟨1, false⟩, some (24, false)⟩,
       ⟨(some 26), .load false (some 4) ⟨1, false⟩ (.t 25), some (24, false)⟩,
       ⟨(some 27), .bin .eql .num (.t 26) (.c (.i .i64 9)), some (24, false)⟩,
       ⟨(some 28), .mov (.t 27), some (24, false)⟩,
       ⟨(some 29), .fieldAddr (.t 4) 2 ⟨1, false⟩, some (28, true)⟩,
       ⟨(some 30), .load false (some 4) ⟨1, false⟩ (.t 29), some (28, true)⟩,
       ⟨(some 31), .fieldAddr (.t 3) 2 ⟨1, false⟩, some (28, true)⟩,
       ⟨(some 32), .load false (some 3) ⟨1, false⟩ (.t 31), some (28, true)⟩,
       ⟨(some 33), .mov (.t 2), some (28, true)⟩,
       ⟨(some 34), .call (.f 14) [(.t 30), (.t 32), (.t 33)], some (28, true)⟩,
       ⟨(some 35), .pick (.t 28) (.t 34) (.c (.b false)), some (24, false)⟩,
       ⟨(some 36), .pick (.t 24) (.c (.b true)) (.t 35), none⟩,
       ⟨(some 6), .mov (.t 36), none⟩])
     (.ret)))
     (.skip)))))))))))))
  ((.seq (.ops [⟨(some 6), .mov (.c (.b false)), none⟩])
  (.ret)))))), none, none⟩
def f_types_Text : Fn := ⟨1, [(.t 2)], true,
  (.seq (.ops [⟨(some 1), .box true (.t 0), none⟩,
    ⟨(some 2), .mov (.c (.s [])), none⟩])
  ((.seq ((.seq (.ops [⟨(some 4), .fieldAddr (.t 1) 0 ⟨1, false⟩, none⟩,
    ⟨(some 5), .load false (some 1) ⟨1, false⟩ (.t 4), none⟩])
  ((.block 0 [] ((.seq (.ops [⟨(some 7), .bin .eql .num (.t 5) (.c (.i .i64 1)), none⟩,
     ⟨(some 6), .mov (.t 7), none⟩])
   ((.cond (.t 6) ((.seq (.ops [⟨(some 2), .mov (.c (.s [73, 78, 84, 69, 71, 69, 82])), none⟩])
    (.ret)))
    ((.seq (.ops [⟨(some 9), .bin .eql .num (.t 5) (.c (.i .i64 2)), none⟩,
      ⟨(some 8), .mov (.t 9), none⟩])
    ((.cond (.t 8) ((.seq (.ops [⟨(some 2), .mov (.c (.s [67, 72, 65, 82])), none⟩])
     (.ret)))
     ((.seq (.ops [⟨(some 11), .bin .eql .num (.t 5) (.c (.i .i64 3)), none⟩,
       ⟨(some 10), .mov (.t 11), none⟩])
     ((.cond (.t 10) ((.seq (.ops [⟨(some 2), .mov (.c (.s [66, 79, 79, 76, 69, 65, 78])), none⟩])
      (.ret)))
      ((.seq (.ops [⟨(some 13), .bin .eql .num (.t 5) (.c (.i .i64 4)), none⟩,
        ⟨(some 12), .mov (.t 13), none⟩])
      ((.cond (.t 12) ((.seq (.ops [⟨(some 2), .mov (.c (.s [83, 69, 84])), none⟩])
       (.ret)))
       ((.seq (.ops [⟨(some 15), .bin .eql .num (.t 5) (.c (.i .i64 5)), none⟩,
         ⟨(some 14), .mov (.t 15), none⟩])
       ((.cond (.t 14) ((.seq (.ops [⟨(some 2), .mov (.c (.s [78, 73, 76])), none⟩])
        (.ret)))
        ((.seq (.ops [⟨(some 17), .bin .eql .num (.t 5) (.c (.i .i64 6)), none⟩,
          ⟨(some 16), .mov (.t 17), none⟩])
        ((.cond (.t 16) ((.seq (.ops [⟨(some 2), .mov (.c (.s [83, 84, 82, 73, 78, 71])), none⟩])
         (.ret)))
         ((.seq (.ops [⟨(some 19), .bin .eql .num (.t 5) (.c (.i .i64 7)), none⟩,
           ⟨(some 18), .mov (.t 19), none⟩])
         ((.cond (.t 18) ((.seq (.ops [⟨(some 20), .fieldAddr (.t 1) 1 ⟨1, false⟩, none⟩,
            ⟨(some 21), .load false (some 1) ⟨1, false⟩ (.t 20), none⟩,
            ⟨(some 22), .call (.f 35) [(.t 21)], none⟩,
            ⟨(some 23), .bin .add .num (.c (.s [65, 82, 82, 65, 89, 32])) (.t 22), none⟩,
            ⟨(some 24), .bin .add .num (.t 23) (.c (.s [32, 79, 70, 32])), none⟩,
            ⟨(some 3), .mov (.t 24), none⟩])
          ((.seq ((.seq (.ops [⟨(some 25), .fieldAddr (.t 1) 3 ⟨1, false⟩, none⟩,
            ⟨(some 26), .load false (some 1) ⟨1, false⟩ (.t 25), none⟩,
            ⟨(some 27), .bi .lenL [(.t 26)], none⟩,
            ⟨(some 28), .bin .gtr .num (.t 27) (.c (.i .i64 0)), none⟩])
          ((.cond (.t 28) (.ops [⟨(some 29), .mov (.t 3), none⟩,
             ⟨(some 30), .fieldAddr (.t 1) 3 ⟨1, false⟩, none⟩,
             ⟨(some 31), .load false (some 1) ⟨1, false⟩ (.t 30), none⟩,
             ⟨(some 32), .indexAddr (.t 31) (.c (.i .i64 0)) 4 none, none⟩,
             ⟨(some 33), .load false none ⟨4, true⟩ (.t 32), none⟩,
             ⟨(some 34), .call (.f 22) [(.t 33)], none⟩,
             ⟨(some 35), .bin .add .num (.t 29) (.t 34), none⟩,
             ⟨(some 3), .mov (.t 35), none⟩])
           (.skip)))))
          ((.seq (.ops [⟨(some 36), .mov (.t 3), none⟩,
            ⟨(some 2), .mov (.t 36), none⟩])
          (.ret)))))))
          ((.seq (.ops [⟨(some 38), .bin .eql .num (.t 5) (.c (.i .i64 8)), none⟩,
            ⟨(some 37), .mov (.t 38), none⟩])
          ((.cond (.t 37) ((.seq (.ops [⟨(some 39), .fieldAddr (.t 1) 2 ⟨1, false⟩, none⟩,
             ⟨(some 40), .load false (some 1) ⟨1, false⟩ (.t 39), none⟩,
             ⟨(some 2), .mov (.t 40), none⟩])
           (.ret)))
           ((.seq (.ops [⟨(some 42), .bin .eql .num (.t 5) (.c (.i .i64 9)), none⟩,
             ⟨(some 41), .mov (.t 42), none⟩])
           ((.cond (.t 41) ((.seq (.ops [⟨(some 43), .fieldAddr (.t 1) 2 ⟨1, false⟩, none⟩,
              ⟨(some 44), .load false (some 1) ⟨1, false⟩ (.t 43), none⟩,
              ⟨(some 45), .bin .add .num (.c (.s [80, 79, 73, 78, 84, 69, 82, 32, 84, 79, 32])) (.t 44), none⟩,
              ⟨(some 2), .mov (.t 45), none⟩])
            (.ret)))
            (.skip)))))))))))))))))))))))))))))))))))))))))
  ((.seq (.ops [⟨(some 2), .mov (.c (.s [])), none⟩])
  (.ret)))))), none, none⟩
def f_types_Right : Fn := ⟨1, [(.t 2)], true,
  (.seq (.ops [⟨(some 1), .box true (.t 0), none⟩,
    ⟨(some 2), .mov (.c (.b false)), none⟩])
  ((.seq ((.block 0 [] ((.seq (.ops [⟨(some 4), .fieldAddr (.t 1) 0 ⟨1, false⟩, none⟩,
     ⟨(some 5), .load false (some 1) ⟨1, false⟩ (.t 4), none⟩,
     ⟨(some 6), .call (.f 33) [(.t 5)], none⟩,
     ⟨(some 3), .mov (.mv 6), none⟩])
   ((.cond (.t 3) ((.seq (.ops [⟨(some 7), .fieldAddr (.t 1) 1 ⟨1, false⟩, none⟩,
      ⟨(some 8), .load false (some 1) ⟨1, false⟩ (.t 7), none⟩,
      ⟨(some 9), .bin .eql .num (.t 8) (.c (.i .i64 0)), none⟩,
      ⟨(some 10), .mov (.t 9), none⟩,
      ⟨(some 11), .fieldAddr (.t 1) 2 ⟨1, false⟩, some (10, true)⟩,
      ⟨(some 12), .load false (some 1) ⟨1, false⟩ (.t 11), some (10, true)⟩,
      ⟨(some 13), .bin .eql .num (.t 12) (.c (.s [])), some (10, true)⟩,
      ⟨(some 14), .pick (.t 10) (.t 13) (.c (.b false)), none⟩,
      ⟨(some 15), .mov (.t 14), none⟩,
      ⟨(some 16), .fieldAddr (.t 1) 3 ⟨1, false⟩, some (15, true)⟩,
      ⟨(some 17), .load false (some 1) ⟨1, false⟩ (.t 16), some (15, true)⟩,
      ⟨(some 18), .bi .lenL [(.t 17)], some (15, true)⟩,
      ⟨(some 19), .bin .eql .num (.t 18) (.c (.i .i64 0)), some (15, true)⟩,
      ⟨(some 20), .pick (.t 15) (.t 19) (.c (.b false)), none⟩,
      ⟨(some 2), .mov (.t 20), none⟩])
    (.ret)))
    ((.seq (.ops [⟨(some 22), .fieldAddr (.t 1) 0 ⟨1, false⟩, none⟩,
      ⟨(some 23), .load false (some 1) ⟨1, false⟩ (.t 22), none⟩,
      ⟨(some 24), .bin .eql .num (.t 23) (.c (.i .i64 7)), none⟩,
      ⟨(some 21), .mov (.t 24), none⟩])
    ((.cond (.t 21) ((.seq (.ops [⟨(some 25), .fieldAddr (.t 1) 1 ⟨1, false⟩, none⟩,
       ⟨(some 26), .load false (some 1) ⟨1, false⟩ (.t 25), none⟩,
       ⟨(some 27), .bin .geq .num (.t 26) (.c (.i .i64 1)), none⟩,
       ⟨(some 28), .mov (.t 27), none⟩,
       ⟨(some 29), .fieldAddr (.t 1) 1 ⟨1, false⟩, some (28, true)⟩,
       ⟨(some 30), .load false (some 1) ⟨1, false⟩ (.t 29), some (28, true)⟩,
       ⟨(some 31), .bin .leq .num (.t 30) (.c (.i .i64 1024)), some (28, true)⟩,
       ⟨(some 32), .pick (.t 28) (.t 31) (.c (.b false)), none⟩,
       ⟨(some 33), .mov (.t 32), none⟩,
       ⟨(some 34), .fieldAddr (.t 1) 2 ⟨1, false⟩, some (33, true)⟩,
       ⟨(some 35), .load false (some 1) ⟨1, false⟩ (.t 34), some (33, true)⟩,
       ⟨(some 36), .bin .eql .num (.t 35) (.c (.s [])), some (33, true)⟩,
       ⟨(some 37), .pick (.t 33) (.t 36) (.c (.b false)), none⟩,
       ⟨(some 38), .mov (.t 37), none⟩,
       ⟨(some 39), .fieldAddr (.t 1) 3 ⟨1, false⟩, some (38, true)⟩,
       ⟨(some 40), .load false (some 1) ⟨1, false⟩ (.t 39), some (38, true)⟩,
       ⟨(some 41), .bi .lenL [(.t 40)], some (38, true)⟩,
       ⟨(some 42), .bin .eql .num (.t 41) (.c (.i .i64 1)), some (38, true)⟩,
       ⟨(some 43), .pick (.t 38) (.t 42) (.c (.b false)), none⟩,
       ⟨(some 44), .mov (.t 43), none⟩,
       ⟨(some 45), .fieldAddr (.t 1) 3 ⟨1, false⟩, some (44, true)⟩,
       ⟨(some 46), .load false (some 1) ⟨1, false⟩ (.t 45), some (44, true)⟩,
       ⟨(some 47), .indexAddr (.t 46) (.c (.i .i64 0)) 4 none, some (44, true)⟩,
       ⟨(some 48), .load false none ⟨4, true⟩ (.t 47), some (44, true)⟩,
       ⟨(some 49), .call (.f 23) [(.t 48)], some (44, true)⟩,
       ⟨(some 50), .pick (.t 44) (.t 49) (.c (.b false)), none⟩,
       ⟨(some 2), .mov (.t 50), none⟩])
     (.ret)))
     ((.seq (.ops [⟨(some 52), .fieldAddr (.t 1) 0 ⟨1, false⟩, none⟩,
       ⟨(some 53), .load false (some 1) ⟨1, false⟩ (.t 52), none⟩,
       ⟨(some 54), .bin .eql .num (.t 53) (.c (.i .i64 8)), none⟩,
       ⟨(some 55), .mov (.t 54), none⟩,
       ⟨(some 56), .fieldAddr (.t 1) 0 ⟨1, false⟩, some (55, false)⟩,
       ⟨(some 57), .load false (some 1) ⟨1, false⟩ (.t 56), some (55, false)⟩,
       ⟨(some 58), .bin .eql .num (.t 57) (.c (.i .i64 9)), some (55, false)⟩,
       ⟨(some 59), .pick (.t 55) (.c (.b true)) (.t 58), none⟩,
       ⟨(some 51), .mov (.t 59), none⟩])
     ((.cond (.t 51) ((.seq (.ops [⟨(some 60), .fieldAddr (.t 1) 1 ⟨1, false⟩, none⟩,
        ⟨(some 61), .load false (some 1) ⟨1, false⟩ (.t 60), none⟩,
        ⟨(some 62), .bin .eql .num (.t 61) (.c (.i .i64 0)), none⟩,
        ⟨(some 63), .mov (.t 62), none⟩,
        ⟨(some 64), .fieldAddr (.t 1) 2 ⟨1, false⟩, some (63, true)⟩,
        ⟨(some 65), .load false (some 1) ⟨1, false⟩ (.t 64), some (63, true)⟩,
        ⟨(some 66), .bin .neq .num (.t 65) (.c (.s [])), some (63, true)⟩,
        ⟨(some 67), .pick (.t 63) (.t 66) (.c (.b false)), none⟩,
        ⟨(some 68), .mov (.t 67), none⟩,
        ⟨(some 69), .fieldAddr (.t 1) 3 ⟨1, false⟩, some (68, true)⟩,
        ⟨(some 70), .load false (some 1) ⟨1, false⟩ (.t 69), some (68, true)⟩,
        ⟨(some 71), .bi .lenL [(.t 70)], some (68, true)⟩,
        ⟨(some 72), .bin .eql .num (.t 71) (.c (.i .i64 0)), some (68, true)⟩,
        ⟨(some 73), .pick (.t 68) (.t 72) (.c (.b false)), none⟩,
        ⟨(some 2), .mov (.t 73), none⟩])
      (.ret)))
      (.skip)))))))))))))))
  ((.seq (.ops [⟨(some 2), .mov (.c (.b false)), none⟩])
  (.ret)))))), none, none⟩
def f_types_Same : Fn := ⟨2, [(.t 4)], true,
  (.seq (.ops [⟨(some 2), .box true (.t 0), none⟩,
    ⟨(some 3), .box true (.t 1), none⟩,
    ⟨(some 4), .mov (.c (.b false)), none⟩])
  ((.seq ((.block 0 [] ((.seq (.ops [⟨(some 6), .fieldAddr (.t 2) 0 ⟨1, false⟩, none⟩,
     ⟨(some 7), .load false (some 2) ⟨1, false⟩ (.t 6), none⟩,
     ⟨(some 8), .fieldAddr (.t 3) 0 ⟨1, false⟩, none⟩,
     ⟨(some 9), .load false (some 3) ⟨1, false⟩ (.t 8), none⟩,
     ⟨(some 10), .bin .neq .num (.t 7) (.t 9), none⟩,
     ⟨(some 5), .mov (.t 10), none⟩])
   ((.cond (.t 5) ((.seq (.ops [⟨(some 4), .mov (.c (.b false)), none⟩])
    (.ret)))
    ((.seq (.ops [⟨(some 12), .fieldAddr (.t 2) 0 ⟨1, false⟩, none⟩,
      ⟨(some 13), .load false (some 2) ⟨1, false⟩ (.t 12), none⟩,
      ⟨(some 14), .bin .eql .num (.t 13) (.c (.i .i64 7)), none⟩,
      ⟨(some 11), .mov (.t 14), none⟩])
    ((.cond (.t 11) ((.seq (.ops [⟨(some 15), .fieldAddr (.t 2) 1 ⟨1, false⟩, none⟩,
       ⟨(some 16), .load false (some 2) ⟨1, false⟩ (.t 15), none⟩,
       ⟨(some 17), .fieldAddr (.t 3) 1 ⟨1, false⟩, none⟩,
       ⟨(some 18), .load false (some 3) ⟨1, false⟩ (.t 17), none⟩,
       ⟨(some 19), .bin .eql .num (.t 16) (.t 18), none⟩,
       ⟨(some 20), .mov (.t 19), none⟩,
       ⟨(some 21), .fieldAddr (.t 2) 3 ⟨1, false⟩, some (20, true)⟩,
       ⟨(some 22), .load false (some 2) ⟨1, false⟩ (.t 21), some (20, true)⟩,
       ⟨(some 23), .fieldAddr (.t 3) 3 ⟨1, false⟩, some (20, true)⟩,
       ⟨(some 24), .load false (some 3) ⟨1, false⟩ (.t 23), some (20, true)⟩,
       ⟨(some 25), .call (.f 36) [(.t 22), (.t 24), (.f 24)], some (20, true)⟩,
       ⟨(some 26), .pick (.t 20) (.t 25) (.c (.b false)), none⟩,
       ⟨(some 4), .mov (.t 26), none⟩])
     (.ret)))
     ((.seq (.ops [⟨(some 28), .fieldAddr (.t 2) 0 ⟨1, false⟩, none⟩,
       ⟨(some 29), .load false (some 2) ⟨1, false⟩ (.t 28), none⟩,
       ⟨(some 30), .bin .eql .num (.t 29) (.c (.i .i64 8)), none⟩,
       ⟨(some 31), .mov (.t 30), none⟩,
       ⟨(some 32), .fieldAddr (.t 2) 0 ⟨1, false⟩, some (31, false)⟩,
       ⟨(some 33), .load false (some 2) ⟨1, false⟩ (.t 32), some (31, false)⟩,
       ⟨(some 34), .bin .eql .num (.t 33) (.c (.i .i64 9)), some (31, false)⟩,
       ⟨(some 35), .pick (.t 31) (.c (.b true)) (.t 34), none⟩,
       ⟨(some 27), .mov (.t 35), none⟩])
     ((.cond (.t 27) ((.seq (.ops [⟨(some 36), .fieldAddr (.t 2) 2 ⟨1, false⟩, none⟩,
        ⟨(some 37), .load false (some 2) ⟨1, false⟩ (.t 36), none⟩,
        ⟨(some 38), .fieldAddr (.t 3) 2 ⟨1, false⟩, none⟩,
        ⟨(some 39), .load false (some 3) ⟨1, false⟩ (.t 38), none⟩,
        ⟨(some 40), .bin .eql .num (.t 37) (.t 39), none⟩,
        ⟨(some 4), .mov (.t 40), none⟩])
      (.ret)))
      (.skip)))))))))))))))
  ((.seq (.ops [⟨(some 4), .mov (.c (.b true)), none⟩])
  (.ret)))))), none, none⟩
def f_types_Basic : Fn := ⟨1, [(.cell 2 ⟨4, true⟩)], true,
  (.seq (.ops [⟨(some 2), .alloc true [(.i .i64 0), (.i .i64 0), (.s []), .nil], none⟩])
  ((.seq (.ops [⟨(some 3), .mov (.t 0), none⟩,
    ⟨(some 4), .build [(.i .i64 0), (.i .i64 0), (.s []), .nil] [(0, 1, (.t 3))], none⟩,
    ⟨none, .store (some 2) ⟨4, true⟩ (.t 2) (.t 4), none⟩])
  (.ret)))), none, none⟩
def f_types_chain_B0 : C :=
  (.seq ((.seq (.ops [⟨(some 11), .mov (.t 0), none⟩,
    ⟨(some 12), .bin .neq .num (.t 11) (.c (.s [])), none⟩])
  ((.cond (.t 12) (.skip)
   (.exit 0)))))
  ((.block 1 [0, 1, 6, 7] ((.seq (.ops [⟨(some 14), .mov (.t 1), none⟩,
     ⟨(some 15), .mov (.t 0), none⟩,
     ⟨(some 16), .lookup 2 (.agg [(.s []), (.b false), (.s []), .nil]) (.t 14) (.t 15) true, none⟩,
     ⟨(some 13), .mov (.t 16), none⟩,
     ⟨(some 17), .extract (.t 13) 0, none⟩,
     ⟨(some 18), .extract (.t 13) 1, none⟩,
     ⟨(some 8), .alloc true [(.s []), (.b false), (.s []), .nil], none⟩,
     ⟨none, .store (some 8) ⟨4, true⟩ (.t 8) (.t 17), none⟩,
     ⟨(some 9), .mov (.t 18), none⟩])
   ((.seq ((.seq (.ops [⟨(some 19), .mov (.t 9), none⟩,
     ⟨(some 20), .un .not (.t 19), none⟩,
     ⟨(some 21), .mov (.t 20), none⟩,
     ⟨(some 22), .mov (.t 7), some (21, false)⟩,
     ⟨(some 23), .mov (.t 0), some (21, false)⟩,
     ⟨(some 24), .lookup 2 (.b false) (.t 22) (.t 23) false, some (21, false)⟩,
     ⟨(some 25), .pick (.t 21) (.c (.b true)) (.t 24), none⟩])
   ((.cond (.t 25) ((.seq (.ops [⟨(some 4), .mov (.c .nil), none⟩,
      ⟨(some 5), .mov (.c (.b false)), none⟩])
    (.ret)))
    (.skip)))))
   ((.seq (.ops [⟨(some 26), .mov (.t 7), none⟩,
     ⟨(some 27), .mov (.t 0), none⟩,
     ⟨none, .mapUpdate 2 (.t 26) (.t 27) (.c (.b true)), none⟩])
   ((.seq (.ops [⟨(some 28), .mov (.mv 6), none⟩,
     ⟨(some 29), .load false (some 8) ⟨4, true⟩ (.t 8), none⟩,
     ⟨(some 30), .buildSlice (.agg [(.s []), (.b false), (.s []), .nil]) 1 [(0, (.t 29))], none⟩,
     ⟨(some 31), .bi (.append 4 64) [(.mv 28), (.t 30)], none⟩,
     ⟨(some 6), .mov (.mv 31), none⟩])
   (.ops [⟨(some 32), .fieldAddr (.t 8) 2 ⟨1, false⟩, none⟩,
     ⟨(some 33), .load false (some 8) ⟨1, false⟩ (.t 32), none⟩,
     ⟨(some 0), .mov (.t 33), none⟩]))))))))))))
def f_types_chain_L0 : C := .loop [0, 1, 6, 7] f_types_chain_B0
noncomputable def f_types_chain_l0 (pg : Pg) (v0 v1 v6 v7 : V) (H : List Obj) (lo : Nat) : Option (Ex × St) := exL pg f_types_chain_L0 ⟨[(0, v0), (1, v1), (6, v6), (7, v7)], H, lo⟩
theorem f_types_chain_l0_in {pg : Pg} {e : Env} {H : List Obj} {lo : Nat} : exL pg f_types_chain_L0 ⟨e, H, lo⟩ = f_types_chain_l0 pg (keepV (get 0 e)) (keepV (get 1 e)) (keepV (get 6 e)) (keepV (get 7 e)) H lo := loop_in
theorem f_types_chain_l0_eq {pg : Pg} {v0 v1 v6 v7 : V} {H : List Obj} {lo : Nat} : f_types_chain_l0 pg v0 v1 v6 v7 H lo = thenC pg (exL pg f_types_chain_B0 ⟨[(0, keepV v0), (1, keepV v1), (6, keepV v6), (7, keepV v7)], H, lo⟩) f_types_chain_L0 := by
  unfold f_types_chain_l0 f_types_chain_L0; rw [exL_loop]; simp only [restrict_cons, restrict_nil, get_eq, get_ne, Nat.reduceEqDiff]
def f_types_chain_R1 : C :=
  (.seq (.ops [⟨(some 34), .mov (.t 6), none⟩,
    ⟨(some 35), .mov (.t 6), none⟩,
    ⟨(some 36), .bi .lenL [(.t 35)], none⟩,
    ⟨(some 37), .bin .gtr .num (.t 36) (.c (.i .i64 0)), none⟩,
    ⟨(some 4), .mov (.t 34), none⟩,
    ⟨(some 5), .mov (.t 37), none⟩])
  (.ret))
def f_types_chain : Fn := ⟨2, [(.t 4), (.t 5)], false,
  (.seq (.ops [⟨(some 4), .mov (.c .nil), none⟩,
    ⟨(some 5), .mov (.c (.b false)), none⟩])
  ((.seq (.ops [⟨(some 6), .mov (.c .nil), none⟩])
  ((.seq (.ops [⟨(some 10), .mkMap, none⟩,
    ⟨(some 7), .mov (.t 10), none⟩])
  ((.seq ((.block 0 [6] (f_types_chain_L0)))
  (f_types_chain_R1)))))))), none, none⟩
def f_slices_Backward___api_Rec_api_Rec_ : Fn := ⟨1, [(.t 2)], true,
  (.seq (.ops [⟨(some 1), .box false (.t 0), none⟩,
    ⟨(some 2), .mov (.c .nf), none⟩])
  ((.seq (.ops [⟨(some 3), .mkFn 37 [] [(.t 1)], none⟩,
    ⟨(some 2), .mov (.t 3), none⟩])
  (.ret)))), none, none⟩
def f_types_Clone_B0 : C :=
  (.seq (.ops [⟨(some 12), .bin .lss .num (.t 11) (.t 10), none⟩])
  ((.seq ((.cond (.t 12) (.skip)
   (.exit 0)))
  ((.seq ((.block 1 [2, 3, 9, 10, 11] ((.seq (.ops [⟨(some 13), .indexAddr (.t 9) (.t 11) 4 none, none⟩,
     ⟨(some 14), .load false none ⟨4, true⟩ (.t 13), none⟩,
     ⟨(some 5), .alloc true [(.i .i64 0), (.i .i64 0), (.s []), .nil], none⟩,
     ⟨none, .store (some 5) ⟨4, true⟩ (.t 5) (.t 14), none⟩])
   (.opsD [(⟨(some 15), .fieldAddr (.t 3) 3 ⟨1, false⟩, none⟩, false, []),
     (⟨(some 16), .load true (some 3) ⟨1, false⟩ (.t 15), none⟩, false, []),
     (⟨(some 17), .load false (some 5) ⟨4, true⟩ (.t 5), none⟩, false, []),
     (⟨(some 18), .call (.f 28) [(.t 17)], none⟩, false, []),
     (⟨(some 19), .buildSlice (.agg [(.i .i64 0), (.i .i64 0), (.s []), .nil]) 1 [(0, (.t 18))], none⟩, false, []),
     (⟨(some 20), .bi (.append 4 56) [(.mv 16), (.t 19)], none⟩, true, []),
     (⟨(some 21), .fieldAddr (.t 3) 3 ⟨1, false⟩, none⟩, true, []),
     (⟨none, .store (some 3) ⟨1, false⟩ (.t 21) (.mv 20), none⟩, true, [])])))))
  (.ops [⟨(some 22), .bin .add .num (.t 11) (.c (.i .i64 1)), none⟩,
    ⟨(some 11), .mov (.t 22), none⟩]))))))
def f_types_Clone_L0 : C := .loop [2, 3, 9, 10, 11] f_types_Clone_B0
noncomputable def f_types_Clone_l0 (pg : Pg) (v2 v3 v9 v10 v11 : V) (H : List Obj) (lo : Nat) : Option (Ex × St) := exL pg f_types_Clone_L0 ⟨[(2, v2), (3, v3), (9, v9), (10, v10), (11, v11)], H, lo⟩
theorem f_types_Clone_l0_in {pg : Pg} {e : Env} {H : List Obj} {lo : Nat} : exL pg f_types_Clone_L0 ⟨e, H, lo⟩ = f_types_Clone_l0 pg (keepV (get 2 e)) (keepV (get 3 e)) (keepV (get 9 e)) (keepV (get 10 e)) (keepV (get 11 e)) H lo := loop_in
theorem f_types_Clone_l0_eq {pg : Pg} {v2 v3 v9 v10 v11 : V} {H : List Obj} {lo : Nat} : f_types_Clone_l0 pg v2 v3 v9 v10 v11 H lo = thenC pg (exL pg f_types_Clone_B0 ⟨[(2, keepV v2), (3, keepV v3), (9, keepV v9), (10, keepV v10), (11, keepV v11)], H, lo⟩) f_types_Clone_L0 := by
  unfold f_types_Clone_l0 f_types_Clone_L0; rw [exL_loop]; simp only [restrict_cons, restrict_nil, get_eq, get_ne, Nat.reduceEqDiff]
def f_types_Clone_R1 : C :=
  (.seq (.ops [⟨(some 23), .load false (some 3) ⟨4, true⟩ (.t 3), none⟩,
    ⟨none, .store (some 2) ⟨4, true⟩ (.t 2) (.t 23), none⟩])
  (.ret))
def f_types_Clone : Fn := ⟨1, [(.cell 2 ⟨4, true⟩)], true,
  (.seq (.ops [⟨(some 1), .box true (.t 0), none⟩,
    ⟨(some 2), .alloc true [(.i .i64 0), (.i .i64 0), (.s []), .nil], none⟩])
  ((.seq (.ops [⟨(some 6), .load false (some 1) ⟨4, true⟩ (.t 1), none⟩,
    ⟨(some 3), .alloc true [(.i .i64 0), (.i .i64 0), (.s []), .nil], none⟩,
    ⟨none, .store (some 3) ⟨4, true⟩ (.t 3) (.t 6), none⟩])
  ((.seq (.ops [⟨(some 7), .fieldAddr (.t 3) 3 ⟨1, false⟩, none⟩,
    ⟨none, .store (some 3) ⟨1, false⟩ (.t 7) (.c .nil), none⟩])
  ((.seq ((.seq (.ops [⟨(some 8), .fieldAddr (.t 1) 3 ⟨1, false⟩, none⟩,
    ⟨(some 9), .load false (some 1) ⟨1, false⟩ (.t 8), none⟩,
    ⟨(some 10), .bi .lenL [(.t 9)], none⟩,
    ⟨(some 11), .mov (.c (.i .i64 0)), none⟩])
  ((.block 0 [2, 3] (f_types_Clone_L0)))))
  (f_types_Clone_R1)))))))), none, none⟩
def f_waferref11_fields : Fn := ⟨3, [(.t 6), (.t 7)], false,
  (.seq (.ops [⟨(some 6), .mov (.c .nil), none⟩,
    ⟨(some 7), .mov (.c (.b false)), none⟩])
  ((.seq (.ops [⟨(some 12), .mov (.t 1), none⟩,
    ⟨(some 13), .mov (.t 0), none⟩,
    ⟨(some 14), .lookup 2 (.agg [(.s []), (.b false), (.s []), .nil]) (.t 12) (.t 13) true, none⟩,
    ⟨(some 11), .mov (.t 14), none⟩,
    ⟨(some 15), .extract (.t 11) 0, none⟩,
    ⟨(some 16), .extract (.t 11) 1, none⟩,
    ⟨(some 8), .alloc true [(.s []), (.b false), (.s []), .nil], none⟩,
    ⟨none, .store (some 8) ⟨4, true⟩ (.t 8) (.t 15), none⟩,
    ⟨(some 9), .mov (.t 16), none⟩])
  ((.seq ((.seq (.ops [⟨(some 17), .mov (.t 9), none⟩,
    ⟨(some 18), .un .not (.t 17), none⟩,
    ⟨(some 19), .mov (.t 18), none⟩,
    ⟨(some 20), .mov (.t 2), some (19, false)⟩,
    ⟨(some 21), .bin .lss .num (.t 20) (.c (.i .i64 1)), some (19, false)⟩,
    ⟨(some 22), .pick (.t 19) (.c (.b true)) (.t 21), none⟩])
  ((.cond (.t 22) ((.seq (.ops [⟨(some 6), .mov (.c .nil), none⟩,
     ⟨(some 7), .mov (.c (.b false)), none⟩])
   (.ret)))
   (.skip)))))
  ((.seq (.ops [⟨(some 10), .mov (.c .nil), none⟩])
  ((.seq ((.seq (.ops [⟨(some 23), .fieldAddr (.t 8) 2 ⟨1, false⟩, none⟩,
    ⟨(some 24), .load false (some 8) ⟨1, false⟩ (.t 23), none⟩,
    ⟨(some 25), .bin .neq .num (.t 24) (.c (.s [])), none⟩])
  ((.cond (.t 25) ((.seq (.ops [⟨(some 27), .fieldAddr (.t 8) 2 ⟨1, false⟩, none⟩,
     ⟨(some 28), .load false (some 8) ⟨1, false⟩ (.t 27), none⟩,
     ⟨(some 29), .mov (.mv 1), none⟩,
     ⟨(some 30), .mov (.t 2), none⟩,
     ⟨(some 31), .bin .sub .num (.t 30) (.c (.i .i64 1)), none⟩,
     ⟨(some 32), .call (.f 29) [(.t 28), (.mv 29), (.t 31)], none⟩,
     ⟨(some 26), .mov (.t 32), none⟩,
     ⟨(some 33), .extract (.t 26) 0, none⟩,
     ⟨(some 34), .extract (.t 26) 1, none⟩,
     ⟨(some 10), .mov (.t 33), none⟩,
     ⟨(some 9), .mov (.t 34), none⟩])
   ((.seq (.ops [⟨(some 35), .mov (.t 9), none⟩,
     ⟨(some 36), .un .not (.t 35), none⟩])
   ((.cond (.t 36) ((.seq (.ops [⟨(some 6), .mov (.c .nil), none⟩,
      ⟨(some 7), .mov (.c (.b false)), none⟩])
    (.ret)))
    (.skip)))))))
   (.skip)))))
  ((.seq (.opsD [(⟨(some 37), .mov (.t 10), none⟩, false, []),
    (⟨(some 38), .mov (.t 10), none⟩, false, []),
    (⟨(some 39), .bi .lenL [(.t 38)], none⟩, false, []),
    (⟨(some 40), .mov (.t 10), none⟩, false, []),
    (⟨(some 41), .bi .lenL [(.t 40)], none⟩, false, []),
    (⟨(some 42), .sliceM 6 (.t 37) none (.t 39) (.t 41), none⟩, false, []),
    (⟨(some 43), .fieldAddr (.t 8) 3 ⟨1, false⟩, none⟩, false, []),
    (⟨(some 44), .load false (some 8) ⟨1, false⟩ (.t 43), none⟩, false, []),
    (⟨(some 45), .bi (.append 6 80) [(.mv 42), (.t 44)], none⟩, true, []),
    (⟨(some 6), .mov (.mv 45), none⟩, true, []),
    (⟨(some 7), .mov (.c (.b true)), none⟩, true, [])])
  (.ret)))))))))))), none, none⟩
def f_waferref11_Alike_B0 : C :=
  (.seq ((.seq (.ops [⟨(some 34), .mov (.t 5), none⟩,
    ⟨(some 35), .fieldAddr (.t 2) 3 ⟨1, false⟩, none⟩,
    ⟨(some 36), .load false (some 2) ⟨1, false⟩ (.t 35), none⟩,
    ⟨(some 37), .bi .lenL [(.t 36)], none⟩,
    ⟨(some 38), .bin .lss .num (.t 34) (.t 37), none⟩])
  ((.cond (.t 38) (.skip)
   (.exit 0)))))
  ((.seq ((.block 1 [2, 3, 5] ((.seq (.opsD [(⟨(some 41), .fieldAddr (.t 2) 3 ⟨1, false⟩, none⟩, false, []),
     (⟨(some 42), .load false (some 2) ⟨1, false⟩ (.t 41), none⟩, false, []),
     (⟨(some 43), .mov (.t 5), none⟩, false, []),
     (⟨(some 44), .indexAddr (.t 42) (.t 43) 4 none, none⟩, false, []),
     (⟨(some 45), .load false none ⟨4, true⟩ (.t 44), none⟩, false, []),
     (⟨(some 46), .fieldAddr (.t 3) 3 ⟨1, false⟩, none⟩, false, []),
     (⟨(some 47), .load false (some 3) ⟨1, false⟩ (.t 46), none⟩, false, []),
     (⟨(some 48), .mov (.t 5), none⟩, false, []),
     (⟨(some 49), .indexAddr (.t 47) (.t 48) 4 none, none⟩, false, []),
     (⟨(some 50), .load false none ⟨4, true⟩ (.t 49), none⟩, false, []),
     (⟨(some 51), .call (.f 30) [(.t 45), (.t 50)], none⟩, true, []),
     (⟨(some 52), .un .not (.t 51), none⟩, true, [])])
   ((.cond (.t 52) ((.seq (.ops [⟨(some 4), .mov (.c (.b false)), none⟩])
    (.ret)))
    (.skip)))))))
  (.ops [⟨(some 39), .mov (.t 5), none⟩,
    ⟨(some 40), .bin .add .num (.t 39) (.c (.i .i64 1)), none⟩,
    ⟨(some 5), .mov (.t 40), none⟩]))))
def f_waferref11_Alike_L0 : C := .loop [2, 3, 5] f_waferref11_Alike_B0
noncomputable def f_waferref11_Alike_l0 (pg : Pg) (v2 v3 v5 : V) (H : List Obj) (lo : Nat) : Option (Ex × St) := exL pg f_waferref11_Alike_L0 ⟨[(2, v2), (3, v3), (5, v5)], H, lo⟩
theorem f_waferref11_Alike_l0_in {pg : Pg} {e : Env} {H : List Obj} {lo : Nat} : exL pg f_waferref11_Alike_L0 ⟨e, H, lo⟩ = f_waferref11_Alike_l0 pg (keepV (get 2 e)) (keepV (get 3 e)) (keepV (get 5 e)) H lo := loop_in
theorem f_waferref11_Alike_l0_eq {pg : Pg} {v2 v3 v5 : V} {H : List Obj} {lo : Nat} : f_waferref11_Alike_l0 pg v2 v3 v5 H lo = thenC pg (exL pg f_waferref11_Alike_B0 ⟨[(2, keepV v2), (3, keepV v3), (5, keepV v5)], H, lo⟩) f_waferref11_Alike_L0 := by
  unfold f_waferref11_Alike_l0 f_waferref11_Alike_L0; rw [exL_loop]; simp only [restrict_cons, restrict_nil, get_eq, get_ne, Nat.reduceEqDiff]
def f_waferref11_Alike_R1 : C :=
  (.seq (.ops [⟨(some 4), .mov (.c (.b true)), none⟩])
  (.ret))
def f_waferref11_Alike : Fn := ⟨2, [(.t 4)], true,
  (.seq (.ops [⟨(some 2), .box true (.t 0), none⟩,
    ⟨(some 3), .box true (.t 1), none⟩,
    ⟨(some 4), .mov (.c (.b false)), none⟩])
  ((.seq ((.seq (.ops [⟨(some 6), .fieldAddr (.t 2) 0 ⟨1, false⟩, none⟩,
    ⟨(some 7), .load false (some 2) ⟨1, false⟩ (.t 6), none⟩,
    ⟨(some 8), .fieldAddr (.t 3) 0 ⟨1, false⟩, none⟩,
    ⟨(some 9), .load false (some 3) ⟨1, false⟩ (.t 8), none⟩,
    ⟨(some 10), .bin .neq .num (.t 7) (.t 9), none⟩,
    ⟨(some 11), .mov (.t 10), none⟩,
    ⟨(some 12), .fieldAddr (.t 2) 1 ⟨1, false⟩, some (11, false)⟩,
    ⟨(some 13), .load false (some 2) ⟨1, false⟩ (.t 12), some (11, false)⟩,
    ⟨(some 14), .fieldAddr (.t 3) 1 ⟨1, false⟩, some (11, false)⟩,
    ⟨(some 15), .load false (some 3) ⟨1, false⟩ (.t 14), some (11, false)⟩,
    ⟨(some 16), .bin .neq .num (.t 13) (.t 15), some (11, false)⟩,
    ⟨(some 17), .pick (.t 11) (.c (.b true)) (.t 16), none⟩,
    ⟨(some 18), .mov (.t 17), none⟩,
    ⟨(some 19), .fieldAddr (.t 2) 2 ⟨1, false⟩, some (18, false)⟩,
    ⟨(some 20), .load false (some 2) ⟨1, false⟩ (.t 19), some (18, false)⟩,
    ⟨(some 21), .fieldAddr (.t 3) 2 ⟨1, false⟩, some (18, false)⟩,
    ⟨(some 22), .load false (some 3) ⟨1, false⟩ (.t 21), some (18, false)⟩,
    ⟨(some 23), .bin .neq .num (.t 20) (.t 22), some (18, false)⟩,
    ⟨(some 24), .pick (.t 18) (.c (.b true)) (.t 23), none⟩,
    ⟨(some 25), .mov (.t 24), none⟩,
    ⟨(some 26), .fieldAddr (.t 2) 3 ⟨1, false⟩, some (25, false)⟩,
    ⟨(some 27), .load false (some 2) ⟨1, false⟩ (.t 26), some (25, false)⟩,
    ⟨(some 28), .bi .lenL [(.t 27)], some (25, false)⟩,
    ⟨(some 29), .fieldAddr (.t 3) 3 ⟨1, false⟩, some (25, false)⟩,
    ⟨(some 30), .load false (some 3) ⟨1, false⟩ (.t 29), some (25, false)⟩,
    ⟨(some 31), .bi .lenL [(.t 30)], some (25, false)⟩,
    ⟨(some 32), .bin .neq .num (.t 28) (.t 31), some (25, false)⟩,
    ⟨(some 33), .pick (.t 25) (.c (.b true)) (.t 32), none⟩])
  ((.cond (.t 33) ((.seq (.ops [⟨(some 4), .mov (.c (.b false)), none⟩])
   (.ret)))
   (.skip)))))
  ((.seq ((.seq (.ops [⟨(some 5), .mov (.c (.i .i64 0)), none⟩])
  ((.block 0 [] (f_waferref11_Alike_L0)))))
  (f_waferref11_Alike_R1)))))), none, none⟩
def f_types_sizes_words : Fn := ⟨2, [(.t 4)], true,
  (.seq (.ops [⟨(some 3), .box true (.t 1), none⟩,
    ⟨(some 4), .mov (.c (.i .i64 0)), none⟩])
  ((.seq ((.block 0 [] ((.seq (.ops [⟨(some 7), .load false (some 3) ⟨4, true⟩ (.t 3), none⟩,
     ⟨(some 8), .call (.f 23) [(.t 7)], none⟩,
     ⟨(some 9), .un .not (.t 8), none⟩,
     ⟨(some 6), .mov (.t 9), none⟩])
   ((.cond (.t 6) ((.seq (.ops [⟨(some 4), .mov (.c (.i .i64 (-1))), none⟩])
    (.ret)))
    ((.seq (.ops [⟨(some 11), .fieldAddr (.t 3) 0 ⟨1, false⟩, none⟩,
      ⟨(some 12), .load false (some 3) ⟨1, false⟩ (.t 11), none⟩,
      ⟨(some 13), .bin .eql .num (.t 12) (.c (.i .i64 7)), none⟩,
      ⟨(some 10), .mov (.t 13), none⟩])
    ((.cond (.t 10) ((.seq (.ops [⟨(some 14), .mov (.mv 0), none⟩,
       ⟨(some 15), .fieldAddr (.t 3) 3 ⟨1, false⟩, none⟩,
       ⟨(some 16), .load false (some 3) ⟨1, false⟩ (.t 15), none⟩,
       ⟨(some 17), .indexAddr (.t 16) (.c (.i .i64 0)) 4 none, none⟩,
       ⟨(some 18), .load false none ⟨4, true⟩ (.t 17), none⟩,
       ⟨(some 19), .call (.f 31) [(.mv 14), (.t 18)], none⟩,
       ⟨(some 5), .mov (.mv 19), none⟩])
     ((.seq ((.seq (.ops [⟨(some 20), .mov (.t 5), none⟩,
       ⟨(some 21), .bin .lss .num (.t 20) (.c (.i .i64 0)), none⟩,
       ⟨(some 22), .mov (.t 21), none⟩,
       ⟨(some 23), .mov (.t 5), some (22, false)⟩,
       ⟨(some 24), .fieldAddr (.t 3) 1 ⟨1, false⟩, some (22, false)⟩,
       ⟨(some 25), .load false (some 3) ⟨1, false⟩ (.t 24), some (22, false)⟩,
       ⟨(some 26), .bin .quo .num (.c (.i .i64 16384)) (.t 25), some (22, false)⟩,
       ⟨(some 27), .bin .gtr .num (.t 23) (.t 26), some (22, false)⟩,
       ⟨(some 28), .pick (.t 22) (.c (.b true)) (.t 27), none⟩])
     ((.cond (.t 28) ((.seq (.ops [⟨(some 4), .mov (.c (.i .i64 (-1))), none⟩])
      (.ret)))
      (.skip)))))
     ((.seq (.ops [⟨(some 29), .mov (.t 5), none⟩,
       ⟨(some 30), .fieldAddr (.t 3) 1 ⟨1, false⟩, none⟩,
       ⟨(some 31), .load false (some 3) ⟨1, false⟩ (.t 30), none⟩,
       ⟨(some 32), .bin .mul .num (.t 29) (.t 31), none⟩,
       ⟨(some 4), .mov (.t 32), none⟩])
     (.ret)))))))
     ((.seq (.ops [⟨(some 34), .fieldAddr (.t 3) 0 ⟨1, false⟩, none⟩,
       ⟨(some 35), .load false (some 3) ⟨1, false⟩ (.t 34), none⟩,
       ⟨(some 36), .bin .eql .num (.t 35) (.c (.i .i64 8)), none⟩,
       ⟨(some 33), .mov (.t 36), none⟩])
     ((.cond (.t 33) ((.seq (.ops [⟨(some 37), .mov (.mv 0), none⟩,
        ⟨(some 38), .fieldAddr (.t 3) 2 ⟨1, false⟩, none⟩,
        ⟨(some 39), .load false (some 3) ⟨1, false⟩ (.t 38), none⟩,
        ⟨(some 40), .call (.f 38) [(.mv 37), (.t 39)], none⟩,
        ⟨(some 4), .mov (.mv 40), none⟩])
      (.ret)))
      (.skip)))))))))))))))
  ((.seq (.ops [⟨(some 4), .mov (.c (.i .i64 1)), none⟩])
  (.ret)))))), none, none⟩
def f_waferref11_words_B0 : C :=
  (.seq ((.seq (.ops [⟨(some 74), .mov (.t 15), none⟩,
    ⟨(some 75), .mov (.t 12), none⟩,
    ⟨(some 76), .bi .lenL [(.t 75)], none⟩,
    ⟨(some 77), .bin .lss .num (.t 74) (.t 76), none⟩])
  ((.cond (.t 77) (.skip)
   (.exit 1)))))
  ((.seq ((.block 2 [1, 2, 3, 12, 14, 15] ((.seq (.ops [⟨(some 81), .mov (.t 12), none⟩,
     ⟨(some 82), .mov (.t 15), none⟩,
     ⟨(some 83), .indexAddr (.t 81) (.t 82) 6 none, none⟩,
     ⟨(some 84), .fieldAddr (.t 83) 2 ⟨4, true⟩, none⟩,
     ⟨(some 85), .load false none ⟨4, true⟩ (.t 84), none⟩,
     ⟨(some 86), .mov (.t 1), none⟩,
     ⟨(some 87), .mov (.t 2), none⟩,
     ⟨(some 88), .call (.f 32) [(.t 85), (.t 86), (.t 87)], none⟩,
     ⟨(some 80), .mov (.t 88), none⟩,
     ⟨(some 89), .extract (.t 80) 0, none⟩,
     ⟨(some 90), .extract (.t 80) 1, none⟩,
     ⟨(some 16), .mov (.t 89), none⟩,
     ⟨(some 17), .mov (.t 90), none⟩])
   ((.seq ((.seq (.ops [⟨(some 91), .mov (.t 17), none⟩,
     ⟨(some 92), .un .not (.t 91), none⟩])
   ((.cond (.t 92) ((.seq (.ops [⟨(some 6), .mov (.c (.i .i64 0)), none⟩,
      ⟨(some 7), .mov (.c (.b false)), none⟩])
    (.ret)))
    (.skip)))))
   ((.seq (.ops [⟨(some 93), .mov (.t 14), none⟩,
     ⟨(some 94), .mov (.t 16), none⟩,
     ⟨(some 95), .bin .add .num (.t 93) (.t 94), none⟩,
     ⟨(some 14), .mov (.t 95), none⟩])
   ((.seq (.ops [⟨(some 96), .mov (.t 14), none⟩,
     ⟨(some 97), .bin .gtr .num (.t 96) (.c (.i .i64 16384)), none⟩])
   ((.cond (.t 97) ((.seq (.ops [⟨(some 6), .mov (.c (.i .i64 0)), none⟩,
      ⟨(some 7), .mov (.c (.b false)), none⟩])
    (.ret)))
    (.skip)))))))))))))
  (.ops [⟨(some 78), .mov (.t 15), none⟩,
    ⟨(some 79), .bin .add .num (.t 78) (.c (.i .i64 1)), none⟩,
    ⟨(some 15), .mov (.t 79), none⟩]))))
def f_waferref11_words_L0 : C := .loop [1, 2, 3, 12, 14, 15] f_waferref11_words_B0
noncomputable def f_waferref11_words_l0 (pg : Pg) (v1 v2 v3 v12 v14 v15 : V) (H : List Obj) (lo : Nat) : Option (Ex × St) := exL pg f_waferref11_words_L0 ⟨[(1, v1), (2, v2), (3, v3), (12, v12), (14, v14), (15, v15)], H, lo⟩
theorem f_waferref11_words_l0_in {pg : Pg} {e : Env} {H : List Obj} {lo : Nat} : exL pg f_waferref11_words_L0 ⟨e, H, lo⟩ = f_waferref11_words_l0 pg (keepV (get 1 e)) (keepV (get 2 e)) (keepV (get 3 e)) (keepV (get 12 e)) (keepV (get 14 e)) (keepV (get 15 e)) H lo := loop_in
theorem f_waferref11_words_l0_eq {pg : Pg} {v1 v2 v3 v12 v14 v15 : V} {H : List Obj} {lo : Nat} : f_waferref11_words_l0 pg v1 v2 v3 v12 v14 v15 H lo = thenC pg (exL pg f_waferref11_words_B0 ⟨[(1, keepV v1), (2, keepV v2), (3, keepV v3), (12, keepV v12), (14, keepV v14), (15, keepV v15)], H, lo⟩) f_waferref11_words_L0 := by
  unfold f_waferref11_words_l0 f_waferref11_words_L0; rw [exL_loop]; simp only [restrict_cons, restrict_nil, get_eq, get_ne, Nat.reduceEqDiff]
def f_waferref11_words_R1 : C :=
  (.seq (.ops [⟨(some 98), .mov (.t 2), none⟩,
       ⟨(some 99), .fieldAddr (.t 3) 2 ⟨1, false⟩, none⟩,
       ⟨(some 100), .load false (some 3) ⟨1, false⟩ (.t 99), none⟩,
       ⟨(some 101), .mov (.t 14), none⟩,
       ⟨none, .mapUpdate 2 (.t 98) (.t 100) (.t 101), none⟩])
     ((.seq (.ops [⟨(some 102), .mov (.t 14), none⟩,
       ⟨(some 6), .mov (.t 102), none⟩,
       ⟨(some 7), .mov (.c (.b true)), none⟩])
     (.ret))))
def f_waferref11_words_R2 : C :=
  (.seq (.ops [⟨(some 6), .mov (.c (.i .i64 1)), none⟩,
    ⟨(some 7), .mov (.c (.b true)), none⟩])
  (.ret))
def f_waferref11_words : Fn := ⟨3, [(.t 6), (.t 7)], false,
  (.seq (.ops [⟨(some 3), .box true (.t 0), none⟩,
    ⟨(some 6), .mov (.c (.i .i64 0)), none⟩,
    ⟨(some 7), .mov (.c (.b false)), none⟩])
  ((.seq ((.seq (.ops [⟨(some 18), .load false (some 3) ⟨4, true⟩ (.t 3), none⟩,
    ⟨(some 19), .call (.f 39) [(.t 18)], none⟩,
    ⟨(some 20), .un .not (.t 19), none⟩])
  ((.cond (.t 20) ((.seq (.ops [⟨(some 6), .mov (.c (.i .i64 0)), none⟩,
     ⟨(some 7), .mov (.c (.b false)), none⟩])
   (.ret)))
   (.skip)))))
  ((.seq ((.seq (.ops [⟨(some 21), .fieldAddr (.t 3) 0 ⟨1, false⟩, none⟩,
    ⟨(some 22), .load false (some 3) ⟨1, false⟩ (.t 21), none⟩])
  ((.block 0 [] ((.seq (.ops [⟨(some 24), .bin .eql .num (.t 22) (.c (.i .i64 7)), none⟩,
     ⟨(some 23), .mov (.t 24), none⟩])
   ((.cond (.t 23) ((.seq (.ops [⟨(some 26), .fieldAddr (.t 3) 3 ⟨1, false⟩, none⟩,
      ⟨(some 27), .load false (some 3) ⟨1, false⟩ (.t 26), none⟩,
      ⟨(some 28), .indexAddr (.t 27) (.c (.i .i64 0)) 4 none, none⟩,
      ⟨(some 29), .load false none ⟨4, true⟩ (.t 28), none⟩,
      ⟨(some 30), .mov (.mv 1), none⟩,
      ⟨(some 31), .mov (.mv 2), none⟩,
      ⟨(some 32), .call (.f 32) [(.t 29), (.mv 30), (.mv 31)], none⟩,
      ⟨(some 25), .mov (.t 32), none⟩,
      ⟨(some 33), .extract (.t 25) 0, none⟩,
      ⟨(some 34), .extract (.t 25) 1, none⟩,
      ⟨(some 8), .mov (.t 33), none⟩,
      ⟨(some 9), .mov (.t 34), none⟩])
    ((.seq ((.seq (.ops [⟨(some 35), .mov (.t 9), none⟩,
      ⟨(some 36), .un .not (.t 35), none⟩,
      ⟨(some 37), .mov (.t 36), none⟩,
      ⟨(some 38), .mov (.t 8), some (37, false)⟩,
      ⟨(some 39), .fieldAddr (.t 3) 1 ⟨1, false⟩, some (37, false)⟩,
      ⟨(some 40), .load false (some 3) ⟨1, false⟩ (.t 39), some (37, false)⟩,
      ⟨(some 41), .bin .mul .num (.t 38) (.t 40), some (37, false)⟩,
      ⟨(some 42), .bin .gtr .num (.t 41) (.c (.i .i64 16384)), some (37, false)⟩,
      ⟨(some 43), .pick (.t 37) (.c (.b true)) (.t 42), none⟩])
    ((.cond (.t 43) ((.seq (.ops [⟨(some 6), .mov (.c (.i .i64 0)), none⟩,
       ⟨(some 7), .mov (.c (.b false)), none⟩])
     (.ret)))
     (.skip)))))
    ((.seq (.ops [⟨(some 44), .mov (.t 8), none⟩,
      ⟨(some 45), .fieldAddr (.t 3) 1 ⟨1, false⟩, none⟩,
      ⟨(some 46), .load false (some 3) ⟨1, false⟩ (.t 45), none⟩,
      ⟨(some 47), .bin .mul .num (.t 44) (.t 46), none⟩,
      ⟨(some 6), .mov (.t 47), none⟩,
      ⟨(some 7), .mov (.c (.b true)), none⟩])
    (.ret)))))))
    ((.seq (.ops [⟨(some 49), .bin .eql .num (.t 22) (.c (.i .i64 8)), none⟩,
      ⟨(some 48), .mov (.t 49), none⟩])
    ((.cond (.t 48) ((.seq ((.seq (.ops [⟨(some 51), .mov (.t 2), none⟩,
       ⟨(some 52), .fieldAddr (.t 3) 2 ⟨1, false⟩, none⟩,
       ⟨(some 53), .load false (some 3) ⟨1, false⟩ (.t 52), none⟩,
       ⟨(some 54), .lookup 2 (.i .i64 0) (.t 51) (.t 53) true, none⟩,
       ⟨(some 50), .mov (.t 54), none⟩,
       ⟨(some 55), .extract (.t 50) 0, none⟩,
       ⟨(some 56), .extract (.t 50) 1, none⟩,
       ⟨(some 10), .mov (.t 55), none⟩,
       ⟨(some 11), .mov (.t 56), none⟩])
     ((.seq (.ops [⟨(some 57), .mov (.t 11), none⟩])
     ((.cond (.t 57) ((.seq (.ops [⟨(some 58), .mov (.t 10), none⟩,
        ⟨(some 59), .bi .max [(.t 58), (.c (.i .i64 0))], none⟩,
        ⟨(some 60), .mov (.t 10), none⟩,
        ⟨(some 61), .bin .geq .num (.t 60) (.c (.i .i64 0)), none⟩,
        ⟨(some 6), .mov (.t 59), none⟩,
        ⟨(some 7), .mov (.t 61), none⟩])
      (.ret)))
      (.skip)))))))
     ((.seq (.ops [⟨(some 62), .mov (.t 2), none⟩,
       ⟨(some 63), .fieldAddr (.t 3) 2 ⟨1, false⟩, none⟩,
       ⟨(some 64), .load false (some 3) ⟨1, false⟩ (.t 63), none⟩,
       ⟨none, .mapUpdate 2 (.t 62) (.t 64) (.c (.i .i64 (-1))), none⟩])
     ((.seq (.ops [⟨(some 66), .fieldAddr (.t 3) 2 ⟨1, false⟩, none⟩,
       ⟨(some 67), .load false (some 3) ⟨1, false⟩ (.t 66), none⟩,
       ⟨(some 68), .mov (.t 1), none⟩,
       ⟨(some 69), .call (.f 11) [(.t 67), (.t 68)], none⟩,
       ⟨(some 65), .mov (.t 69), none⟩,
       ⟨(some 70), .extract (.t 65) 0, none⟩,
       ⟨(some 71), .extract (.t 65) 1, none⟩,
       ⟨(some 12), .mov (.t 70), none⟩,
       ⟨(some 13), .mov (.t 71), none⟩])
     ((.seq ((.seq (.ops [⟨(some 72), .mov (.t 13), none⟩,
       ⟨(some 73), .un .not (.t 72), none⟩])
     ((.cond (.t 73) ((.seq (.ops [⟨(some 6), .mov (.c (.i .i64 0)), none⟩,
        ⟨(some 7), .mov (.c (.b false)), none⟩])
      (.ret)))
      (.skip)))))
     ((.seq (.ops [⟨(some 14), .mov (.c (.i .i64 0)), none⟩])
     ((.seq ((.seq (.ops [⟨(some 15), .mov (.c (.i .i64 0)), none⟩])
     ((.block 1 [2, 3, 14] (f_waferref11_words_L0)))))
     (f_waferref11_words_R1)))))))))))))
     (.skip)))))))))))))
  (f_waferref11_words_R2)))))), none, none⟩
def f_types_plain : Fn := ⟨1, [(.t 2)], true,
  (.seq (.ops [⟨(some 2), .mov (.c (.b false)), none⟩])
  ((.seq (.ops [⟨(some 3), .mov (.t 0), none⟩,
    ⟨(some 4), .bin .geq .num (.t 3) (.c (.i .i64 1)), none⟩,
    ⟨(some 5), .mov (.t 4), none⟩,
    ⟨(some 6), .mov (.t 0), some (5, true)⟩,
    ⟨(some 7), .bin .leq .num (.t 6) (.c (.i .i64 4)), some (5, true)⟩,
    ⟨(some 8), .pick (.t 5) (.t 7) (.c (.b false)), none⟩,
    ⟨(some 2), .mov (.t 8), none⟩])
  (.ret)))), none, none⟩
def f_waferref11_Same_B0 : C :=
  (.seq ((.seq (.ops [⟨(some 29), .mov (.t 5), none⟩,
    ⟨(some 30), .fieldAddr (.t 2) 3 ⟨1, false⟩, none⟩,
    ⟨(some 31), .load false (some 2) ⟨1, false⟩ (.t 30), none⟩,
    ⟨(some 32), .bi .lenL [(.t 31)], none⟩,
    ⟨(some 33), .bin .lss .num (.t 29) (.t 32), none⟩])
  ((.cond (.t 33) (.skip)
   (.exit 1)))))
  ((.seq ((.block 2 [2, 3, 5] ((.seq (.opsD [(⟨(some 36), .fieldAddr (.t 2) 3 ⟨1, false⟩, none⟩, false, []),
     (⟨(some 37), .load false (some 2) ⟨1, false⟩ (.t 36), none⟩, false, []),
     (⟨(some 38), .mov (.t 5), none⟩, false, []),
     (⟨(some 39), .indexAddr (.t 37) (.t 38) 4 none, none⟩, false, []),
     (⟨(some 40), .load false none ⟨4, true⟩ (.t 39), none⟩, false, []),
     (⟨(some 41), .fieldAddr (.t 3) 3 ⟨1, false⟩, none⟩, false, []),
     (⟨(some 42), .load false (some 3) ⟨1, false⟩ (.t 41), none⟩, false, []),
     (⟨(some 43), .mov (.t 5), none⟩, false, []),
     (⟨(some 44), .indexAddr (.t 42) (.t 43) 4 none, none⟩, false, []),
     (⟨(some 45), .load false none ⟨4, true⟩ (.t 44), none⟩, false, []),
     (⟨(some 46), .call (.f 34) [(.t 40), (.t 45)], none⟩, true, []),
     (⟨(some 47), .un .not (.t 46), none⟩, true, [])])
   ((.cond (.t 47) ((.seq (.ops [⟨(some 4), .mov (.c (.b false)), none⟩])
    (.ret)))
    (.skip)))))))
  (.ops [⟨(some 34), .mov (.t 5), none⟩,
    ⟨(some 35), .bin .add .num (.t 34) (.c (.i .i64 1)), none⟩,
    ⟨(some 5), .mov (.t 35), none⟩]))))
def f_waferref11_Same_L0 : C := .loop [2, 3, 5] f_waferref11_Same_B0
noncomputable def f_waferref11_Same_l0 (pg : Pg) (v2 v3 v5 : V) (H : List Obj) (lo : Nat) : Option (Ex × St) := exL pg f_waferref11_Same_L0 ⟨[(2, v2), (3, v3), (5, v5)], H, lo⟩
theorem f_waferref11_Same_l0_in {pg : Pg} {e : Env} {H : List Obj} {lo : Nat} : exL pg f_waferref11_Same_L0 ⟨e, H, lo⟩ = f_waferref11_Same_l0 pg (keepV (get 2 e)) (keepV (get 3 e)) (keepV (get 5 e)) H lo := loop_in
theorem f_waferref11_Same_l0_eq {pg : Pg} {v2 v3 v5 : V} {H : List Obj} {lo : Nat} : f_waferref11_Same_l0 pg v2 v3 v5 H lo = thenC pg (exL pg f_waferref11_Same_B0 ⟨[(2, keepV v2), (3, keepV v3), (5, keepV v5)], H, lo⟩) f_waferref11_Same_L0 := by
  unfold f_waferref11_Same_l0 f_waferref11_Same_L0; rw [exL_loop]; simp only [restrict_cons, restrict_nil, get_eq, get_ne, Nat.reduceEqDiff]
def f_waferref11_Same_R1 : C :=
  (.seq (.ops [⟨(some 4), .mov (.c (.b true)), none⟩])
    (.ret))
def f_waferref11_Same_R2 : C :=
  (.seq (.ops [⟨(some 4), .mov (.c (.b true)), none⟩])
  (.ret))
def f_waferref11_Same : Fn := ⟨2, [(.t 4)], true,
  (.seq (.ops [⟨(some 2), .box true (.t 0), none⟩,
    ⟨(some 3), .box true (.t 1), none⟩,
    ⟨(some 4), .mov (.c (.b false)), none⟩])
  ((.seq ((.seq (.ops [⟨(some 6), .fieldAddr (.t 2) 0 ⟨1, false⟩, none⟩,
    ⟨(some 7), .load false (some 2) ⟨1, false⟩ (.t 6), none⟩,
    ⟨(some 8), .fieldAddr (.t 3) 0 ⟨1, false⟩, none⟩,
    ⟨(some 9), .load false (some 3) ⟨1, false⟩ (.t 8), none⟩,
    ⟨(some 10), .bin .neq .num (.t 7) (.t 9), none⟩])
  ((.cond (.t 10) ((.seq (.ops [⟨(some 4), .mov (.c (.b false)), none⟩])
   (.ret)))
   (.skip)))))
  ((.seq ((.seq (.ops [⟨(some 11), .fieldAddr (.t 2) 0 ⟨1, false⟩, none⟩,
    ⟨(some 12), .load false (some 2) ⟨1, false⟩ (.t 11), none⟩])
  ((.block 0 [] ((.seq (.ops [⟨(some 14), .bin .eql .num (.t 12) (.c (.i .i64 7)), none⟩,
     ⟨(some 13), .mov (.t 14), none⟩])
   ((.cond (.t 13) ((.seq ((.seq (.ops [⟨(some 15), .fieldAddr (.t 2) 1 ⟨1, false⟩, none⟩,
      ⟨(some 16), .load false (some 2) ⟨1, false⟩ (.t 15), none⟩,
      ⟨(some 17), .fieldAddr (.t 3) 1 ⟨1, false⟩, none⟩,
      ⟨(some 18), .load false (some 3) ⟨1, false⟩ (.t 17), none⟩,
      ⟨(some 19), .bin .neq .num (.t 16) (.t 18), none⟩,
      ⟨(some 20), .mov (.t 19), none⟩,
      ⟨(some 21), .fieldAddr (.t 2) 3 ⟨1, false⟩, some (20, false)⟩,
      ⟨(some 22), .load false (some 2) ⟨1, false⟩ (.t 21), some (20, false)⟩,
      ⟨(some 23), .bi .lenL [(.t 22)], some (20, false)⟩,
      ⟨(some 24), .fieldAddr (.t 3) 3 ⟨1, false⟩, some (20, false)⟩,
      ⟨(some 25), .load false (some 3) ⟨1, false⟩ (.t 24), some (20, false)⟩,
      ⟨(some 26), .bi .lenL [(.t 25)], some (20, false)⟩,
      ⟨(some 27), .bin .neq .num (.t 23) (.t 26), some (20, false)⟩,
      ⟨(some 28), .pick (.t 20) (.c (.b true)) (.t 27), none⟩])
    ((.cond (.t 28) ((.seq (.ops [⟨(some 4), .mov (.c (.b false)), none⟩])
     (.ret)))
     (.skip)))))
    ((.seq ((.seq (.ops [⟨(some 5), .mov (.c (.i .i64 0)), none⟩])
    ((.block 1 [] (f_waferref11_Same_L0)))))
    (f_waferref11_Same_R1)))))
    ((.seq ((.seq (.ops [⟨(some 49), .bin .eql .num (.t 12) (.c (.i .i64 8)), none⟩,
      ⟨(some 48), .mov (.t 49), none⟩])
    ((.cond (.t 48) (.skip)
     (.ops [⟨(some 50), .bin .eql .num (.t 12) (.c (.i .i64 9)), none⟩,
       ⟨(some 48), .mov (.t 50), none⟩])))))
    ((.cond (.t 48) ((.seq (.ops [⟨(some 51), .fieldAddr (.t 2) 2 ⟨1, false⟩, none⟩,
       ⟨(some 52), .load false (some 2) ⟨1, false⟩ (.t 51), none⟩,
       ⟨(some 53), .fieldAddr (.t 3) 2 ⟨1, false⟩, none⟩,
       ⟨(some 54), .load false (some 3) ⟨1, false⟩ (.t 53), none⟩,
       ⟨(some 55), .bin .eql .num (.t 52) (.t 54), none⟩,
       ⟨(some 4), .mov (.t 55), none⟩])
     (.ret)))
     (.skip)))))))))))))
  (f_waferref11_Same_R2)))))), none, none⟩
def f_strconv_Itoa : Fn := ⟨1, [(.t 2)], true,
  (.seq (.ops [⟨(some 2), .mov (.c (.s [])), none⟩])
  ((.seq (.ops [⟨(some 3), .mov (.mv 0), none⟩,
    ⟨(some 4), .call (.f 40) [(.mv 3)], none⟩,
    ⟨(some 2), .mov (.mv 4), none⟩])
  (.ret)))), none, none⟩
def f_slices_EqualFunc___api_Type___api_Type_api_Type_api_Type__B0 : C :=
  (.seq (.ops [⟨(some 18), .bin .lss .num (.t 17) (.t 16), none⟩])
  ((.seq ((.cond (.t 18) (.skip)
   (.exit 0)))
  ((.seq ((.block 1 [1, 2, 15, 16, 17] ((.seq (.ops [⟨(some 19), .mov (.t 17), none⟩,
     ⟨(some 20), .indexAddr (.t 15) (.t 17) 4 none, none⟩,
     ⟨(some 21), .load false none ⟨4, true⟩ (.t 20), none⟩,
     ⟨(some 8), .alloc true [(.i .i64 0), (.i .i64 0), (.s []), .nil], none⟩,
     ⟨(some 7), .mov (.t 19), none⟩,
     ⟨none, .store (some 8) ⟨4, true⟩ (.t 8) (.t 21), none⟩])
   ((.seq (.ops [⟨(some 22), .mov (.t 1), none⟩,
     ⟨(some 23), .mov (.t 7), none⟩,
     ⟨(some 24), .indexAddr (.t 22) (.t 23) 4 none, none⟩,
     ⟨(some 25), .load false none ⟨4, true⟩ (.t 24), none⟩,
     ⟨(some 9), .alloc true [(.i .i64 0), (.i .i64 0), (.s []), .nil], none⟩,
     ⟨none, .store (some 9) ⟨4, true⟩ (.t 9) (.t 25), none⟩])
   ((.seq (.ops [⟨(some 26), .mov (.t 2), none⟩,
     ⟨(some 27), .load false (some 8) ⟨4, true⟩ (.t 8), none⟩,
     ⟨(some 28), .load false (some 9) ⟨4, true⟩ (.t 9), none⟩,
     ⟨(some 29), .call (.t 26) [(.t 27), (.t 28)], none⟩,
     ⟨(some 30), .un .not (.t 29), none⟩])
   ((.cond (.t 30) ((.seq (.ops [⟨(some 6), .mov (.c (.b false)), none⟩])
    (.ret)))
    (.skip)))))))))))
  (.ops [⟨(some 31), .bin .add .num (.t 17) (.c (.i .i64 1)), none⟩,
    ⟨(some 17), .mov (.t 31), none⟩]))))))
def f_slices_EqualFunc___api_Type___api_Type_api_Type_api_Type__L0 : C := .loop [1, 2, 15, 16, 17] f_slices_EqualFunc___api_Type___api_Type_api_Type_api_Type__B0
noncomputable def f_slices_EqualFunc___api_Type___api_Type_api_Type_api_Type__l0 (pg : Pg) (v1 v2 v15 v16 v17 : V) (H : List Obj) (lo : Nat) : Option (Ex × St) := exL pg f_slices_EqualFunc___api_Type___api_Type_api_Type_api_Type__L0 ⟨[(1, v1), (2, v2), (15, v15), (16, v16), (17, v17)], H, lo⟩
theorem f_slices_EqualFunc___api_Type___api_Type_api_Type_api_Type__l0_in {pg : Pg} {e : Env} {H : List Obj} {lo : Nat} : exL pg f_slices_EqualFunc___api_Type___api_Type_api_Type_api_Type__L0 ⟨e, H, lo⟩ = f_slices_EqualFunc___api_Type___api_Type_api_Type_api_Type__l0 pg (keepV (get 1 e)) (keepV (get 2 e)) (keepV (get 15 e)) (keepV (get 16 e)) (keepV (get 17 e)) H lo := loop_in
theorem f_slices_EqualFunc___api_Type___api_Type_api_Type_api_Type__l0_eq {pg : Pg} {v1 v2 v15 v16 v17 : V} {H : List Obj} {lo : Nat} : f_slices_EqualFunc___api_Type___api_Type_api_Type_api_Type__l0 pg v1 v2 v15 v16 v17 H lo = thenC pg (exL pg f_slices_EqualFunc___api_Type___api_Type_api_Type_api_Type__B0 ⟨[(1, keepV v1), (2, keepV v2), (15, keepV v15), (16, keepV v16), (17, keepV v17)], H, lo⟩) f_slices_EqualFunc___api_Type___api_Type_api_Type_api_Type__L0 := by
  unfold f_slices_EqualFunc___api_Type___api_Type_api_Type_api_Type__l0 f_slices_EqualFunc___api_Type___api_Type_api_Type_api_Type__L0; rw [exL_loop]; simp only [restrict_cons, restrict_nil, get_eq, get_ne, Nat.reduceEqDiff]
def f_slices_EqualFunc___api_Type___api_Type_api_Type_api_Type__R1 : C :=
  (.seq (.ops [⟨(some 6), .mov (.c (.b true)), none⟩])
  (.ret))
def f_slices_EqualFunc___api_Type___api_Type_api_Type_api_Type_ : Fn := ⟨3, [(.t 6)], true,
  (.seq (.ops [⟨(some 6), .mov (.c (.b false)), none⟩])
  ((.seq ((.seq (.ops [⟨(some 10), .mov (.t 0), none⟩,
    ⟨(some 11), .bi .lenL [(.t 10)], none⟩,
    ⟨(some 12), .mov (.t 1), none⟩,
    ⟨(some 13), .bi .lenL [(.t 12)], none⟩,
    ⟨(some 14), .bin .neq .num (.t 11) (.t 13), none⟩])
  ((.cond (.t 14) ((.seq (.ops [⟨(some 6), .mov (.c (.b false)), none⟩])
   (.ret)))
   (.skip)))))
  ((.seq ((.seq (.ops [⟨(some 15), .mov (.t 0), none⟩,
    ⟨(some 16), .bi .lenL [(.t 15)], none⟩,
    ⟨(some 17), .mov (.c (.i .i64 0)), none⟩])
  ((.block 0 [] (f_slices_EqualFunc___api_Type___api_Type_api_Type_api_Type__L0)))))
  (f_slices_EqualFunc___api_Type___api_Type_api_Type_api_Type__R1)))))), none, none⟩
def f_slices_Backward___api_Rec_api_Rec__1_B0 : C :=
  (.seq ((.seq (.ops [⟨(some 7), .mov (.t 3), none⟩,
    ⟨(some 8), .bin .geq .num (.t 7) (.c (.i .i64 0)), none⟩])
  ((.cond (.t 8) (.skip)
   (.exit 0)))))
  ((.seq ((.block 1 [0, 1, 3] ((.seq (.ops [⟨(some 11), .mov (.t 0), none⟩,
     ⟨(some 12), .mov (.t 3), none⟩,
     ⟨(some 13), .load false none ⟨1, false⟩ (.t 1), none⟩,
     ⟨(some 14), .mov (.t 3), none⟩,
     ⟨(some 15), .indexAddr (.t 13) (.t 14) 4 none, none⟩,
     ⟨(some 16), .load false none ⟨4, true⟩ (.t 15), none⟩,
     ⟨(some 17), .call (.t 11) [(.t 12), (.t 16)], none⟩,
     ⟨(some 18), .un .not (.t 17), none⟩])
   ((.cond (.t 18) (.ret)
    (.skip)))))))
  (.ops [⟨(some 9), .mov (.t 3), none⟩,
    ⟨(some 10), .bin .sub .num (.t 9) (.c (.i .i64 1)), none⟩,
    ⟨(some 3), .mov (.t 10), none⟩]))))
def f_slices_Backward___api_Rec_api_Rec__1_L0 : C := .loop [0, 1, 3] f_slices_Backward___api_Rec_api_Rec__1_B0
noncomputable def f_slices_Backward___api_Rec_api_Rec__1_l0 (pg : Pg) (v0 v1 v3 : V) (H : List Obj) (lo : Nat) : Option (Ex × St) := exL pg f_slices_Backward___api_Rec_api_Rec__1_L0 ⟨[(0, v0), (1, v1), (3, v3)], H, lo⟩
theorem f_slices_Backward___api_Rec_api_Rec__1_l0_in {pg : Pg} {e : Env} {H : List Obj} {lo : Nat} : exL pg f_slices_Backward___api_Rec_api_Rec__1_L0 ⟨e, H, lo⟩ = f_slices_Backward___api_Rec_api_Rec__1_l0 pg (keepV (get 0 e)) (keepV (get 1 e)) (keepV (get 3 e)) H lo := loop_in
theorem f_slices_Backward___api_Rec_api_Rec__1_l0_eq {pg : Pg} {v0 v1 v3 : V} {H : List Obj} {lo : Nat} : f_slices_Backward___api_Rec_api_Rec__1_l0 pg v0 v1 v3 H lo = thenC pg (exL pg f_slices_Backward___api_Rec_api_Rec__1_B0 ⟨[(0, keepV v0), (1, keepV v1), (3, keepV v3)], H, lo⟩) f_slices_Backward___api_Rec_api_Rec__1_L0 := by
  unfold f_slices_Backward___api_Rec_api_Rec__1_l0 f_slices_Backward___api_Rec_api_Rec__1_L0; rw [exL_loop]; simp only [restrict_cons, restrict_nil, get_eq, get_ne, Nat.reduceEqDiff]
def f_slices_Backward___api_Rec_api_Rec__1 : Fn := ⟨2, [], false,
  (.seq (.ops [⟨(some 4), .load false none ⟨1, false⟩ (.t 1), none⟩,
    ⟨(some 5), .bi .lenL [(.t 4)], none⟩,
    ⟨(some 6), .bin .sub .num (.t 5) (.c (.i .i64 1)), none⟩,
    ⟨(some 3), .mov (.t 6), none⟩])
  ((.block 0 [] (f_slices_Backward___api_Rec_api_Rec__1_L0)))), none, none⟩
def f_types_sizes_record_B0 : C :=
  (.seq (.ops [⟨(some 52), .bin .lss .num (.t 51) (.t 50), none⟩])
  ((.seq ((.cond (.t 52) (.skip)
   (.exit 2)))
  ((.seq ((.block 3 [0, 1, 9, 42, 43, 44, 49, 50, 51] ((.seq (.ops [⟨(some 53), .indexAddr (.t 49) (.t 51) 6 none, none⟩,
     ⟨(some 54), .load false none ⟨6, true⟩ (.t 53), none⟩,
     ⟨(some 13), .alloc true [(.s []), (.b false), (.i .i64 0), (.i .i64 0), (.s []), .nil], none⟩,
     ⟨none, .store (some 13) ⟨6, true⟩ (.t 13) (.t 54), none⟩])
   ((.seq (.ops [⟨(some 55), .mov (.t 0), none⟩,
     ⟨(some 56), .fieldAddr (.t 13) 2 ⟨4, true⟩, none⟩,
     ⟨(some 57), .load false (some 13) ⟨4, true⟩ (.t 56), none⟩,
     ⟨(some 58), .call (.f 31) [(.t 55), (.t 57)], none⟩,
     ⟨(some 14), .mov (.mv 58), none⟩])
   ((.seq (.ops [⟨(some 59), .mov (.t 9), none⟩,
     ⟨(some 60), .mov (.t 14), none⟩,
     ⟨(some 61), .bin .add .num (.t 59) (.t 60), none⟩,
     ⟨(some 9), .mov (.t 61), none⟩])
   ((.seq (.ops [⟨(some 62), .mov (.t 14), none⟩,
     ⟨(some 63), .bin .lss .num (.t 62) (.c (.i .i64 0)), none⟩,
     ⟨(some 64), .mov (.t 63), none⟩,
     ⟨(some 65), .mov (.t 9), some (64, false)⟩,
     ⟨(some 66), .bin .gtr .num (.t 65) (.c (.i .i64 16384)), some (64, false)⟩,
     ⟨(some 67), .pick (.t 64) (.c (.b true)) (.t 66), none⟩])
   ((.cond (.t 67) ((.seq (.ops [⟨(some 4), .mov (.c (.i .i64 (-1))), none⟩])
    (.ret)))
    (.skip)))))))))))))
  (.ops [⟨(some 68), .bin .add .num (.t 51) (.c (.i .i64 1)), none⟩,
    ⟨(some 51), .mov (.t 68), none⟩]))))))
def f_types_sizes_record_L0 : C := .loop [0, 1, 9, 42, 43, 44, 49, 50, 51] f_types_sizes_record_B0
noncomputable def f_types_sizes_record_l0 (pg : Pg) (v0 v1 v9 v42 v43 v44 v49 v50 v51 : V) (H : List Obj) (lo : Nat) : Option (Ex × St) := exL pg f_types_sizes_record_L0 ⟨[(0, v0), (1, v1), (9, v9), (42, v42), (43, v43), (44, v44), (49, v49), (50, v50), (51, v51)], H, lo⟩
theorem f_types_sizes_record_l0_in {pg : Pg} {e : Env} {H : List Obj} {lo : Nat} : exL pg f_types_sizes_record_L0 ⟨e, H, lo⟩ = f_types_sizes_record_l0 pg (keepV (get 0 e)) (keepV (get 1 e)) (keepV (get 9 e)) (keepV (get 42 e)) (keepV (get 43 e)) (keepV (get 44 e)) (keepV (get 49 e)) (keepV (get 50 e)) (keepV (get 51 e)) H lo := loop_in
theorem f_types_sizes_record_l0_eq {pg : Pg} {v0 v1 v9 v42 v43 v44 v49 v50 v51 : V} {H : List Obj} {lo : Nat} : f_types_sizes_record_l0 pg v0 v1 v9 v42 v43 v44 v49 v50 v51 H lo = thenC pg (exL pg f_types_sizes_record_B0 ⟨[(0, keepV v0), (1, keepV v1), (9, keepV v9), (42, keepV v42), (43, keepV v43), (44, keepV v44), (49, keepV v49), (50, keepV v50), (51, keepV v51)], H, lo⟩) f_types_sizes_record_L0 := by
  unfold f_types_sizes_record_l0 f_types_sizes_record_L0; rw [exL_loop]; simp only [restrict_cons, restrict_nil, get_eq, get_ne, Nat.reduceEqDiff]
def f_types_sizes_record_R1 : C :=
  .ops [⟨(some 69), .bin .add .num (.t 44) (.c (.i .i64 1)), none⟩,
    ⟨(some 44), .mov (.t 69), none⟩]
def f_types_sizes_record_B2 : C :=
  (.seq (.ops [⟨(some 45), .bin .lss .num (.t 44) (.t 43), none⟩])
  ((.seq ((.cond (.t 45) (.skip)
   (.exit 0)))
  ((.seq ((.block 1 [0, 1, 9, 42, 43, 44] ((.seq (.ops [⟨(some 46), .indexAddr (.t 42) (.t 44) 4 none, none⟩,
     ⟨(some 47), .load false none ⟨4, true⟩ (.t 46), none⟩,
     ⟨(some 11), .alloc true [(.s []), (.b false), (.s []), .nil], none⟩,
     ⟨none, .store (some 11) ⟨4, true⟩ (.t 11) (.t 47), none⟩])
   ((.seq (.ops [⟨(some 48), .fieldAddr (.t 11) 3 ⟨1, false⟩, none⟩,
     ⟨(some 49), .load false (some 11) ⟨1, false⟩ (.t 48), none⟩,
     ⟨(some 50), .bi .lenL [(.t 49)], none⟩,
     ⟨(some 51), .mov (.c (.i .i64 0)), none⟩])
   ((.block 2 [0, 1, 9, 42, 43, 44] (f_types_sizes_record_L0)))))))))
  (f_types_sizes_record_R1))))))
def f_types_sizes_record_L2 : C := .loop [0, 1, 9, 42, 43, 44] f_types_sizes_record_B2
noncomputable def f_types_sizes_record_l2 (pg : Pg) (v0 v1 v9 v42 v43 v44 : V) (H : List Obj) (lo : Nat) : Option (Ex × St) := exL pg f_types_sizes_record_L2 ⟨[(0, v0), (1, v1), (9, v9), (42, v42), (43, v43), (44, v44)], H, lo⟩
theorem f_types_sizes_record_l2_in {pg : Pg} {e : Env} {H : List Obj} {lo : Nat} : exL pg f_types_sizes_record_L2 ⟨e, H, lo⟩ = f_types_sizes_record_l2 pg (keepV (get 0 e)) (keepV (get 1 e)) (keepV (get 9 e)) (keepV (get 42 e)) (keepV (get 43 e)) (keepV (get 44 e)) H lo := loop_in
theorem f_types_sizes_record_l2_eq {pg : Pg} {v0 v1 v9 v42 v43 v44 : V} {H : List Obj} {lo : Nat} : f_types_sizes_record_l2 pg v0 v1 v9 v42 v43 v44 H lo = thenC pg (exL pg f_types_sizes_record_B2 ⟨[(0, keepV v0), (1, keepV v1), (9, keepV v9), (42, keepV v42), (43, keepV v43), (44, keepV v44)], H, lo⟩) f_types_sizes_record_L2 := by
  unfold f_types_sizes_record_l2 f_types_sizes_record_L2; rw [exL_loop]; simp only [restrict_cons, restrict_nil, get_eq, get_ne, Nat.reduceEqDiff]
def f_types_sizes_record_R3 : C :=
  (.seq (.ops [⟨(some 70), .mov (.t 0), none⟩,
    ⟨(some 71), .nilCheck (.t 70), none⟩,
    ⟨(some 72), .fieldAddr (.t 71) 1 ⟨1, false⟩, none⟩,
    ⟨(some 73), .load false none ⟨1, false⟩ (.t 72), none⟩,
    ⟨(some 74), .mov (.t 1), none⟩,
    ⟨(some 75), .mov (.t 9), none⟩,
    ⟨none, .mapUpdate 2 (.t 73) (.t 74) (.t 75), none⟩])
  ((.seq (.ops [⟨(some 76), .mov (.t 9), none⟩,
    ⟨(some 4), .mov (.t 76), none⟩])
  (.ret))))
def f_types_sizes_record : Fn := ⟨2, [(.t 4)], true,
  (.seq (.ops [⟨(some 4), .mov (.c (.i .i64 0)), none⟩])
  ((.seq ((.seq (.ops [⟨(some 16), .mov (.t 0), none⟩,
    ⟨(some 17), .nilCheck (.t 16), none⟩,
    ⟨(some 18), .fieldAddr (.t 17) 1 ⟨1, false⟩, none⟩,
    ⟨(some 19), .load false none ⟨1, false⟩ (.t 18), none⟩,
    ⟨(some 20), .mov (.t 1), none⟩,
    ⟨(some 21), .lookup 2 (.i .i64 0) (.t 19) (.t 20) true, none⟩,
    ⟨(some 15), .mov (.t 21), none⟩,
    ⟨(some 22), .extract (.t 15) 0, none⟩,
    ⟨(some 23), .extract (.t 15) 1, none⟩,
    ⟨(some 5), .mov (.t 22), none⟩,
    ⟨(some 6), .mov (.t 23), none⟩])
  ((.seq (.ops [⟨(some 24), .mov (.t 6), none⟩])
  ((.cond (.t 24) ((.seq (.ops [⟨(some 25), .mov (.t 5), none⟩,
     ⟨(some 4), .mov (.t 25), none⟩])
   (.ret)))
   (.skip)))))))
  ((.seq (.ops [⟨(some 26), .mov (.t 0), none⟩,
    ⟨(some 27), .nilCheck (.t 26), none⟩,
    ⟨(some 28), .fieldAddr (.t 27) 1 ⟨1, false⟩, none⟩,
    ⟨(some 29), .load false none ⟨1, false⟩ (.t 28), none⟩,
    ⟨(some 30), .mov (.t 1), none⟩,
    ⟨none, .mapUpdate 2 (.t 29) (.t 30) (.c (.i .i64 (-1))), none⟩])
  ((.seq (.ops [⟨(some 32), .mov (.t 1), none⟩,
    ⟨(some 33), .mov (.t 0), none⟩,
    ⟨(some 34), .nilCheck (.t 33), none⟩,
    ⟨(some 35), .fieldAddr (.t 34) 0 ⟨1, false⟩, none⟩,
    ⟨(some 36), .load false none ⟨1, false⟩ (.t 35), none⟩,
    ⟨(some 37), .call (.f 26) [(.t 32), (.t 36)], none⟩,
    ⟨(some 31), .mov (.t 37), none⟩,
    ⟨(some 38), .extract (.t 31) 0, none⟩,
    ⟨(some 39), .extract (.t 31) 1, none⟩,
    ⟨(some 7), .mov (.t 38), none⟩,
    ⟨(some 8), .mov (.t 39), none⟩])
  ((.seq ((.seq (.ops [⟨(some 40), .mov (.t 8), none⟩,
    ⟨(some 41), .un .not (.t 40), none⟩])
  ((.cond (.t 41) ((.seq (.ops [⟨(some 4), .mov (.c (.i .i64 (-1))), none⟩])
   (.ret)))
   (.skip)))))
  ((.seq (.ops [⟨(some 9), .mov (.c (.i .i64 0)), none⟩])
  ((.seq ((.seq (.ops [⟨(some 42), .mov (.t 7), none⟩,
    ⟨(some 43), .bi .lenL [(.t 42)], none⟩,
    ⟨(some 44), .mov (.c (.i .i64 0)), none⟩])
  ((.block 0 [0, 1, 9] (f_types_sizes_record_L2)))))
  (f_types_sizes_record_R3)))))))))))))), none, none⟩
def f_waferref11_Right : Fn := ⟨1, [(.t 2)], true,
  (.seq (.ops [⟨(some 1), .box true (.t 0), none⟩,
    ⟨(some 2), .mov (.c (.b false)), none⟩])
  ((.seq ((.seq (.ops [⟨(some 3), .fieldAddr (.t 1) 0 ⟨1, false⟩, none⟩,
    ⟨(some 4), .load false (some 1) ⟨1, false⟩ (.t 3), none⟩])
  ((.block 0 [] ((.seq ((.seq (.ops [⟨(some 6), .bin .eql .num (.t 4) (.c (.i .i64 1)), none⟩,
     ⟨(some 5), .mov (.t 6), none⟩])
   ((.cond (.t 5) (.skip)
    ((.seq (.ops [⟨(some 7), .bin .eql .num (.t 4) (.c (.i .i64 2)), none⟩,
      ⟨(some 5), .mov (.t 7), none⟩])
    ((.cond (.t 5) (.skip)
     ((.seq (.ops [⟨(some 8), .bin .eql .num (.t 4) (.c (.i .i64 3)), none⟩,
       ⟨(some 5), .mov (.t 8), none⟩])
     ((.cond (.t 5) (.skip)
      (.ops [⟨(some 9), .bin .eql .num (.t 4) (.c (.i .i64 4)), none⟩,
        ⟨(some 5), .mov (.t 9), none⟩])))))))))))))
   ((.cond (.t 5) ((.seq (.ops [⟨(some 10), .fieldAddr (.t 1) 1 ⟨1, false⟩, none⟩,
      ⟨(some 11), .load false (some 1) ⟨1, false⟩ (.t 10), none⟩,
      ⟨(some 12), .bin .eql .num (.t 11) (.c (.i .i64 0)), none⟩,
      ⟨(some 13), .mov (.t 12), none⟩,
      ⟨(some 14), .fieldAddr (.t 1) 2 ⟨1, false⟩, some (13, true)⟩,
      ⟨(some 15), .load false (some 1) ⟨1, false⟩ (.t 14), some (13, true)⟩,
      ⟨(some 16), .bin .eql .num (.t 15) (.c (.s [])), some (13, true)⟩,
      ⟨(some 17), .pick (.t 13) (.t 16) (.c (.b false)), none⟩,
      ⟨(some 18), .mov (.t 17), none⟩,
      ⟨(some 19), .fieldAddr (.t 1) 3 ⟨1, false⟩, some (18, true)⟩,
      ⟨(some 20), .load false (some 1) ⟨1, false⟩ (.t 19), some (18, true)⟩,
      ⟨(some 21), .bi .lenL [(.t 20)], some (18, true)⟩,
      ⟨(some 22), .bin .eql .num (.t 21) (.c (.i .i64 0)), some (18, true)⟩,
      ⟨(some 23), .pick (.t 18) (.t 22) (.c (.b false)), none⟩,
      ⟨(some 2), .mov (.t 23), none⟩])
    (.ret)))
    ((.seq (.ops [⟨(some 25), .bin .eql .num (.t 4) (.c (.i .i64 7)), none⟩,
      ⟨(some 24), .mov (.t 25), none⟩])
    ((.cond (.t 24) ((.seq (.ops [⟨(some 26), .fieldAddr (.t 1) 1 ⟨1, false⟩, none⟩,
       ⟨(some 27), .load false (some 1) ⟨1, false⟩ (.t 26), none⟩,
       ⟨(some 28), .bin .geq .num (.t 27) (.c (.i .i64 1)), none⟩,
       ⟨(some 29), .mov (.t 28), none⟩,
       ⟨(some 30), .fieldAddr (.t 1) 1 ⟨1, false⟩, some (29, true)⟩,
       ⟨(some 31), .load false (some 1) ⟨1, false⟩ (.t 30), some (29, true)⟩,
       ⟨(some 32), .bin .leq .num (.t 31) (.c (.i .i64 1024)), some (29, true)⟩,
       ⟨(some 33), .pick (.t 29) (.t 32) (.c (.b false)), none⟩,
       ⟨(some 34), .mov (.t 33), none⟩,
       ⟨(some 35), .fieldAddr (.t 1) 2 ⟨1, false⟩, some (34, true)⟩,
       ⟨(some 36), .load false (some 1) ⟨1, false⟩ (.t 35), some (34, true)⟩,
       ⟨(some 37), .bin .eql .num (.t 36) (.c (.s [])), some (34, true)⟩,
       ⟨(some 38), .pick (.t 34) (.t 37) (.c (.b false)), none⟩,
       ⟨(some 39), .mov (.t 38), none⟩,
       ⟨(some 40), .fieldAddr (.t 1) 3 ⟨1, false⟩, some (39, true)⟩,
       ⟨(some 41), .load false (some 1) ⟨1, false⟩ (.t 40), some (39, true)⟩,
       ⟨(some 42), .bi .lenL [(.t 41)], some (39, true)⟩,
       ⟨(some 43), .bin .eql .num (.t 42) (.c (.i .i64 1)), some (39, true)⟩,
       ⟨(some 44), .pick (.t 39) (.t 43) (.c (.b false)), none⟩,
       ⟨(some 45), .mov (.t 44), none⟩,
       ⟨(some 46), .fieldAddr (.t 1) 3 ⟨1, false⟩, some (45, true)⟩,
       ⟨(some 47), .load false (some 1) ⟨1, false⟩ (.t 46), some (45, true)⟩,
       ⟨(some 48), .indexAddr (.t 47) (.c (.i .i64 0)) 4 none, some (45, true)⟩,
       ⟨(some 49), .load false none ⟨4, true⟩ (.t 48), some (45, true)⟩,
       ⟨(some 50), .call (.f 39) [(.t 49)], some (45, true)⟩,
       ⟨(some 51), .pick (.t 45) (.t 50) (.c (.b false)), none⟩,
       ⟨(some 2), .mov (.t 51), none⟩])
     (.ret)))
     ((.seq ((.seq (.ops [⟨(some 53), .bin .eql .num (.t 4) (.c (.i .i64 8)), none⟩,
       ⟨(some 52), .mov (.t 53), none⟩])
     ((.cond (.t 52) (.skip)
      (.ops [⟨(some 54), .bin .eql .num (.t 4) (.c (.i .i64 9)), none⟩,
        ⟨(some 52), .mov (.t 54), none⟩])))))
     ((.cond (.t 52) ((.seq (.ops [⟨(some 55), .fieldAddr (.t 1) 1 ⟨1, false⟩, none⟩,
        ⟨(some 56), .load false (some 1) ⟨1, false⟩ (.t 55), none⟩,
        ⟨(some 57), .bin .eql .num (.t 56) (.c (.i .i64 0)), none⟩,
        ⟨(some 58), .mov (.t 57), none⟩,
        ⟨(some 59), .fieldAddr (.t 1) 2 ⟨1, false⟩, some (58, true)⟩,
        ⟨(some 60), .load false (some 1) ⟨1, false⟩ (.t 59), some (58, true)⟩,
        ⟨(some 61), .bin .neq .num (.t 60) (.c (.s [])), some (58, true)⟩,
        ⟨(some 62), .pick (.t 58) (.t 61) (.c (.b false)), none⟩,
        ⟨(some 63), .mov (.t 62), none⟩,
        ⟨(some 64), .fieldAddr (.t 1) 3 ⟨1, false⟩, some (63, true)⟩,
        ⟨(some 65), .load false (some 1) ⟨1, false⟩ (.t 64), some (63, true)⟩,
        ⟨(some 66), .bi .lenL [(.t 65)], some (63, true)⟩,
        ⟨(some 67), .bin .eql .num (.t 66) (.c (.i .i64 0)), some (63, true)⟩,
        ⟨(some 68), .pick (.t 63) (.t 67) (.c (.b false)), none⟩,
        ⟨(some 2), .mov (.t 68), none⟩])
      (.ret)))
      (.skip)))))))))))))))))
  ((.seq (.ops [⟨(some 2), .mov (.c (.b false)), none⟩])
  (.ret)))))), none, none⟩
def f_internal_strconv_Itoa : Fn := ⟨1, [(.t 2)], true,
  (.seq (.ops [⟨(some 2), .mov (.c (.s [])), none⟩])
  ((.seq (.ops [⟨(some 3), .mov (.mv 0), none⟩,
    ⟨(some 4), .call (.f 41) [(.mv 3), (.c (.i .i64 10))], none⟩,
    ⟨(some 2), .mov (.mv 4), none⟩])
  (.ret)))), none, none⟩
def f_internal_strconv_FormatInt : Fn := ⟨2, [(.t 4)], true,
  (.seq (.ops [⟨(some 4), .mov (.c (.s [])), none⟩])
  ((.seq ((.seq (.ops [⟨(some 10), .mov (.t 1), none⟩,
    ⟨(some 11), .bin .eql .num (.t 10) (.c (.i .i64 10)), none⟩])
  ((.cond (.t 11) ((.seq ((.seq (.ops [⟨(some 12), .mov (.t 0), none⟩,
     ⟨(some 13), .bin .leq .num (.c (.i .i64 0)) (.t 12), none⟩,
     ⟨(some 14), .mov (.t 13), none⟩,
     ⟨(some 15), .mov (.t 0), some (14, true)⟩,
     ⟨(some 16), .bin .lss .num (.t 15) (.c (.i .i64 100)), some (14, true)⟩,
     ⟨(some 17), .pick (.t 14) (.t 16) (.c (.b false)), none⟩])
   ((.cond (.t 17) ((.seq (.ops [⟨(some 18), .mov (.mv 0), none⟩,
      ⟨(some 19), .call (.f 42) [(.mv 18)], none⟩,
      ⟨(some 4), .mov (.mv 19), none⟩])
    (.ret)))
    (.skip)))))
   ((.seq (.ops [⟨(some 5), .alloc false [(.i .u8 0), (.i .u8 0), (.i .u8 0), (.i .u8 0), (.i .u8 0), (.i .u8 0), (.i .u8 0), (.i .u8 0), (.i .u8 0), (.i .u8 0), (.i .u8 0), (.i .u8 0), (.i .u8 0), (.i .u8 0), (.i .u8 0), (.i .u8 0), (.i .u8 0), (.i .u8 0), (.i .u8 0), (.i .u8 0), (.i .u8 0), (.i .u8 0), (.i .u8 0), (.i .u8 0)], none⟩])
   ((.seq (.ops [⟨(some 20), .mov (.t 0), none⟩,
     ⟨(some 21), .conv .u64 (.t 20), none⟩,
     ⟨(some 6), .mov (.mv 21), none⟩])
   ((.seq ((.seq (.ops [⟨(some 22), .mov (.t 0), none⟩,
     ⟨(some 23), .bin .lss .num (.t 22) (.c (.i .i64 0)), none⟩])
   ((.cond (.t 23) (.ops [⟨(some 24), .mov (.t 6), none⟩,
      ⟨(some 25), .un .neg (.t 24), none⟩,
      ⟨(some 6), .mov (.t 25), none⟩])
    (.skip)))))
   ((.seq (.ops [⟨(some 26), .mov (.t 6), none⟩,
     ⟨(some 27), .call (.f 43) [(.t 26)], none⟩,
     ⟨(some 7), .mov (.mv 27), none⟩])
   ((.seq (.ops [⟨(some 28), .mov (.t 7), none⟩,
     ⟨(some 29), .bin .add .num (.c (.i .i64 1)) (.t 28), none⟩,
     ⟨(some 30), .sliceA 24 (.t 5) (some (.c (.i .i64 1))) (some (.t 29)), none⟩,
     ⟨(some 31), .mov (.mv 6), none⟩,
     ⟨(some 32), .call (.f 44) [(.t 30), (.mv 31)], none⟩])
   ((.seq ((.seq (.ops [⟨(some 33), .mov (.t 0), none⟩,
     ⟨(some 34), .bin .lss .num (.t 33) (.c (.i .i64 0)), none⟩])
   ((.cond (.t 34) ((.seq (.ops [⟨(some 35), .indexAddr (.t 5) (.c (.i .i64 0)) 1 (some 24), none⟩,
      ⟨none, .store none ⟨1, false⟩ (.t 35) (.c (.i .u8 45)), none⟩])
    ((.seq (.ops [⟨(some 36), .mov (.t 7), none⟩,
      ⟨(some 37), .bin .add .num (.c (.i .i64 1)) (.t 36), none⟩,
      ⟨(some 38), .sliceA 24 (.t 5) none (some (.t 37)), none⟩,
      ⟨(some 39), .text (.t 38), none⟩,
      ⟨(some 4), .mov (.mv 39), none⟩])
    (.ret)))))
    (.skip)))))
   ((.seq (.ops [⟨(some 40), .mov (.t 7), none⟩,
     ⟨(some 41), .bin .add .num (.c (.i .i64 1)) (.t 40), none⟩,
     ⟨(some 42), .sliceA 24 (.t 5) (some (.c (.i .i64 1))) (some (.t 41)), none⟩,
     ⟨(some 43), .text (.t 42), none⟩,
     ⟨(some 4), .mov (.mv 43), none⟩])
   (.ret)))))))))))))))))
   (.skip)))))
  ((.seq (.ops [⟨(some 45), .mov (.t 0), none⟩,
    ⟨(some 46), .conv .u64 (.t 45), none⟩,
    ⟨(some 47), .mov (.mv 1), none⟩,
    ⟨(some 48), .mov (.t 0), none⟩,
    ⟨(some 49), .bin .lss .num (.t 48) (.c (.i .i64 0)), none⟩,
    ⟨(some 50), .call (.f 45) [(.c .nil), (.t 46), (.mv 47), (.t 49), (.c (.b false))], none⟩,
    ⟨(some 44), .mov (.t 50), none⟩,
    ⟨(some 51), .extract (.t 44) 0, none⟩,
    ⟨(some 52), .extract (.t 44) 1, none⟩,
    ⟨(some 8), .mov (.t 51), none⟩,
    ⟨(some 9), .mov (.t 52), none⟩])
  ((.seq (.ops [⟨(some 53), .mov (.t 9), none⟩,
    ⟨(some 4), .mov (.t 53), none⟩])
  (.ret)))))))), none, none⟩
def f_internal_strconv_small : Fn := ⟨1, [(.t 2)], true,
  (.seq (.ops [⟨(some 2), .mov (.c (.s [])), none⟩])
  ((.seq ((.seq (.ops [⟨(some 3), .mov (.t 0), none⟩,
    ⟨(some 4), .bin .lss .num (.t 3) (.c (.i .i64 10)), none⟩])
  ((.cond (.t 4) ((.seq (.ops [⟨(some 5), .mov (.t 0), none⟩,
     ⟨(some 6), .mov (.t 0), none⟩,
     ⟨(some 7), .bin .add .num (.t 6) (.c (.i .i64 1)), none⟩,
     ⟨(some 8), .sliceS (.c (.s [48, 49, 50, 51, 52, 53, 54, 55, 56, 57, 97, 98, 99, 100, 101, 102, 103, 104, 105, 106, 107, 108, 109, 110, 111, 112, 113, 114, 115, 116, 117, 118, 119, 120, 121, 122])) (some (.t 5)) (some (.t 7)), none⟩,
     ⟨(some 2), .mov (.t 8), none⟩])
   (.ret)))
   (.skip)))))
  ((.seq (.ops [⟨(some 9), .mov (.t 0), none⟩,
    ⟨(some 10), .bin .mul .num (.t 9) (.c (.i .i64 2)), none⟩,
    ⟨(some 11), .mov (.t 0), none⟩,
    ⟨(some 12), .bin .mul .num (.t 11) (.c (.i .i64 2)), none⟩,
    ⟨(some 13), .bin .add .num (.t 12) (.c (.i .i64 2)), none⟩,
    ⟨(some 14), .sliceS (.c (.s [48, 48, 48, 49, 48, 50, 48, 51, 48, 52, 48, 53, 48, 54, 48, 55, 48, 56, 48, 57, 49, 48, 49, 49, 49, 50, 49, 51, 49, 52, 49, 53, 49, 54, 49, 55, 49, 56, 49, 57, 50, 48, 50, 49, 50, 50, 50, 51, 50, 52, 50, 53, 50, 54, 50, 55, 50, 56, 50, 57, 51, 48, 51, 49, 51, 50, 51, 51, 51, 52, 51, 53, 51, 54, 51, 55, 51, 56, 51, 57, 52, 48, 52, 49, 52, 50, 52, 51, 52, 52, 52, 53, 52, 54, 52, 55, 52, 56, 52, 57, 53, 48, 53, 49, 53, 50, 53, 51, 53, 52, 53, 53, 53, 54, 53, 55, 53, 56, 53, 57, 54, 48, 54, 49, 54, 50, 54, 51, 54, 52, 54, 53, 54, 54, 54, 55, 54, 56, 54, 57, 55, 48, 55, 49, 55, 50, 55, 51, 55, 52, 55, 53, 55, 54, 55, 55, 55, 56, 55, 57, 56, 48, 56, 49, 56, 50, 56, 51, 56, 52, 56, 53, 56, 54, 56, 55, 56, 56, 56, 57, 57, 48, 57, 49, 57, 50, 57, 51, 57, 52, 57, 53, 57, 54, 57, 55, 57, 56, 57, 57])) (some (.t 10)) (some (.t 13)), none⟩,
    ⟨(some 2), .mov (.t 14), none⟩])
  (.ret)))))), none, none⟩
def f_internal_strconv_numDigits : Fn := ⟨1, [(.t 2)], true,
  (.seq (.ops [⟨(some 2), .mov (.c (.i .i64 0)), none⟩])
  ((.seq (.ops [⟨(some 4), .mov (.t 0), none⟩,
    ⟨(some 5), .call (.f 47) [(.t 4)], none⟩,
    ⟨(some 6), .call (.f 46) [(.t 5)], none⟩,
    ⟨(some 3), .mov (.mv 6), none⟩])
  ((.seq (.ops [⟨(some 7), .mov (.t 3), none⟩,
    ⟨(some 8), .mov (.t 0), none⟩,
    ⟨(some 9), .mov (.t 3), none⟩,
    ⟨(some 10), .indexAddr (.g 0 (glD 0)) (.t 9) 1 (some 20), none⟩,
    ⟨(some 11), .load false none ⟨1, false⟩ (.t 10), none⟩,
    ⟨(some 12), .bin .geq .num (.t 8) (.t 11), none⟩,
    ⟨(some 13), .call (.f 48) [(.t 12)], none⟩,
    ⟨(some 14), .bin .add .num (.t 7) (.t 13), none⟩,
    ⟨(some 2), .mov (.t 14), none⟩])
  (.ret)))))), none, none⟩
def f_internal_strconv_formatBase10_B0 : C :=
  (.seq ((.seq (.ops [⟨(some 19), .mov (.t 4), none⟩,
    ⟨(some 20), .bin .geq .num (.t 19) (.c (.i .i64 8)), none⟩])
  ((.cond (.t 20) (.skip)
   (.exit 0)))))
  ((.block 1 [0, 1, 4] ((.seq (.ops [⟨(some 21), .mov (.t 1), none⟩,
     ⟨(some 22), .bin .rem .num (.t 21) (.c (.i .u64 100000000)), none⟩,
     ⟨(some 23), .conv .u32 (.t 22), none⟩,
     ⟨(some 5), .mov (.mv 23), none⟩])
   ((.seq (.ops [⟨(some 24), .mov (.t 1), none⟩,
     ⟨(some 25), .bin .quo .num (.t 24) (.c (.i .u64 100000000)), none⟩,
     ⟨(some 1), .mov (.t 25), none⟩])
   ((.seq (.ops [⟨(some 26), .mov (.t 5), none⟩,
     ⟨(some 27), .bin .quo .num (.t 26) (.c (.i .u32 10000)), none⟩,
     ⟨(some 28), .mov (.t 5), none⟩,
     ⟨(some 29), .bin .rem .num (.t 28) (.c (.i .u32 10000)), none⟩,
     ⟨(some 6), .mov (.t 27), none⟩,
     ⟨(some 7), .mov (.t 29), none⟩])
   ((.seq (.ops [⟨(some 30), .mov (.t 7), none⟩,
     ⟨(some 31), .bin .quo .num (.t 30) (.c (.i .u32 100)), none⟩,
     ⟨(some 32), .bin .mul .num (.t 31) (.c (.i .u32 2)), none⟩,
     ⟨(some 33), .mov (.t 7), none⟩,
     ⟨(some 34), .bin .rem .num (.t 33) (.c (.i .u32 100)), none⟩,
     ⟨(some 35), .bin .mul .num (.t 34) (.c (.i .u32 2)), none⟩,
     ⟨(some 8), .mov (.t 32), none⟩,
     ⟨(some 9), .mov (.t 35), none⟩])
   ((.seq (.ops [⟨(some 36), .mov (.t 6), none⟩,
     ⟨(some 37), .bin .quo .num (.t 36) (.c (.i .u32 100)), none⟩,
     ⟨(some 38), .bin .mul .num (.t 37) (.c (.i .u32 2)), none⟩,
     ⟨(some 39), .mov (.t 6), none⟩,
     ⟨(some 40), .bin .rem .num (.t 39) (.c (.i .u32 100)), none⟩,
     ⟨(some 41), .bin .mul .num (.t 40) (.c (.i .u32 2)), none⟩,
     ⟨(some 10), .mov (.t 38), none⟩,
     ⟨(some 11), .mov (.t 41), none⟩])
   ((.seq (.opsD [(⟨(some 42), .mov (.t 0), none⟩, false, []),
     (⟨(some 43), .mov (.t 4), none⟩, false, []),
     (⟨(some 44), .bin .sub .num (.t 43) (.c (.i .i64 1)), none⟩, false, []),
     (⟨(some 45), .mov (.t 0), none⟩, false, []),
     (⟨(some 46), .mov (.t 4), none⟩, false, []),
     (⟨(some 47), .bin .sub .num (.t 46) (.c (.i .i64 2)), none⟩, false, []),
     (⟨(some 48), .mov (.t 9), none⟩, false, []),
     (⟨(some 49), .bin .add .num (.t 48) (.c (.i .u32 1)), none⟩, false, []),
     (⟨(some 50), .index (.c (.s [48, 48, 48, 49, 48, 50, 48, 51, 48, 52, 48, 53, 48, 54, 48, 55, 48, 56, 48, 57, 49, 48, 49, 49, 49, 50, 49, 51, 49, 52, 49, 53, 49, 54, 49, 55, 49, 56, 49, 57, 50, 48, 50, 49, 50, 50, 50, 51, 50, 52, 50, 53, 50, 54, 50, 55, 50, 56, 50, 57, 51, 48, 51, 49, 51, 50, 51, 51, 51, 52, 51, 53, 51, 54, 51, 55, 51, 56, 51, 57, 52, 48, 52, 49, 52, 50, 52, 51, 52, 52, 52, 53, 52, 54, 52, 55, 52, 56, 52, 57, 53, 48, 53, 49, 53, 50, 53, 51, 53, 52, 53, 53, 53, 54, 53, 55, 53, 56, 53, 57, 54, 48, 54, 49, 54, 50, 54, 51, 54, 52, 54, 53, 54, 54, 54, 55, 54, 56, 54, 57, 55, 48, 55, 49, 55, 50, 55, 51, 55, 52, 55, 53, 55, 54, 55, 55, 55, 56, 55, 57, 56, 48, 56, 49, 56, 50, 56, 51, 56, 52, 56, 53, 56, 54, 56, 55, 56, 56, 56, 57, 57, 48, 57, 49, 57, 50, 57, 51, 57, 52, 57, 53, 57, 54, 57, 55, 57, 56, 57, 57])) (.t 49), none⟩, false, []),
     (⟨(some 51), .mov (.t 9), none⟩, false, []),
     (⟨(some 52), .index (.c (.s [48, 48, 48, 49, 48, 50, 48, 51, 48, 52, 48, 53, 48, 54, 48, 55, 48, 56, 48, 57, 49, 48, 49, 49, 49, 50, 49, 51, 49, 52, 49, 53, 49, 54, 49, 55, 49, 56, 49, 57, 50, 48, 50, 49, 50, 50, 50, 51, 50, 52, 50, 53, 50, 54, 50, 55, 50, 56, 50, 57, 51, 48, 51, 49, 51, 50, 51, 51, 51, 52, 51, 53, 51, 54, 51, 55, 51, 56, 51, 57, 52, 48, 52, 49, 52, 50, 52, 51, 52, 52, 52, 53, 52, 54, 52, 55, 52, 56, 52, 57, 53, 48, 53, 49, 53, 50, 53, 51, 53, 52, 53, 53, 53, 54, 53, 55, 53, 56, 53, 57, 54, 48, 54, 49, 54, 50, 54, 51, 54, 52, 54, 53, 54, 54, 54, 55, 54, 56, 54, 57, 55, 48, 55, 49, 55, 50, 55, 51, 55, 52, 55, 53, 55, 54, 55, 55, 55, 56, 55, 57, 56, 48, 56, 49, 56, 50, 56, 51, 56, 52, 56, 53, 56, 54, 56, 55, 56, 56, 56, 57, 57, 48, 57, 49, 57, 50, 57, 51, 57, 52, 57, 53, 57, 54, 57, 55, 57, 56, 57, 57])) (.t 51), none⟩, false, []),
     (⟨(some 53), .indexAddr (.t 42) (.t 44) 1 none, none⟩, false, []),
     (⟨none, .store none ⟨1, false⟩ (.t 53) (.t 50), none⟩, true, []),
     (⟨(some 54), .indexAddr (.t 45) (.t 47) 1 none, none⟩, true, []),
     (⟨none, .store none ⟨1, false⟩ (.t 54) (.t 52), none⟩, true, [])])
   ((.seq (.opsD [(⟨(some 55), .mov (.t 0), none⟩, false, []),
     (⟨(some 56), .mov (.t 4), none⟩, false, []),
     (⟨(some 57), .bin .sub .num (.t 56) (.c (.i .i64 3)), none⟩, false, []),
     (⟨(some 58), .mov (.t 0), none⟩, false, []),
     (⟨(some 59), .mov (.t 4), none⟩, false, []),
     (⟨(some 60), .bin .sub .num (.t 59) (.c (.i .i64 4)), none⟩, false, []),
     (⟨(some 61), .mov (.t 8), none⟩, false, []),
     (⟨(some 62), .bin .add .num (.t 61) (.c (.i .u32 1)), none⟩, false, []),
     (⟨(some 63), .index (.c (.s [48, 48, 48, 49, 48, 50, 48, 51, 48, 52, 48, 53, 48, 54, 48, 55, 48, 56, 48, 57, 49, 48, 49, 49, 49, 50, 49, 51, 49, 52, 49, 53, 49, 54, 49, 55, 49, 56, 49, 57, 50, 48, 50, 49, 50, 50, 50, 51, 50, 52, 50, 53, 50, 54, 50, 55, 50, 56, 50, 57, 51, 48, 51, 49, 51, 50, 51, 51, 51, 52, 51, 53, 51, 54, 51, 55, 51, 56, 51, 57, 52, 48, 52, 49, 52, 50, 52, 51, 52, 52, 52, 53, 52, 54, 52, 55, 52, 56, 52, 57, 53, 48, 53, 49, 53, 50, 53, 51, 53, 52, 53, 53, 53, 54, 53, 55, 53, 56, 53, 57, 54, 48, 54, 49, 54, 50, 54, 51, 54, 52, 54, 53, 54, 54, 54, 55, 54, 56, 54, 57, 55, 48, 55, 49, 55, 50, 55, 51, 55, 52, 55, 53, 55, 54, 55, 55, 55, 56, 55, 57, 56, 48, 56, 49, 56, 50, 56, 51, 56, 52, 56, 53, 56, 54, 56, 55, 56, 56, 56, 57, 57, 48, 57, 49, 57, 50, 57, 51, 57, 52, 57, 53, 57, 54, 57, 55, 57, 56, 57, 57])) (.t 62), none⟩, false, []),
     (⟨(some 64), .mov (.t 8), none⟩, false, []),
     (⟨(some 65), .index (.c (.s [48, 48, 48, 49, 48, 50, 48, 51, 48, 52, 48, 53, 48, 54, 48, 55, 48, 56, 48, 57, 49, 48, 49, 49, 49, 50, 49, 51, 49, 52, 49, 53, 49, 54, 49, 55, 49, 56, 49, 57, 50, 48, 50, 49, 50, 50, 50, 51, 50, 52, 50, 53, 50, 54, 50, 55, 50, 56, 50, 57, 51, 48, 51, 49, 51, 50, 51, 51, 51, 52, 51, 53, 51, 54, 51, 55, 51, 56, 51, 57, 52, 48, 52, 49, 52, 50, 52, 51, 52, 52, 52, 53, 52, 54, 52, 55, 52, 56, 52, 57, 53, 48, 53, 49, 53, 50, 53, 51, 53, 52, 53, 53, 53, 54, 53, 55, 53, 56, 53, 57, 54, 48, 54, 49, 54, 50, 54, 51, 54, 52, 54, 53, 54, 54, 54, 55, 54, 56, 54, 57, 55, 48, 55, 49, 55, 50, 55, 51, 55, 52, 55, 53, 55, 54, 55, 55, 55, 56, 55, 57, 56, 48, 56, 49, 56, 50, 56, 51, 56, 52, 56, 53, 56, 54, 56, 55, 56, 56, 56, 57, 57, 48, 57, 49, 57, 50, 57, 51, 57, 52, 57, 53, 57, 54, 57, 55, 57, 56, 57, 57])) (.t 64), none⟩, false, []),
     (⟨(some 66), .indexAddr (.t 55) (.t 57) 1 none, none⟩, false, []),
     (⟨none, .store none ⟨1, false⟩ (.t 66) (.t 63), none⟩, true, []),
     (⟨(some 67), .indexAddr (.t 58) (.t 60) 1 none, none⟩, true, []),
     (⟨none, .store none ⟨1, false⟩ (.t 67) (.t 65), none⟩, true, [])])
   ((.seq (.opsD [(⟨(some 68), .mov (.t 0), none⟩, false, []),
     (⟨(some 69), .mov (.t 4), none⟩, false, []),
     (⟨(some 70), .bin .sub .num (.t 69) (.c (.i .i64 5)), none⟩, false, []),
     (⟨(some 71), .mov (.t 0), none⟩, false, []),
     (⟨(some 72), .mov (.t 4), none⟩, false, []),
     (⟨(some 73), .bin .sub .num (.t 72) (.c (.i .i64 6)), none⟩, false, []),
     (⟨(some 74), .mov (.t 11), none⟩, false, []),
     (⟨(some 75), .bin .add .num (.t 74) (.c (.i .u32 1)), none⟩, false, []),
     (⟨(some 76), .index (.c (.s [48, 48, 48, 49, 48, 50, 48, 51, 48, 52, 48, 53, 48, 54, 48, 55, 48, 56, 48, 57, 49, 48, 49, 49, 49, 50, 49, 51, 49, 52, 49, 53, 49, 54, 49, 55, 49, 56, 49, 57, 50, 48, 50, 49, 50, 50, 50, 51, 50, 52, 50, 53, 50, 54, 50, 55, 50, 56, 50, 57, 51, 48, 51, 49, 51, 50, 51, 51, 51, 52, 51, 53, 51, 54, 51, 55, 51, 56, 51, 57, 52, 48, 52, 49, 52, 50, 52, 51, 52, 52, 52, 53, 52, 54, 52, 55, 52, 56, 52, 57, 53, 48, 53, 49, 53, 50, 53, 51, 53, 52, 53, 53, 53, 54, 53, 55, 53, 56, 53, 57, 54, 48, 54, 49, 54, 50, 54, 51, 54, 52, 54, 53, 54, 54, 54, 55, 54, 56, 54, 57, 55, 48, 55, 49, 55, 50, 55, 51, 55, 52, 55, 53, 55, 54, 55, 55, 55, 56, 55, 57, 56, 48, 56, 49, 56, 50, 56, 51, 56, 52, 56, 53, 56, 54, 56, 55, 56, 56, 56, 57, 57, 48, 57, 49, 57, 50, 57, 51, 57, 52, 57, 53, 57, 54, 57, 55, 57, 56, 57, 57])) (.t 75), none⟩, false, []),
     (⟨(some 77), .mov (.t 11), none⟩, false, []),
     (⟨(some 78), .index (.c (.s [48, 48, 48, 49, 48, 50, 48, 51, 48, 52, 48, 53, 48, 54, 48, 55, 48, 56, 48, 57, 49, 48, 49, 49, 49, 50, 49, 51, 49, 52, 49, 53, 49, 54, 49, 55, 49, 56, 49, 57, 50, 48, 50, 49, 50, 50, 50, 51, 50, 52, 50, 53, 50, 54, 50, 55, 50, 56, 50, 57, 51, 48, 51, 49, 51, 50, 51, 51, 51, 52, 51, 53, 51, 54, 51, 55, 51, 56, 51, 57, 52, 48, 52, 49, 52, 50, 52, 51, 52, 52, 52, 53, 52, 54, 52, 55, 52, 56, 52, 57, 53, 48, 53, 49, 53, 50, 53, 51, 53, 52, 53, 53, 53, 54, 53, 55, 53, 56, 53, 57, 54, 48, 54, 49, 54, 50, 54, 51, 54, 52, 54, 53, 54, 54, 54, 55, 54, 56, 54, 57, 55, 48, 55, 49, 55, 50, 55, 51, 55, 52, 55, 53, 55, 54, 55, 55, 55, 56, 55, 57, 56, 48, 56, 49, 56, 50, 56, 51, 56, 52, 56, 53, 56, 54, 56, 55, 56, 56, 56, 57, 57, 48, 57, 49, 57, 50, 57, 51, 57, 52, 57, 53, 57, 54, 57, 55, 57, 56, 57, 57])) (.t 77), none⟩, false, []),
     (⟨(some 79), .indexAddr (.t 68) (.t 70) 1 none, none⟩, false, []),
     (⟨none, .store none ⟨1, false⟩ (.t 79) (.t 76), none⟩, true, []),
     (⟨(some 80), .indexAddr (.t 71) (.t 73) 1 none, none⟩, true, []),
     (⟨none, .store none ⟨1, false⟩ (.t 80) (.t 78), none⟩, true, [])])
   ((.seq (.opsD [(⟨(some 81), .mov (.t 0), none⟩, false, []),
     (⟨(some 82), .mov (.t 4), none⟩, false, []),
     (⟨(some 83), .bin .sub .num (.t 82) (.c (.i .i64 7)), none⟩, false, []),
     (⟨(some 84), .mov (.t 0), none⟩, false, []),
     (⟨(some 85), .mov (.t 4), none⟩, false, []),
     (⟨(some 86), .bin .sub .num (.t 85) (.c (.i .i64 8)), none⟩, false, []),
     (⟨(some 87), .mov (.t 10), none⟩, false, []),
     (⟨(some 88), .bin .add .num (.t 87) (.c (.i .u32 1)), none⟩, false, []),
     (⟨(some 89), .index (.c (.s [48, 48, 48, 49, 48, 50, 48, 51, 48, 52, 48, 53, 48, 54, 48, 55, 48, 56, 48, 57, 49, 48, 49, 49, 49, 50, 49, 51, 49, 52, 49, 53, 49, 54, 49, 55, 49, 56, 49, 57, 50, 48, 50, 49, 50, 50, 50, 51, 50, 52, 50, 53, 50, 54, 50, 55, 50, 56, 50, 57, 51, 48, 51, 49, 51, 50, 51, 51, 51, 52, 51, 53, 51, 54, 51, 55, 51, 56, 51, 57, 52, 48, 52, 49, 52, 50, 52, 51, 52, 52, 52, 53, 52, 54, 52, 55, 52, 56, 52, 57, 53, 48, 53, 49, 53, 50, 53, 51, 53, 52, 53, 53, 53, 54, 53, 55, 53, 56, 53, 57, 54, 48, 54, 49, 54, 50, 54, 51, 54, 52, 54, 53, 54, 54, 54, 55, 54, 56, 54, 57, 55, 48, 55, 49, 55, 50, 55, 51, 55, 52, 55, 53, 55, 54, 55, 55, 55, 56, 55, 57, 56, 48, 56, 49, 56, 50, 56, 51, 56, 52, 56, 53, 56, 54, 56, 55, 56, 56, 56, 57, 57, 48, 57, 49, 57, 50, 57, 51, 57, 52, 57, 53, 57, 54, 57, 55, 57, 56, 57, 57])) (.t 88), none⟩, false, []),
     (⟨(some 90), .mov (.t 10), none⟩, false, []),
     (⟨(some 91), .index (.c (.s [48, 48, 48, 49, 48, 50, 48, 51, 48, 52, 48, 53, 48, 54, 48, 55, 48, 56, 48, 57, 49, 48, 49, 49, 49, 50, 49, 51, 49, 52, 49, 53, 49, 54, 49, 55, 49, 56, 49, 57, 50, 48, 50, 49, 50, 50, 50, 51, 50, 52, 50, 53, 50, 54, 50, 55, 50, 56, 50, 57, 51, 48, 51, 49, 51, 50, 51, 51, 51, 52, 51, 53, 51, 54, 51, 55, 51, 56, 51, 57, 52, 48, 52, 49, 52, 50, 52, 51, 52, 52, 52, 53, 52, 54, 52, 55, 52, 56, 52, 57, 53, 48, 53, 49, 53, 50, 53, 51, 53, 52, 53, 53, 53, 54, 53, 55, 53, 56, 53, 57, 54, 48, 54, 49, 54, 50, 54, 51, 54, 52, 54, 53, 54, 54, 54, 55, 54, 56, 54, 57, 55, 48, 55, 49, 55, 50, 55, 51, 55, 52, 55, 53, 55, 54, 55, 55, 55, 56, 55, 57, 56, 48, 56, 49, 56, 50, 56, 51, 56, 52, 56, 53, 56, 54, 56, 55, 56, 56, 56, 57, 57, 48, 57, 49, 57, 50, 57, 51, 57, 52, 57, 53, 57, 54, 57, 55, 57, 56, 57, 57])) (.t 90), none⟩, false, []),
     (⟨(some 92), .indexAddr (.t 81) (.t 83) 1 none, none⟩, false, []),
     (⟨none, .store none ⟨1, false⟩ (.t 92) (.t 89), none⟩, true, []),
     (⟨(some 93), .indexAddr (.t 84) (.t 86) 1 none, none⟩, true, []),
     (⟨none, .store none ⟨1, false⟩ (.t 93) (.t 91), none⟩, true, [])])
   (.ops [⟨(some 94), .mov (.t 4), none⟩,
     ⟨(some 95), .bin .sub .num (.t 94) (.c (.i .i64 8)), none⟩,
     ⟨(some 4), .mov (.t 95), none⟩]))))))))))))))))))))))
def f_internal_strconv_formatBase10_L0 : C := .loop [0, 1, 4] f_internal_strconv_formatBase10_B0
noncomputable def f_internal_strconv_formatBase10_l0 (pg : Pg) (v0 v1 v4 : V) (H : List Obj) (lo : Nat) : Option (Ex × St) := exL pg f_internal_strconv_formatBase10_L0 ⟨[(0, v0), (1, v1), (4, v4)], H, lo⟩
theorem f_internal_strconv_formatBase10_l0_in {pg : Pg} {e : Env} {H : List Obj} {lo : Nat} : exL pg f_internal_strconv_formatBase10_L0 ⟨e, H, lo⟩ = f_internal_strconv_formatBase10_l0 pg (keepV (get 0 e)) (keepV (get 1 e)) (keepV (get 4 e)) H lo := loop_in
theorem f_internal_strconv_formatBase10_l0_eq {pg : Pg} {v0 v1 v4 : V} {H : List Obj} {lo : Nat} : f_internal_strconv_formatBase10_l0 pg v0 v1 v4 H lo = thenC pg (exL pg f_internal_strconv_formatBase10_B0 ⟨[(0, keepV v0), (1, keepV v1), (4, keepV v4)], H, lo⟩) f_internal_strconv_formatBase10_L0 := by
  unfold f_internal_strconv_formatBase10_l0 f_internal_strconv_formatBase10_L0; rw [exL_loop]; simp only [restrict_cons, restrict_nil, get_eq, get_ne, Nat.reduceEqDiff]
def f_internal_strconv_formatBase10_R1 : C :=
  (.seq (.ops [⟨(some 96), .mov (.t 1), none⟩,
    ⟨(some 97), .conv .u32 (.t 96), none⟩,
    ⟨(some 12), .mov (.mv 97), none⟩])
  ((.seq ((.seq (.ops [⟨(some 98), .mov (.t 4), none⟩,
    ⟨(some 99), .bin .geq .num (.t 98) (.c (.i .i64 4)), none⟩])
  ((.cond (.t 99) ((.seq (.ops [⟨(some 100), .mov (.t 12), none⟩,
     ⟨(some 101), .bin .rem .num (.t 100) (.c (.i .u32 10000)), none⟩,
     ⟨(some 13), .mov (.t 101), none⟩])
   ((.seq (.ops [⟨(some 102), .mov (.t 12), none⟩,
     ⟨(some 103), .bin .quo .num (.t 102) (.c (.i .u32 10000)), none⟩,
     ⟨(some 12), .mov (.t 103), none⟩])
   ((.seq (.ops [⟨(some 104), .mov (.t 13), none⟩,
     ⟨(some 105), .bin .quo .num (.t 104) (.c (.i .u32 100)), none⟩,
     ⟨(some 106), .bin .mul .num (.t 105) (.c (.i .u32 2)), none⟩,
     ⟨(some 107), .mov (.t 13), none⟩,
     ⟨(some 108), .bin .rem .num (.t 107) (.c (.i .u32 100)), none⟩,
     ⟨(some 109), .bin .mul .num (.t 108) (.c (.i .u32 2)), none⟩,
     ⟨(some 14), .mov (.t 106), none⟩,
     ⟨(some 15), .mov (.t 109), none⟩])
   ((.seq (.opsD [(⟨(some 110), .mov (.t 0), none⟩, false, []),
     (⟨(some 111), .mov (.t 4), none⟩, false, []),
     (⟨(some 112), .bin .sub .num (.t 111) (.c (.i .i64 1)), none⟩, false, []),
     (⟨(some 113), .mov (.t 0), none⟩, false, []),
     (⟨(some 114), .mov (.t 4), none⟩, false, []),
     (⟨(some 115), .bin .sub .num (.t 114) (.c (.i .i64 2)), none⟩, false, []),
     (⟨(some 116), .mov (.t 15), none⟩, false, []),
     (⟨(some 117), .bin .add .num (.t 116) (.c (.i .u32 1)), none⟩, false, []),
     (⟨(some 118), .index (.c (.s [48, 48, 48, 49, 48, 50, 48, 51, 48, 52, 48, 53, 48, 54, 48, 55, 48, 56, 48, 57, 49, 48, 49, 49, 49, 50, 49, 51, 49, 52, 49, 53, 49, 54, 49, 55, 49, 56, 49, 57, 50, 48, 50, 49, 50, 50, 50, 51, 50, 52, 50, 53, 50, 54, 50, 55, 50, 56, 50, 57, 51, 48, 51, 49, 51, 50, 51, 51, 51, 52, 51, 53, 51, 54, 51, 55, 51, 56, 51, 57, 52, 48, 52, 49, 52, 50, 52, 51, 52, 52, 52, 53, 52, 54, 52, 55, 52, 56, 52, 57, 53, 48, 53, 49, 53, 50, 53, 51, 53, 52, 53, 53, 53, 54, 53, 55, 53, 56, 53, 57, 54, 48, 54, 49, 54, 50, 54, 51, 54, 52, 54, 53, 54, 54, 54, 55, 54, 56, 54, 57, 55, 48, 55, 49, 55, 50, 55, 51, 55, 52, 55, 53, 55, 54, 55, 55, 55, 56, 55, 57, 56, 48, 56, 49, 56, 50, 56, 51, 56, 52, 56, 53, 56, 54, 56, 55, 56, 56, 56, 57, 57, 48, 57, 49, 57, 50, 57, 51, 57, 52, 57, 53, 57, 54, 57, 55, 57, 56, 57, 57])) (.t 117), none⟩, false, []),
     (⟨(some 119), .mov (.t 15), none⟩, false, []),
     (⟨(some 120), .index (.c (.s [48, 48, 48, 49, 48, 50, 48, 51, 48, 52, 48, 53, 48, 54, 48, 55, 48, 56, 48, 57, 49, 48, 49, 49, 49, 50, 49, 51, 49, 52, 49, 53, 49, 54, 49, 55, 49, 56, 49, 57, 50, 48, 50, 49, 50, 50, 50, 51, 50, 52, 50, 53, 50, 54, 50, 55, 50, 56, 50, 57, 51, 48, 51, 49, 51, 50, 51, 51, 51, 52, 51, 53, 51, 54, 51, 55, 51, 56, 51, 57, 52, 48, 52, 49, 52, 50, 52, 51, 52, 52, 52, 53, 52, 54, 52, 55, 52, 56, 52, 57, 53, 48, 53, 49, 53, 50, 53, 51, 53, 52, 53, 53, 53, 54, 53, 55, 53, 56, 53, 57, 54, 48, 54, 49, 54, 50, 54, 51, 54, 52, 54, 53, 54, 54, 54, 55, 54, 56, 54, 57, 55, 48, 55, 49, 55, 50, 55, 51, 55, 52, 55, 53, 55, 54, 55, 55, 55, 56, 55, 57, 56, 48, 56, 49, 56, 50, 56, 51, 56, 52, 56, 53, 56, 54, 56, 55, 56, 56, 56, 57, 57, 48, 57, 49, 57, 50, 57, 51, 57, 52, 57, 53, 57, 54, 57, 55, 57, 56, 57, 57])) (.t 119), none⟩, false, []),
     (⟨(some 121), .indexAddr (.t 110) (.t 112) 1 none, none⟩, false, []),
     (⟨none, .store none ⟨1, false⟩ (.t 121) (.t 118), none⟩, true, []),
     (⟨(some 122), .indexAddr (.t 113) (.t 115) 1 none, none⟩, true, []),
     (⟨none, .store none ⟨1, false⟩ (.t 122) (.t 120), none⟩, true, [])])
   ((.seq (.opsD [(⟨(some 123), .mov (.t 0), none⟩, false, []),
     (⟨(some 124), .mov (.t 4), none⟩, false, []),
     (⟨(some 125), .bin .sub .num (.t 124) (.c (.i .i64 3)), none⟩, false, []),
     (⟨(some 126), .mov (.t 0), none⟩, false, []),
     (⟨(some 127), .mov (.t 4), none⟩, false, []),
     (⟨(some 128), .bin .sub .num (.t 127) (.c (.i .i64 4)), none⟩, false, []),
     (⟨(some 129), .mov (.t 14), none⟩, false, []),
     (⟨(some 130), .bin .add .num (.t 129) (.c (.i .u32 1)), none⟩, false, []),
     (⟨(some 131), .index (.c (.s [48, 48, 48, 49, 48, 50, 48, 51, 48, 52, 48, 53, 48, 54, 48, 55, 48, 56, 48, 57, 49, 48, 49, 49, 49, 50, 49, 51, 49, 52, 49, 53, 49, 54, 49, 55, 49, 56, 49, 57, 50, 48, 50, 49, 50, 50, 50, 51, 50, 52, 50, 53, 50, 54, 50, 55, 50, 56, 50, 57, 51, 48, 51, 49, 51, 50, 51, 51, 51, 52, 51, 53, 51, 54, 51, 55, 51, 56, 51, 57, 52, 48, 52, 49, 52, 50, 52, 51, 52, 52, 52, 53, 52, 54, 52, 55, 52, 56, 52, 57, 53, 48, 53, 49, 53, 50, 53, 51, 53, 52, 53, 53, 53, 54, 53, 55, 53, 56, 53, 57, 54, 48, 54, 49, 54, 50, 54, 51, 54, 52, 54, 53, 54, 54, 54, 55, 54, 56, 54, 57, 55, 48, 55, 49, 55, 50, 55, 51, 55, 52, 55, 53, 55, 54, 55, 55, 55, 56, 55, 57, 56, 48, 56, 49, 56, 50, 56, 51, 56, 52, 56, 53, 56, 54, 56, 55, 56, 56, 56, 57, 57, 48, 57, 49, 57, 50, 57, 51, 57, 52, 57, 53, 57, 54, 57, 55, 57, 56, 57, 57])) (.t 130), none⟩, false, []),
     (⟨(some 132), .mov (.t 14), none⟩, false, []),
     (⟨(some 133), .index (.c (.s [48, 48, 48, 49, 48, 50, 48, 51, 48, 52, 48, 53, 48, 54, 48, 55, 48, 56, 48, 57, 49, 48, 49, 49, 49, 50, 49, 51, 49, 52, 49, 53, 49, 54, 49, 55, 49, 56, 49, 57, 50, 48, 50, 49, 50, 50, 50, 51, 50, 52, 50, 53, 50, 54, 50, 55, 50, 56, 50, 57, 51, 48, 51, 49, 51, 50, 51, 51, 51, 52, 51, 53, 51, 54, 51, 55, 51, 56, 51, 57, 52, 48, 52, 49, 52, 50, 52, 51, 52, 52, 52, 53, 52, 54, 52, 55, 52, 56, 52, 57, 53, 48, 53, 49, 53, 50, 53, 51, 53, 52, 53, 53, 53, 54, 53, 55, 53, 56, 53, 57, 54, 48, 54, 49, 54, 50, 54, 51, 54, 52, 54, 53, 54, 54, 54, 55, 54, 56, 54, 57, 55, 48, 55, 49, 55, 50, 55, 51, 55, 52, 55, 53, 55, 54, 55, 55, 55, 56, 55, 57, 56, 48, 56, 49, 56, 50, 56, 51, 56, 52, 56, 53, 56, 54, 56, 55, 56, 56, 56, 57, 57, 48, 57, 49, 57, 50, 57, 51, 57, 52, 57, 53, 57, 54, 57, 55, 57, 56, 57, 57])) (.t 132), none⟩, false, []),
     (⟨(some 134), .indexAddr (.t 123) (.t 125) 1 none, none⟩, false, []),
     (⟨none, .store none ⟨1, false⟩ (.t 134) (.t 131), none⟩, true, []),
     (⟨(some 135), .indexAddr (.t 126) (.t 128) 1 none, none⟩, true, []),
     (⟨none, .store none ⟨1, false⟩ (.t 135) (.t 133), none⟩, true, [])])
   (.ops [⟨(some 136), .mov (.t 4), none⟩,
     ⟨(some 137), .bin .sub .num (.t 136) (.c (.i .i64 4)), none⟩,
     ⟨(some 4), .mov (.t 137), none⟩])))))))))))
   (.skip)))))
  ((.seq ((.seq (.ops [⟨(some 138), .mov (.t 4), none⟩,
    ⟨(some 139), .bin .geq .num (.t 138) (.c (.i .i64 2)), none⟩])
  ((.cond (.t 139) ((.seq (.ops [⟨(some 140), .mov (.t 12), none⟩,
     ⟨(some 141), .bin .rem .num (.t 140) (.c (.i .u32 100)), none⟩,
     ⟨(some 142), .bin .mul .num (.t 141) (.c (.i .u32 2)), none⟩,
     ⟨(some 16), .mov (.t 142), none⟩])
   ((.seq (.ops [⟨(some 143), .mov (.t 12), none⟩,
     ⟨(some 144), .bin .quo .num (.t 143) (.c (.i .u32 100)), none⟩,
     ⟨(some 12), .mov (.t 144), none⟩])
   ((.seq (.opsD [(⟨(some 145), .mov (.t 0), none⟩, false, []),
     (⟨(some 146), .mov (.t 4), none⟩, false, []),
     (⟨(some 147), .bin .sub .num (.t 146) (.c (.i .i64 1)), none⟩, false, []),
     (⟨(some 148), .mov (.t 0), none⟩, false, []),
     (⟨(some 149), .mov (.t 4), none⟩, false, []),
     (⟨(some 150), .bin .sub .num (.t 149) (.c (.i .i64 2)), none⟩, false, []),
     (⟨(some 151), .mov (.t 16), none⟩, false, []),
     (⟨(some 152), .bin .add .num (.t 151) (.c (.i .u32 1)), none⟩, false, []),
     (⟨(some 153), .index (.c (.s [48, 48, 48, 49, 48, 50, 48, 51, 48, 52, 48, 53, 48, 54, 48, 55, 48, 56, 48, 57, 49, 48, 49, 49, 49, 50, 49, 51, 49, 52, 49, 53, 49, 54, 49, 55, 49, 56, 49, 57, 50, 48, 50, 49, 50, 50, 50, 51, 50, 52, 50, 53, 50, 54, 50, 55, 50, 56, 50, 57, 51, 48, 51, 49, 51, 50, 51, 51, 51, 52, 51, 53, 51, 54, 51, 55, 51, 56, 51, 57, 52, 48, 52, 49, 52, 50, 52, 51, 52, 52, 52, 53, 52, 54, 52, 55, 52, 56, 52, 57, 53, 48, 53, 49, 53, 50, 53, 51, 53, 52, 53, 53, 53, 54, 53, 55, 53, 56, 53, 57, 54, 48, 54, 49, 54, 50, 54, 51, 54, 52, 54, 53, 54, 54, 54, 55, 54, 56, 54, 57, 55, 48, 55, 49, 55, 50, 55, 51, 55, 52, 55, 53, 55, 54, 55, 55, 55, 56, 55, 57, 56, 48, 56, 49, 56, 50, 56, 51, 56, 52, 56, 53, 56, 54, 56, 55, 56, 56, 56, 57, 57, 48, 57, 49, 57, 50, 57, 51, 57, 52, 57, 53, 57, 54, 57, 55, 57, 56, 57, 57])) (.t 152), none⟩, false, []),
     (⟨(some 154), .mov (.t 16), none⟩, false, []),
     (⟨(some 155), .index (.c (.s [48, 48, 48, 49, 48, 50, 48, 51, 48, 52, 48, 53, 48, 54, 48, 55, 48, 56, 48, 57, 49, 48, 49, 49, 49, 50, 49, 51, 49, 52, 49, 53, 49, 54, 49, 55, 49, 56, 49, 57, 50, 48, 50, 49, 50, 50, 50, 51, 50, 52, 50, 53, 50, 54, 50, 55, 50, 56, 50, 57, 51, 48, 51, 49, 51, 50, 51, 51, 51, 52, 51, 53, 51, 54, 51, 55, 51, 56, 51, 57, 52, 48, 52, 49, 52, 50, 52, 51, 52, 52, 52, 53, 52, 54, 52, 55, 52, 56, 52, 57, 53, 48, 53, 49, 53, 50, 53, 51, 53, 52, 53, 53, 53, 54, 53, 55, 53, 56, 53, 57, 54, 48, 54, 49, 54, 50, 54, 51, 54, 52, 54, 53, 54, 54, 54, 55, 54, 56, 54, 57, 55, 48, 55, 49, 55, 50, 55, 51, 55, 52, 55, 53, 55, 54, 55, 55, 55, 56, 55, 57, 56, 48, 56, 49, 56, 50, 56, 51, 56, 52, 56, 53, 56, 54, 56, 55, 56, 56, 56, 57, 57, 48, 57, 49, 57, 50, 57, 51, 57, 52, 57, 53, 57, 54, 57, 55, 57, 56, 57, 57])) (.t 154), none⟩, false, []),
     (⟨(some 156), .indexAddr (.t 145) (.t 147) 1 none, none⟩, false, []),
     (⟨none, .store none ⟨1, false⟩ (.t 156) (.t 153), none⟩, true, []),
     (⟨(some 157), .indexAddr (.t 148) (.t 150) 1 none, none⟩, true, []),
     (⟨none, .store none ⟨1, false⟩ (.t 157) (.t 155), none⟩, true, [])])
   (.ops [⟨(some 158), .mov (.t 4), none⟩,
     ⟨(some 159), .bin .sub .num (.t 158) (.c (.i .i64 2)), none⟩,
     ⟨(some 4), .mov (.t 159), none⟩])))))))
   (.skip)))))
  ((.seq (.ops [⟨(some 160), .mov (.t 4), none⟩,
    ⟨(some 161), .bin .gtr .num (.t 160) (.c (.i .i64 0)), none⟩])
  ((.cond (.t 161) (.ops [⟨(some 162), .mov (.t 0), none⟩,
     ⟨(some 163), .mov (.t 12), none⟩,
     ⟨(some 164), .bin .add .num (.c (.i .u32 48)) (.t 163), none⟩,
     ⟨(some 165), .conv .u8 (.t 164), none⟩,
     ⟨(some 166), .indexAddr (.t 162) (.c (.i .i64 0)) 1 none, none⟩,
     ⟨none, .store none ⟨1, false⟩ (.t 166) (.mv 165), none⟩])
   (.skip))))))))))
def f_internal_strconv_formatBase10 : Fn := ⟨2, [], false,
  (.seq (.ops [⟨(some 17), .mov (.t 0), none⟩,
    ⟨(some 18), .bi .lenL [(.t 17)], none⟩,
    ⟨(some 4), .mov (.t 18), none⟩])
  ((.seq ((.block 0 [0, 1, 4] (f_internal_strconv_formatBase10_L0)))
  (f_internal_strconv_formatBase10_R1)))), none, none⟩
def f_internal_strconv_formatBits_B0 : C :=
  (.seq ((.seq (.ops [⟨(some 44), .mov (.t 1), none⟩,
    ⟨(some 45), .mov (.t 15), none⟩,
    ⟨(some 46), .bin .geq .num (.t 44) (.t 45), none⟩])
  ((.cond (.t 46) (.skip)
   (.exit 0)))))
  ((.block 1 [0, 1, 3, 4, 10, 11, 12, 13, 14, 15, 16] ((.seq (.ops [⟨(some 47), .mov (.t 13), none⟩,
     ⟨(some 48), .bin .sub .num (.t 47) (.c (.i .i64 1)), none⟩,
     ⟨(some 13), .mov (.t 48), none⟩])
   ((.seq (.ops [⟨(some 49), .mov (.t 13), none⟩,
     ⟨(some 50), .mov (.t 1), none⟩,
     ⟨(some 51), .mov (.t 16), none⟩,
     ⟨(some 52), .bin .and .num (.t 50) (.t 51), none⟩,
     ⟨(some 53), .index (.c (.s [48, 49, 50, 51, 52, 53, 54, 55, 56, 57, 97, 98, 99, 100, 101, 102, 103, 104, 105, 106, 107, 108, 109, 110, 111, 112, 113, 114, 115, 116, 117, 118, 119, 120, 121, 122])) (.t 52), none⟩,
     ⟨(some 54), .indexAddr (.t 12) (.t 49) 1 (some 65), none⟩,
     ⟨none, .store none ⟨1, false⟩ (.t 54) (.t 53), none⟩])
   (.ops [⟨(some 55), .mov (.t 1), none⟩,
     ⟨(some 56), .mov (.t 14), none⟩,
     ⟨(some 57), .bin .shr .num (.t 55) (.t 56), none⟩,
     ⟨(some 1), .mov (.t 57), none⟩]))))))))
def f_internal_strconv_formatBits_L0 : C := .loop [0, 1, 3, 4, 10, 11, 12, 13, 14, 15, 16] f_internal_strconv_formatBits_B0
noncomputable def f_internal_strconv_formatBits_l0 (pg : Pg) (v0 v1 v3 v4 v10 v11 v12 v13 v14 v15 v16 : V) (H : List Obj) (lo : Nat) : Option (Ex × St) := exL pg f_internal_strconv_formatBits_L0 ⟨[(0, v0), (1, v1), (3, v3), (4, v4), (10, v10), (11, v11), (12, v12), (13, v13), (14, v14), (15, v15), (16, v16)], H, lo⟩
theorem f_internal_strconv_formatBits_l0_in {pg : Pg} {e : Env} {H : List Obj} {lo : Nat} : exL pg f_internal_strconv_formatBits_L0 ⟨e, H, lo⟩ = f_internal_strconv_formatBits_l0 pg (keepV (get 0 e)) (keepV (get 1 e)) (keepV (get 3 e)) (keepV (get 4 e)) (keepV (get 10 e)) (keepV (get 11 e)) (keepV (get 12 e)) (keepV (get 13 e)) (keepV (get 14 e)) (keepV (get 15 e)) (keepV (get 16 e)) H lo := loop_in
theorem f_internal_strconv_formatBits_l0_eq {pg : Pg} {v0 v1 v3 v4 v10 v11 v12 v13 v14 v15 v16 : V} {H : List Obj} {lo : Nat} : f_internal_strconv_formatBits_l0 pg v0 v1 v3 v4 v10 v11 v12 v13 v14 v15 v16 H lo = thenC pg (exL pg f_internal_strconv_formatBits_B0 ⟨[(0, keepV v0), (1, keepV v1), (3, keepV v3), (4, keepV v4), (10, keepV v10), (11, keepV v11), (12, keepV v12), (13, keepV v13), (14, keepV v14), (15, keepV v15), (16, keepV v16)], H, lo⟩) f_internal_strconv_formatBits_L0 := by
  unfold f_internal_strconv_formatBits_l0 f_internal_strconv_formatBits_L0; rw [exL_loop]; simp only [restrict_cons, restrict_nil, get_eq, get_ne, Nat.reduceEqDiff]
def f_internal_strconv_formatBits_R1 : C :=
  (.seq (.ops [⟨(some 58), .mov (.t 13), none⟩,
     ⟨(some 59), .bin .sub .num (.t 58) (.c (.i .i64 1)), none⟩,
     ⟨(some 13), .mov (.t 59), none⟩])
   (.ops [⟨(some 60), .mov (.t 13), none⟩,
     ⟨(some 61), .mov (.t 1), none⟩,
     ⟨(some 62), .index (.c (.s [48, 49, 50, 51, 52, 53, 54, 55, 56, 57, 97, 98, 99, 100, 101, 102, 103, 104, 105, 106, 107, 108, 109, 110, 111, 112, 113, 114, 115, 116, 117, 118, 119, 120, 121, 122])) (.t 61), none⟩,
     ⟨(some 63), .indexAddr (.t 12) (.t 60) 1 (some 65), none⟩,
     ⟨none, .store none ⟨1, false⟩ (.t 63) (.t 62), none⟩]))
def f_internal_strconv_formatBits_B2 : C :=
  (.seq ((.seq (.ops [⟨(some 66), .mov (.t 1), none⟩,
    ⟨(some 67), .mov (.t 17), none⟩,
    ⟨(some 68), .bin .geq .num (.t 66) (.t 67), none⟩])
  ((.cond (.t 68) (.skip)
   (.exit 2)))))
  ((.block 3 [0, 1, 3, 4, 10, 11, 12, 13, 17] ((.seq (.ops [⟨(some 69), .mov (.t 13), none⟩,
     ⟨(some 70), .bin .sub .num (.t 69) (.c (.i .i64 1)), none⟩,
     ⟨(some 13), .mov (.t 70), none⟩])
   ((.seq (.ops [⟨(some 71), .mov (.t 1), none⟩,
     ⟨(some 72), .mov (.t 17), none⟩,
     ⟨(some 73), .bin .quo .num (.t 71) (.t 72), none⟩,
     ⟨(some 18), .mov (.t 73), none⟩])
   ((.seq (.ops [⟨(some 74), .mov (.t 13), none⟩,
     ⟨(some 75), .mov (.t 1), none⟩,
     ⟨(some 76), .mov (.t 18), none⟩,
     ⟨(some 77), .mov (.t 17), none⟩,
     ⟨(some 78), .bin .mul .num (.t 76) (.t 77), none⟩,
     ⟨(some 79), .bin .sub .num (.t 75) (.t 78), none⟩,
     ⟨(some 80), .index (.c (.s [48, 49, 50, 51, 52, 53, 54, 55, 56, 57, 97, 98, 99, 100, 101, 102, 103, 104, 105, 106, 107, 108, 109, 110, 111, 112, 113, 114, 115, 116, 117, 118, 119, 120, 121, 122])) (.t 79), none⟩,
     ⟨(some 81), .indexAddr (.t 12) (.t 74) 1 (some 65), none⟩,
     ⟨none, .store none ⟨1, false⟩ (.t 81) (.t 80), none⟩])
   (.ops [⟨(some 82), .mov (.t 18), none⟩,
     ⟨(some 1), .mov (.t 82), none⟩]))))))))))
def f_internal_strconv_formatBits_L2 : C := .loop [0, 1, 3, 4, 10, 11, 12, 13, 17] f_internal_strconv_formatBits_B2
noncomputable def f_internal_strconv_formatBits_l2 (pg : Pg) (v0 v1 v3 v4 v10 v11 v12 v13 v17 : V) (H : List Obj) (lo : Nat) : Option (Ex × St) := exL pg f_internal_strconv_formatBits_L2 ⟨[(0, v0), (1, v1), (3, v3), (4, v4), (10, v10), (11, v11), (12, v12), (13, v13), (17, v17)], H, lo⟩
theorem f_internal_strconv_formatBits_l2_in {pg : Pg} {e : Env} {H : List Obj} {lo : Nat} : exL pg f_internal_strconv_formatBits_L2 ⟨e, H, lo⟩ = f_internal_strconv_formatBits_l2 pg (keepV (get 0 e)) (keepV (get 1 e)) (keepV (get 3 e)) (keepV (get 4 e)) (keepV (get 10 e)) (keepV (get 11 e)) (keepV (get 12 e)) (keepV (get 13 e)) (keepV (get 17 e)) H lo := loop_in
theorem f_internal_strconv_formatBits_l2_eq {pg : Pg} {v0 v1 v3 v4 v10 v11 v12 v13 v17 : V} {H : List Obj} {lo : Nat} : f_internal_strconv_formatBits_l2 pg v0 v1 v3 v4 v10 v11 v12 v13 v17 H lo = thenC pg (exL pg f_internal_strconv_formatBits_B2 ⟨[(0, keepV v0), (1, keepV v1), (3, keepV v3), (4, keepV v4), (10, keepV v10), (11, keepV v11), (12, keepV v12), (13, keepV v13), (17, keepV v17)], H, lo⟩) f_internal_strconv_formatBits_L2 := by
  unfold f_internal_strconv_formatBits_l2 f_internal_strconv_formatBits_L2; rw [exL_loop]; simp only [restrict_cons, restrict_nil, get_eq, get_ne, Nat.reduceEqDiff]
def f_internal_strconv_formatBits_R3 : C :=
  (.seq (.ops [⟨(some 83), .mov (.t 13), none⟩,
     ⟨(some 84), .bin .sub .num (.t 83) (.c (.i .i64 1)), none⟩,
     ⟨(some 13), .mov (.t 84), none⟩])
   (.ops [⟨(some 85), .mov (.t 13), none⟩,
     ⟨(some 86), .mov (.t 1), none⟩,
     ⟨(some 87), .index (.c (.s [48, 49, 50, 51, 52, 53, 54, 55, 56, 57, 97, 98, 99, 100, 101, 102, 103, 104, 105, 106, 107, 108, 109, 110, 111, 112, 113, 114, 115, 116, 117, 118, 119, 120, 121, 122])) (.t 86), none⟩,
     ⟨(some 88), .indexAddr (.t 12) (.t 85) 1 (some 65), none⟩,
     ⟨none, .store none ⟨1, false⟩ (.t 88) (.t 87), none⟩]))
def f_internal_strconv_formatBits_R4 : C :=
  (.seq ((.seq (.ops [⟨(some 89), .mov (.t 3), none⟩])
  ((.cond (.t 89) ((.seq (.ops [⟨(some 90), .mov (.t 13), none⟩,
     ⟨(some 91), .bin .sub .num (.t 90) (.c (.i .i64 1)), none⟩,
     ⟨(some 13), .mov (.t 91), none⟩])
   (.ops [⟨(some 92), .mov (.t 13), none⟩,
     ⟨(some 93), .indexAddr (.t 12) (.t 92) 1 (some 65), none⟩,
     ⟨none, .store none ⟨1, false⟩ (.t 93) (.c (.i .u8 45)), none⟩])))
   (.skip)))))
  ((.seq ((.seq (.ops [⟨(some 94), .mov (.t 4), none⟩])
  ((.cond (.t 94) ((.seq (.ops [⟨(some 95), .mov (.mv 0), none⟩,
     ⟨(some 96), .mov (.t 13), none⟩,
     ⟨(some 97), .sliceA 65 (.t 12) (some (.t 96)) none, none⟩,
     ⟨(some 98), .bi (.append 1 1) [(.mv 95), (.t 97)], none⟩,
     ⟨(some 10), .mov (.mv 98), none⟩])
   (.ret)))
   (.skip)))))
  ((.seq (.ops [⟨(some 99), .mov (.t 13), none⟩,
    ⟨(some 100), .sliceA 65 (.t 12) (some (.t 99)) none, none⟩,
    ⟨(some 101), .text (.t 100), none⟩,
    ⟨(some 11), .mov (.mv 101), none⟩])
  (.ret))))))
def f_internal_strconv_formatBits : Fn := ⟨5, [(.t 10), (.t 11)], false,
  (.seq (.ops [⟨(some 10), .mov (.c .nil), none⟩,
    ⟨(some 11), .mov (.c (.s [])), none⟩])
  ((.seq ((.seq (.ops [⟨(some 19), .mov (.t 2), none⟩,
    ⟨(some 20), .bin .lss .num (.t 19) (.c (.i .i64 2)), none⟩,
    ⟨(some 21), .mov (.t 20), none⟩,
    ⟨(some 22), .mov (.t 2), some (21, false)⟩,
    ⟨(some 23), .bin .eql .num (.t 22) (.c (.i .i64 10)), some (21, false)⟩,
    ⟨(some 24), .pick (.t 21) (.c (.b true)) (.t 23), none⟩,
    ⟨(some 25), .mov (.t 24), none⟩,
    ⟨(some 26), .mov (.t 2), some (25, false)⟩,
    ⟨(some 27), .bin .gtr .num (.t 26) (.c (.i .i64 36)), some (25, false)⟩,
    ⟨(some 28), .pick (.t 25) (.c (.b true)) (.t 27), none⟩])
  ((.cond (.t 28) (.ops [⟨(some 29), .mkIfc 9 (.c (.s [115, 116, 114, 99, 111, 110, 118, 58, 32, 105, 108, 108, 101, 103, 97, 108, 32, 65, 112, 112, 101, 110, 100, 73, 110, 116, 47, 70, 111, 114, 109, 97, 116, 73, 110, 116, 32, 98, 97, 115, 101])), none⟩,
     ⟨none, .panic (.t 29), none⟩])
   (.skip)))))
  ((.seq (.ops [⟨(some 12), .alloc false [(.i .u8 0), (.i .u8 0), (.i .u8 0), (.i .u8 0), (.i .u8 0), (.i .u8 0), (.i .u8 0), (.i .u8 0), (.i .u8 0), (.i .u8 0), (.i .u8 0), (.i .u8 0), (.i .u8 0), (.i .u8 0), (.i .u8 0), (.i .u8 0), (.i .u8 0), (.i .u8 0), (.i .u8 0), (.i .u8 0), (.i .u8 0), (.i .u8 0), (.i .u8 0), (.i .u8 0), (.i .u8 0), (.i .u8 0), (.i .u8 0), (.i .u8 0), (.i .u8 0), (.i .u8 0), (.i .u8 0), (.i .u8 0), (.i .u8 0), (.i .u8 0), (.i .u8 0), (.i .u8 0), (.i .u8 0), (.i .u8 0), (.i .u8 0), (.i .u8 0), (.i .u8 0), (.i .u8 0), (.i .u8 0), (.i .u8 0), (.i .u8 0), (.i .u8 0), (.i .u8 0), (.i .u8 0), (.i .u8 0), (.i .u8 0), (.i .u8 0), (.i .u8 0), (.i .u8 0), (.i .u8 0), (.i .u8 0), (.i .u8 0), (.i .u8 0), (.i .u8 0), (.i .u8 0), (.i .u8 0), (.i .u8 0), (.i .u8 0), (.i .u8 0), (.i .u8 0), (.i .u8 0)], none⟩])
  ((.seq (.ops [⟨(some 13), .mov (.c (.i .i64 65)), none⟩])
  ((.seq ((.seq (.ops [⟨(some 30), .mov (.t 3), none⟩])
  ((.cond (.t 30) (.ops [⟨(some 31), .mov (.t 1), none⟩,
     ⟨(some 32), .un .neg (.t 31), none⟩,
     ⟨(some 1), .mov (.t 32), none⟩])
   (.skip)))))
  ((.seq ((.seq (.ops [⟨(some 33), .mov (.t 2), none⟩,
    ⟨(some 34), .call (.f 49) [(.t 33)], none⟩])
  ((.cond (.t 34) ((.seq (.ops [⟨(some 35), .mov (.t 2), none⟩,
     ⟨(some 36), .conv .u64 (.t 35), none⟩,
     ⟨(some 37), .call (.f 50) [(.t 36)], none⟩,
     ⟨(some 38), .conv .u64 (.t 37), none⟩,
     ⟨(some 14), .mov (.mv 38), none⟩])
   ((.seq (.ops [⟨(some 39), .mov (.t 2), none⟩,
     ⟨(some 40), .conv .u64 (.t 39), none⟩,
     ⟨(some 15), .mov (.mv 40), none⟩])
   ((.seq (.ops [⟨(some 41), .mov (.t 2), none⟩,
     ⟨(some 42), .conv .u64 (.t 41), none⟩,
     ⟨(some 43), .bin .sub .num (.t 42) (.c (.i .u64 1)), none⟩,
     ⟨(some 16), .mov (.t 43), none⟩])
   ((.seq ((.block 0 [0, 1, 3, 4, 10, 11, 12, 13] (f_internal_strconv_formatBits_L0)))
   (f_internal_strconv_formatBits_R1)))))))))
   ((.seq (.ops [⟨(some 64), .mov (.t 2), none⟩,
     ⟨(some 65), .conv .u64 (.t 64), none⟩,
     ⟨(some 17), .mov (.mv 65), none⟩])
   ((.seq ((.block 2 [0, 1, 3, 4, 10, 11, 12, 13] (f_internal_strconv_formatBits_L2)))
   (f_internal_strconv_formatBits_R3)))))))))
  (f_internal_strconv_formatBits_R4)))))))))))), none, none⟩
def f_internal_strconv_log10Pow2 : Fn := ⟨1, [(.t 2)], true,
  (.seq (.ops [⟨(some 2), .mov (.c (.i .i64 0)), none⟩])
  ((.seq (.ops [⟨(some 3), .mov (.t 0), none⟩,
    ⟨(some 4), .bin .mul .num (.t 3) (.c (.i .i64 78913)), none⟩,
    ⟨(some 5), .bin .shr .num (.t 4) (.c (.i .u64 18)), none⟩,
    ⟨(some 2), .mov (.t 5), none⟩])
  (.ret)))), none, none⟩
def f_math_bits_Len64 : Fn := ⟨1, [(.t 2)], true,
  (.seq (.ops [⟨(some 2), .mov (.c (.i .i64 0)), none⟩])
  ((.seq ((.seq (.ops [⟨(some 3), .mov (.t 0), none⟩,
    ⟨(some 4), .bin .geq .num (.t 3) (.c (.i .u64 4294967296)), none⟩])
  ((.cond (.t 4) ((.seq (.ops [⟨(some 5), .mov (.t 0), none⟩,
     ⟨(some 6), .bin .shr .num (.t 5) (.c (.i .u64 32)), none⟩,
     ⟨(some 0), .mov (.t 6), none⟩])
   (.ops [⟨(some 2), .mov (.c (.i .i64 32)), none⟩])))
   (.skip)))))
  ((.seq ((.seq (.ops [⟨(some 7), .mov (.t 0), none⟩,
    ⟨(some 8), .bin .geq .num (.t 7) (.c (.i .u64 65536)), none⟩])
  ((.cond (.t 8) ((.seq (.ops [⟨(some 9), .mov (.t 0), none⟩,
     ⟨(some 10), .bin .shr .num (.t 9) (.c (.i .u64 16)), none⟩,
     ⟨(some 0), .mov (.t 10), none⟩])
   (.ops [⟨(some 11), .mov (.t 2), none⟩,
     ⟨(some 12), .bin .add .num (.t 11) (.c (.i .i64 16)), none⟩,
     ⟨(some 2), .mov (.t 12), none⟩])))
   (.skip)))))
  ((.seq ((.seq (.ops [⟨(some 13), .mov (.t 0), none⟩,
    ⟨(some 14), .bin .geq .num (.t 13) (.c (.i .u64 256)), none⟩])
  ((.cond (.t 14) ((.seq (.ops [⟨(some 15), .mov (.t 0), none⟩,
     ⟨(some 16), .bin .shr .num (.t 15) (.c (.i .u64 8)), none⟩,
     ⟨(some 0), .mov (.t 16), none⟩])
   (.ops [⟨(some 17), .mov (.t 2), none⟩,
     ⟨(some 18), .bin .add .num (.t 17) (.c (.i .i64 8)), none⟩,
     ⟨(some 2), .mov (.t 18), none⟩])))
   (.skip)))))
  ((.seq (.ops [⟨(some 19), .mov (.t 2), none⟩,
    ⟨(some 20), .mov (.t 0), none⟩,
    ⟨(some 21), .conv .u8 (.t 20), none⟩,
    ⟨(some 22), .index (.c (.s [0, 1, 2, 2, 3, 3, 3, 3, 4, 4, 4, 4, 4, 4, 4, 4, 5, 5, 5, 5, 5, 5, 5, 5, 5, 5, 5, 5, 5, 5, 5, 5, 6, 6, 6, 6, 6, 6, 6, 6, 6, 6, 6, 6, 6, 6, 6, 6, 6, 6, 6, 6, 6, 6, 6, 6, 6, 6, 6, 6, 6, 6, 6, 6, 7, 7, 7, 7, 7, 7, 7, 7, 7, 7, 7, 7, 7, 7, 7, 7, 7, 7, 7, 7, 7, 7, 7, 7, 7, 7, 7, 7, 7, 7, 7, 7, 7, 7, 7, 7, 7, 7, 7, 7, 7, 7, 7, 7, 7, 7, 7, 7, 7, 7, 7, 7, 7, 7, 7, 7, 7, 7, 7, 7, 7, 7, 7, 7, 8, 8, 8, 8, 8, 8, 8, 8, 8, 8, 8, 8, 8, 8, 8, 8, 8, 8, 8, 8, 8, 8, 8, 8, 8, 8, 8, 8, 8, 8, 8, 8, 8, 8, 8, 8, 8, 8, 8, 8, 8, 8, 8, 8, 8, 8, 8, 8, 8, 8, 8, 8, 8, 8, 8, 8, 8, 8, 8, 8, 8, 8, 8, 8, 8, 8, 8, 8, 8, 8, 8, 8, 8, 8, 8, 8, 8, 8, 8, 8, 8, 8, 8, 8, 8, 8, 8, 8, 8, 8, 8, 8, 8, 8, 8, 8, 8, 8, 8, 8, 8, 8, 8, 8, 8, 8, 8, 8, 8, 8, 8, 8, 8, 8, 8, 8, 8, 8, 8, 8, 8, 8, 8, 8, 8, 8, 8, 8])) (.t 21), none⟩,
    ⟨(some 23), .conv .i64 (.t 22), none⟩,
    ⟨(some 24), .bin .add .num (.t 19) (.t 23), none⟩,
    ⟨(some 2), .mov (.t 24), none⟩])
  (.ret)))))))))), none, none⟩
def f_internal_strconv_bool2_int_ : Fn := ⟨1, [(.t 2)], true,
  (.seq (.ops [⟨(some 2), .mov (.c (.i .i64 0)), none⟩])
  ((.seq ((.seq (.ops [⟨(some 3), .mov (.t 0), none⟩])
  ((.cond (.t 3) ((.seq (.ops [⟨(some 2), .mov (.c (.i .i64 1)), none⟩])
   (.ret)))
   (.skip)))))
  ((.seq (.ops [⟨(some 2), .mov (.c (.i .i64 0)), none⟩])
  (.ret)))))), none, none⟩
def f_internal_strconv_isPowerOfTwo : Fn := ⟨1, [(.t 2)], true,
  (.seq (.ops [⟨(some 2), .mov (.c (.b false)), none⟩])
  ((.seq (.ops [⟨(some 3), .mov (.t 0), none⟩,
    ⟨(some 4), .mov (.t 0), none⟩,
    ⟨(some 5), .bin .sub .num (.t 4) (.c (.i .i64 1)), none⟩,
    ⟨(some 6), .bin .and .num (.t 3) (.t 5), none⟩,
    ⟨(some 7), .bin .eql .num (.t 6) (.c (.i .i64 0)), none⟩,
    ⟨(some 2), .mov (.t 7), none⟩])
  (.ret)))), none, none⟩
def f_math_bits_TrailingZeros : Fn := ⟨1, [(.t 2)], true,
  (.seq (.ops [⟨(some 2), .mov (.c (.i .i64 0)), none⟩])
  ((.seq ((.cond (.c (.b false)) ((.seq (.ops [⟨(some 3), .mov (.t 0), none⟩,
     ⟨(some 4), .conv .u32 (.t 3), none⟩,
     ⟨(some 5), .call (.f 51) [(.t 4)], none⟩,
     ⟨(some 2), .mov (.mv 5), none⟩])
   (.ret)))
   (.skip)))
  ((.seq (.ops [⟨(some 6), .mov (.mv 0), none⟩,
    ⟨(some 7), .call (.f 52) [(.mv 6)], none⟩,
    ⟨(some 2), .mov (.mv 7), none⟩])
  (.ret)))))), none, none⟩
def f_math_bits_TrailingZeros32 : Fn := ⟨1, [(.t 2)], true,
  (.seq (.ops [⟨(some 2), .mov (.c (.i .i64 0)), none⟩])
  ((.seq ((.seq (.ops [⟨(some 3), .mov (.t 0), none⟩,
    ⟨(some 4), .bin .eql .num (.t 3) (.c (.i .u32 0)), none⟩])
  ((.cond (.t 4) ((.seq (.ops [⟨(some 2), .mov (.c (.i .i64 32)), none⟩])
   (.ret)))
   (.skip)))))
  ((.seq (.ops [⟨(some 5), .mov (.t 0), none⟩,
    ⟨(some 6), .mov (.t 0), none⟩,
    ⟨(some 7), .un .neg (.t 6), none⟩,
    ⟨(some 8), .bin .and .num (.t 5) (.t 7), none⟩,
    ⟨(some 9), .bin .mul .num (.t 8) (.c (.i .u32 125613361)), none⟩,
    ⟨(some 10), .bin .shr .num (.t 9) (.c (.i .u64 27)), none⟩,
    ⟨(some 11), .indexAddr (.g 1 (glD 1)) (.t 10) 1 (some 32), none⟩,
    ⟨(some 12), .load false none ⟨1, false⟩ (.t 11), none⟩,
    ⟨(some 13), .conv .i64 (.t 12), none⟩,
    ⟨(some 2), .mov (.mv 13), none⟩])
  (.ret)))))), none, none⟩
def f_math_bits_TrailingZeros64 : Fn := ⟨1, [(.t 2)], true,
  (.seq (.ops [⟨(some 2), .mov (.c (.i .i64 0)), none⟩])
  ((.seq ((.seq (.ops [⟨(some 3), .mov (.t 0), none⟩,
    ⟨(some 4), .bin .eql .num (.t 3) (.c (.i .u64 0)), none⟩])
  ((.cond (.t 4) ((.seq (.ops [⟨(some 2), .mov (.c (.i .i64 64)), none⟩])
   (.ret)))
   (.skip)))))
  ((.seq (.ops [⟨(some 5), .mov (.t 0), none⟩,
    ⟨(some 6), .mov (.t 0), none⟩,
    ⟨(some 7), .un .neg (.t 6), none⟩,
    ⟨(some 8), .bin .and .num (.t 5) (.t 7), none⟩,
    ⟨(some 9), .bin .mul .num (.t 8) (.c (.i .u64 285870213051353865)), none⟩,
    ⟨(some 10), .bin .shr .num (.t 9) (.c (.i .u64 58)), none⟩,
    ⟨(some 11), .indexAddr (.g 2 (glD 2)) (.t 10) 1 (some 64), none⟩,
    ⟨(some 12), .load false none ⟨1, false⟩ (.t 11), none⟩,
    ⟨(some 13), .conv .i64 (.t 12), none⟩,
    ⟨(some 2), .mov (.mv 13), none⟩])
  (.ret)))))), none, none⟩
def f_gosem_cut_vars : Fn := ⟨0, [], false,
  (.seq (.ops [⟨(some 0), .build [(.i .u8 0), (.i .u8 0), (.i .u8 0), (.i .u8 0), (.i .u8 0), (.i .u8 0), (.i .u8 0), (.i .u8 0), (.i .u8 0), (.i .u8 0), (.i .u8 0), (.i .u8 0), (.i .u8 0), (.i .u8 0), (.i .u8 0), (.i .u8 0), (.i .u8 0), (.i .u8 0), (.i .u8 0), (.i .u8 0), (.i .u8 0), (.i .u8 0), (.i .u8 0), (.i .u8 0), (.i .u8 0), (.i .u8 0), (.i .u8 0), (.i .u8 0), (.i .u8 0), (.i .u8 0), (.i .u8 0), (.i .u8 0)] [(0, 1, (.c (.i .u8 0))), (1, 1, (.c (.i .u8 1))), (2, 1, (.c (.i .u8 28))), (3, 1, (.c (.i .u8 2))), (4, 1, (.c (.i .u8 29))), (5, 1, (.c (.i .u8 14))), (6, 1, (.c (.i .u8 24))), (7, 1, (.c (.i .u8 3))), (8, 1, (.c (.i .u8 30))), (9, 1, (.c (.i .u8 22))), (10, 1, (.c (.i .u8 20))), (11, 1, (.c (.i .u8 15))), (12, 1, (.c (.i .u8 25))), (13, 1, (.c (.i .u8 17))), (14, 1, (.c (.i .u8 4))), (15, 1, (.c (.i .u8 8))), (16, 1, (.c (.i .u8 31))), (17, 1, (.c (.i .u8 27))), (18, 1, (.c (.i .u8 13))), (19, 1, (.c (.i .u8 23))), (20, 1, (.c (.i .u8 21))), (21, 1, (.c (.i .u8 19))), (22, 1, (.c (.i .u8 16))), (23, 1, (.c (.i .u8 7))), (24, 1, (.c (.i .u8 26))), (25, 1, (.c (.i .u8 12))), (26, 1, (.c (.i .u8 18))), (27, 1, (.c (.i .u8 6))), (28, 1, (.c (.i .u8 11))), (29, 1, (.c (.i .u8 5))), (30, 1, (.c (.i .u8 10))), (31, 1, (.c (.i .u8 9)))], none⟩,
    ⟨none, .store none ⟨32, true⟩ (.g 1 (glD 1)) (.t 0), none⟩])
  ((.seq (.ops [⟨(some 1), .build [(.i .u8 0), (.i .u8 0), (.i .u8 0), (.i .u8 0), (.i .u8 0), (.i .u8 0), (.i .u8 0), (.i .u8 0), (.i .u8 0), (.i .u8 0), (.i .u8 0), (.i .u8 0), (.i .u8 0), (.i .u8 0), (.i .u8 0), (.i .u8 0), (.i .u8 0), (.i .u8 0), (.i .u8 0), (.i .u8 0), (.i .u8 0), (.i .u8 0), (.i .u8 0), (.i .u8 0), (.i .u8 0), (.i .u8 0), (.i .u8 0), (.i .u8 0), (.i .u8 0), (.i .u8 0), (.i .u8 0), (.i .u8 0), (.i .u8 0), (.i .u8 0), (.i .u8 0), (.i .u8 0), (.i .u8 0), (.i .u8 0), (.i .u8 0), (.i .u8 0), (.i .u8 0), (.i .u8 0), (.i .u8 0), (.i .u8 0), (.i .u8 0), (.i .u8 0), (.i .u8 0), (.i .u8 0), (.i .u8 0), (.i .u8 0), (.i .u8 0), (.i .u8 0), (.i .u8 0), (.i .u8 0), (.i .u8 0), (.i .u8 0), (.i .u8 0), (.i .u8 0), (.i .u8 0), (.i .u8 0), (.i .u8 0), (.i .u8 0), (.i .u8 0), (.i .u8 0)] [(0, 1, (.c (.i .u8 0))), (1, 1, (.c (.i .u8 1))), (2, 1, (.c (.i .u8 56))), (3, 1, (.c (.i .u8 2))), (4, 1, (.c (.i .u8 57))), (5, 1, (.c (.i .u8 49))), (6, 1, (.c (.i .u8 28))), (7, 1, (.c (.i .u8 3))), (8, 1, (.c (.i .u8 61))), (9, 1, (.c (.i .u8 58))), (10, 1, (.c (.i .u8 42))), (11, 1, (.c (.i .u8 50))), (12, 1, (.c (.i .u8 38))), (13, 1, (.c (.i .u8 29))), (14, 1, (.c (.i .u8 17))), (15, 1, (.c (.i .u8 4))), (16, 1, (.c (.i .u8 62))), (17, 1, (.c (.i .u8 47))), (18, 1, (.c (.i .u8 59))), (19, 1, (.c (.i .u8 36))), (20, 1, (.c (.i .u8 45))), (21, 1, (.c (.i .u8 43))), (22, 1, (.c (.i .u8 51))), (23, 1, (.c (.i .u8 22))), (24, 1, (.c (.i .u8 53))), (25, 1, (.c (.i .u8 39))), (26, 1, (.c (.i .u8 33))), (27, 1, (.c (.i .u8 30))), (28, 1, (.c (.i .u8 24))), (29, 1, (.c (.i .u8 18))), (30, 1, (.c (.i .u8 12))), (31, 1, (.c (.i .u8 5))), (32, 1, (.c (.i .u8 63))), (33, 1, (.c (.i .u8 55))), (34, 1, (.c (.i .u8 48))), (35, 1, (.c (.i .u8 27))), (36, 1, (.c (.i .u8 60))), (37, 1, (.c (.i .u8 41))), (38, 1, (.c (.i .u8 37))), (39, 1, (.c (.i .u8 16))), (40, 1, (.c (.i .u8 46))), (41, 1, (.c (.i .u8 35))), (42, 1, (.c (.i .u8 44))), (43, 1, (.c (.i .u8 21))), (44, 1, (.c (.i .u8 52))), (45, 1, (.c (.i .u8 32))), (46, 1, (.c (.i .u8 23))), (47, 1, (.c (.i .u8 11))), (48, 1, (.c (.i .u8 54))), (49, 1, (.c (.i .u8 26))), (50, 1, (.c (.i .u8 40))), (51, 1, (.c (.i .u8 15))), (52, 1, (.c (.i .u8 34))), (53, 1, (.c (.i .u8 20))), (54, 1, (.c (.i .u8 31))), (55, 1, (.c (.i .u8 10))), (56, 1, (.c (.i .u8 25))), (57, 1, (.c (.i .u8 14))), (58, 1, (.c (.i .u8 19))), (59, 1, (.c (.i .u8 9))), (60, 1, (.c (.i .u8 13))), (61, 1, (.c (.i .u8 8))), (62, 1, (.c (.i .u8 7))), (63, 1, (.c (.i .u8 6)))], none⟩,
    ⟨none, .store none ⟨64, true⟩ (.g 2 (glD 2)) (.t 1), none⟩])
  (.ops [⟨(some 2), .build [(.i .u64 0), (.i .u64 0), (.i .u64 0), (.i .u64 0), (.i .u64 0), (.i .u64 0), (.i .u64 0), (.i .u64 0), (.i .u64 0), (.i .u64 0), (.i .u64 0), (.i .u64 0), (.i .u64 0), (.i .u64 0), (.i .u64 0), (.i .u64 0), (.i .u64 0), (.i .u64 0), (.i .u64 0), (.i .u64 0)] [(0, 1, (.c (.i .u64 1))), (1, 1, (.c (.i .u64 10))), (2, 1, (.c (.i .u64 100))), (3, 1, (.c (.i .u64 1000))), (4, 1, (.c (.i .u64 10000))), (5, 1, (.c (.i .u64 100000))), (6, 1, (.c (.i .u64 1000000))), (7, 1, (.c (.i .u64 10000000))), (8, 1, (.c (.i .u64 100000000))), (9, 1, (.c (.i .u64 1000000000))), (10, 1, (.c (.i .u64 10000000000))), (11, 1, (.c (.i .u64 100000000000))), (12, 1, (.c (.i .u64 1000000000000))), (13, 1, (.c (.i .u64 10000000000000))), (14, 1, (.c (.i .u64 100000000000000))), (15, 1, (.c (.i .u64 1000000000000000))), (16, 1, (.c (.i .u64 10000000000000000))), (17, 1, (.c (.i .u64 100000000000000000))), (18, 1, (.c (.i .u64 1000000000000000000))), (19, 1, (.c (.i .u64 10000000000000000000)))], none⟩,
    ⟨none, .store none ⟨20, true⟩ (.g 0 (glD 0)) (.t 2), none⟩])))), none, none⟩
def prog (n : Nat) : Option Fn :=
  bif Nat.beq n 2 then some f_gosem_cut_init else
  bif Nat.beq n 3 then some f_waferlaw12_TypesRecords else
  bif Nat.beq n 4 then some f_waferlaw12_TypesFit else
  bif Nat.beq n 5 then some f_waferlaw12_TypesChain else
  bif Nat.beq n 6 then some f_waferlaw12_TypesGreat else
  bif Nat.beq n 7 then some f_waferlaw12_known else
  bif Nat.beq n 8 then some f_waferlaw12_light else
  bif Nat.beq n 9 then some f_waferlaw12_made else
  bif Nat.beq n 10 then some f_types_Fields else
  bif Nat.beq n 11 then some f_waferref11_Fields else
  bif Nat.beq n 12 then some f_waferhelp_Vars else
  bif Nat.beq n 13 then some f_types_Extends else
  bif Nat.beq n 14 then some f_waferref11_Extends else
  bif Nat.beq n 15 then some f_waferlaw12_typeOf else
  bif Nat.beq n 16 then some f_waferref11_Arr else
  bif Nat.beq n 17 then some f_types_Words else
  bif Nat.beq n 18 then some f_waferref11_Words else
  bif Nat.beq n 19 then some f_waferref11_Basic else
  bif Nat.beq n 20 then some f_types_Fits else
  bif Nat.beq n 21 then some f_waferref11_Fits else
  bif Nat.beq n 22 then some f_types_Text else
  bif Nat.beq n 23 then some f_types_Right else
  bif Nat.beq n 24 then some f_types_Same else
  bif Nat.beq n 25 then some f_types_Basic else
  bif Nat.beq n 26 then some f_types_chain else
  bif Nat.beq n 27 then some f_slices_Backward___api_Rec_api_Rec_ else
  bif Nat.beq n 28 then some f_types_Clone else
  bif Nat.beq n 29 then some f_waferref11_fields else
  bif Nat.beq n 30 then some f_waferref11_Alike else
  bif Nat.beq n 31 then some f_types_sizes_words else
  bif Nat.beq n 32 then some f_waferref11_words else
  bif Nat.beq n 33 then some f_types_plain else
  bif Nat.beq n 34 then some f_waferref11_Same else
  bif Nat.beq n 35 then some f_strconv_Itoa else
  bif Nat.beq n 36 then some f_slices_EqualFunc___api_Type___api_Type_api_Type_api_Type_ else
  bif Nat.beq n 37 then some f_slices_Backward___api_Rec_api_Rec__1 else
  bif Nat.beq n 38 then some f_types_sizes_record else
  bif Nat.beq n 39 then some f_waferref11_Right else
  bif Nat.beq n 40 then some f_internal_strconv_Itoa else
  bif Nat.beq n 41 then some f_internal_strconv_FormatInt else
  bif Nat.beq n 42 then some f_internal_strconv_small else
  bif Nat.beq n 43 then some f_internal_strconv_numDigits else
  bif Nat.beq n 44 then some f_internal_strconv_formatBase10 else
  bif Nat.beq n 45 then some f_internal_strconv_formatBits else
  bif Nat.beq n 46 then some f_internal_strconv_log10Pow2 else
  bif Nat.beq n 47 then some f_math_bits_Len64 else
  bif Nat.beq n 48 then some f_internal_strconv_bool2_int_ else
  bif Nat.beq n 49 then some f_internal_strconv_isPowerOfTwo else
  bif Nat.beq n 50 then some f_math_bits_TrailingZeros else
  bif Nat.beq n 51 then some f_math_bits_TrailingZeros32 else
  bif Nat.beq n 52 then some f_math_bits_TrailingZeros64 else
  bif Nat.beq n 74 then some f_gosem_cut_vars else none
end W

/-
  More equations: nil slices, shifts, bits, bytes.
-/
set_option linter.unusedSimpArgs false
set_option linter.unusedVariables false
namespace W
open Go (IntKind BinOp UnOp)
theorem ownV_oslT {xs : List D} : ownV true (.osl xs) = some (.osl xs) := (rfl)
theorem ownV_tup {own : Bool} {xs : List V} (h : own = true) : ownV own (.tup xs) = some (.tup xs) := by subst h; rfl
theorem isC_t {n : Nat} : isC (.t n) = false := (rfl)
theorem isC_c {x : D} : isC (.c x) = true := (rfl)
theorem isC_mv {n : Nat} : isC (.mv n) = false := (rfl)
theorem isC_f {n : Nat} : isC (.f n) = false := (rfl)
theorem eql_nil_nil : binV .eql .slice true (.d .nil) (.d .nil) = some (.d (.b true)) := (rfl)
theorem eql_nil_sl {xs : List D} : binV .eql .slice true (.d (.sl xs)) (.d .nil) = some (.d (.b false)) := (rfl)
theorem neq_nil_nil : binV .neq .slice true (.d .nil) (.d .nil) = some (.d (.b false)) := (rfl)
theorem neq_nil_sl {xs : List D} : binV .neq .slice true (.d (.sl xs)) (.d .nil) = some (.d (.b true)) := (rfl)
theorem eql_nm {i : Nat} : binV .eql .map true (.map i) (.d .nm) = some (.d (.b false)) := (rfl)
theorem bin_shl {c : Bool} {k k' : IntKind} {m n : Int} (h : (0 ≤ n) = True) : binV .shl .num c (.d (.i k m)) (.d (.i k' n)) = some (.d (.i k (wr k (m * 2 ^ (min n.toNat k.bits))))) := by
  have h : 0 ≤ n := by rw [h]; trivial
  simp [binV, isShift, shiftInt, leI_d, h]
theorem bin_shr {c : Bool} {k k' : IntKind} {m n : Int} (h : (0 ≤ n) = True) : binV .shr .num c (.d (.i k m)) (.d (.i k' n)) = some (.d (.i k (m.fdiv (2 ^ (min n.toNat k.bits))))) := by
  have h : 0 ≤ n := by rw [h]; trivial
  simp [binV, isShift, shiftInt, leI_d, h]
def orI (k : IntKind) (a b : Int) : Int := k.wrap ((BitVec.ofInt k.bits a) ||| (BitVec.ofInt k.bits b)).toNat
def andI (k : IntKind) (a b : Int) : Int := k.wrap ((BitVec.ofInt k.bits a) &&& (BitVec.ofInt k.bits b)).toNat
def xorI (k : IntKind) (a b : Int) : Int := k.wrap ((BitVec.ofInt k.bits a) ^^^ (BitVec.ofInt k.bits b)).toNat
theorem bin_or {c : Bool} {k : IntKind} {m n : Int} : binV .or .num c (.d (.i k m)) (.d (.i k n)) = some (.d (.i k (orI k m n))) := by rw [bin_i rfl]; rfl
theorem bin_and {c : Bool} {k : IntKind} {m n : Int} : binV .and .num c (.d (.i k m)) (.d (.i k n)) = some (.d (.i k (andI k m n))) := by rw [bin_i rfl]; rfl
theorem bin_xor {c : Bool} {k : IntKind} {m n : Int} : binV .xor .num c (.d (.i k m)) (.d (.i k n)) = some (.d (.i k (xorI k m n))) := by rw [bin_i rfl]; rfl
def killV (s : Nat) (v : V) : V := match v with | .lp t o => bif Nat.beq t s then .undef else .lp t o | v => v
theorem killLp_nil {s : Nat} : killLp s [] = [] := (rfl)
theorem killLp_cons {s n : Nat} {v : V} {e : Env} : killLp s ((n, v) :: e) = (n, killV s v) :: killLp s e := (rfl)
theorem killV_d {s : Nat} {x : D} : killV s (.d x) = .d x := (rfl)
theorem killV_osl {s : Nat} {x : List D} : killV s (.osl x) = .osl x := (rfl)
theorem killV_ptr {s i o : Nat} : killV s (.ptr i o) = .ptr i o := (rfl)
theorem killV_map {s i : Nat} : killV s (.map i) = .map i := (rfl)
theorem killV_box {s : Nat} {x : List V} : killV s (.box x) = .box x := (rfl)
theorem killV_cp {s : Nat} {x : D} : killV s (.cp x) = .cp x := (rfl)
theorem killV_agg {s : Nat} {x : List V} : killV s (.agg x) = .agg x := (rfl)
theorem killV_tup {s : Nat} {x : List V} : killV s (.tup x) = .tup x := (rfl)
theorem killV_fn {s i : Nat} {x y : List V} : killV s (.fn i x y) = .fn i x y := (rfl)
theorem killV_ifc {s i : Nat} {x : V} : killV s (.ifc i x) = .ifc i x := (rfl)
theorem killV_undef {s : Nat} : killV s .undef = .undef := (rfl)
theorem killV_lp {s t o : Nat} : killV s (.lp t o) = bif Nat.beq t s then .undef else .lp t o := (rfl)
theorem killV_rs {s a b c d : Nat} : killV s (.rs a b c d) = .rs a b c d := (rfl)
theorem killV_slV {α : Type} {s : Nat} {e : α → D} {L : List α} : killV s (slV e L) = slV e L := by cases L <;> rfl
theorem setCells_all {cs vs : List V} (h : (vs.length = cs.length) = True) : setCells cs 0 vs = some vs := by
  have h : vs.length = cs.length := by rw [h]; trivial
  simp [setCells, h]
theorem setCells_2 {cs : List V} {o : Nat} {v w : V} (h : (o + 1 < cs.length) = True) : setCells cs o [v, w] = some ((cs.set o v).set (o + 1) w) := by
  have h : o + 1 < cs.length := by rw [h]; trivial
  have : o + [v, w].length ≤ cs.length := by simp; omega
  rw [setCells, if_pos this]
  congr 1
  apply List.ext_getElem?
  intro j
  simp only [List.getElem?_append, List.length_append, List.length_take, List.length_cons, List.length_nil, List.getElem?_drop, List.getElem?_set, List.length_set, List.getElem?_take]
  rcases Nat.lt_trichotomy j o with hj | hj | hj
  · rw [if_pos (by omega), if_pos (by omega), if_pos (by omega), if_neg (by omega), if_neg (by omega)]
  · subst hj
    rw [if_pos (by omega), if_neg (by omega), if_neg (by omega), if_pos rfl, if_pos (by omega)]
    have : j - min j cs.length = 0 := by omega
    simp [this]
  · by_cases hj2 : j = o + 1
    · subst hj2
      rw [if_pos (by omega), if_neg (by omega), if_pos rfl, if_pos (by omega)]
      have : o + 1 - min o cs.length = 1 := by omega
      simp [this]
    · rw [if_neg (by omega), if_neg (by omega), if_neg (by omega)]
      congr 1; omega
def cpV (r : Option D) : Option V := match r with | some y => bif y.one then some (.cp y) else none | none => none
theorem faV_cpc {cs : List D} {off : Nat} : faV (.cp (.agg cs)) off ⟨1, false⟩ = cpV (cs[off]?) := by
  simp only [faV, D.part, cpV]
  cases h : cs[off]? with
  | none => simp [h]
  | some y => cases hy : y.one <;> simp [h, hy]
theorem cpV_i {k : IntKind} {n : Int} : cpV (some (.i k n)) = some (.cp (.i k n)) := (rfl)
theorem cpV_s {x : List Nat} : cpV (some (.s x)) = some (.cp (.s x)) := (rfl)
theorem cpV_b {x : Bool} : cpV (some (.b x)) = some (.cp (.b x)) := (rfl)
theorem cpV_sl {x : List D} : cpV (some (.sl x)) = some (.cp (.sl x)) := (rfl)
theorem cpV_nil : cpV (some .nil) = some (.cp .nil) := (rfl)
theorem cpV_slD {α : Type} {e : α → D} {L : List α} : cpV (some (slD e L)) = some (.cp (slD e L)) := by cases L <;> rfl
def resC (l : L) (st : St) : V → Option V
  | .box cs => V.part 0 l cs
  | .ptr id off => loadAt l st (.ptr id off)
  | _ => none
theorem resultV_cell {own : Bool} {st : St} {n : Nat} {l : L} : resultV own st (.cell n l) = resC l st (get n st.env) := by
  simp only [resultV, resC]
  cases get n st.env <;> rfl
theorem resC_box {l : L} {st : St} {cs : List V} : resC l st (.box cs) = boxV l 0 (.box cs) := (rfl)
theorem resC_ptr {l : L} {st : St} {i o : Nat} : resC l st (.ptr i o) = loadV none l st (.ptr i o) := (rfl)
theorem boxK_alloc {b : Bool} {cs : List D} : boxK (.alloc b cs) = b := (rfl)
theorem boxK_box {b : Bool} {x : O} : boxK (.box b x) = b := (rfl)
def boxD (r : Bool) (n : Nat) (cs : List V) (st : St) : Option St := bif r then some { st with env := (n, .box cs) :: st.env } else none
theorem putD_bx {no : List Nat} {n : Nat} {cs : List V} {st : St} : putD true no (some n) (.box cs) st = boxD (noLp n st.env) n cs st := by
  simp only [putD, boxD, Bool.true_and]
theorem boxD_t {n : Nat} {cs : List V} {st : St} : boxD true n cs st = some ⟨(n, .box cs) :: st.env, st.H, st.lo⟩ := (rfl)
def lpD (r : Bool) (n m o : Nat) (st : St) : Option St := bif r then none else some { st with env := (n, .lp m o) :: st.env }
theorem putD_lp {bx : Bool} {no : List Nat} {n m o : Nat} {st : St} : putD bx no (some n) (.lp m o) st = lpD (hasNat m no) n m o st := (rfl)
theorem lpD_f {n m o : Nat} {st : St} : lpD false n m o st = some ⟨(n, .lp m o) :: st.env, st.H, st.lo⟩ := (rfl)
theorem hasNat_nil {n : Nat} : hasNat n [] = false := (rfl)
theorem hasNat_cons {n m : Nat} {l : List Nat} : hasNat n (m :: l) = (Nat.beq n m || hasNat n l) := (rfl)
theorem takeV_rs {i o n c : Nat} : takeV (.rs i o n c) = .rs i o n c := (rfl)
theorem takeV_ptr {i o : Nat} : takeV (.ptr i o) = .ptr i o := (rfl)
theorem takeV_map {i : Nat} : takeV (.map i) = .map i := (rfl)
theorem takeV_cp {x : D} : takeV (.cp x) = .cp x := (rfl)
theorem takeV_lp {i o : Nat} : takeV (.lp i o) = .lp i o := (rfl)
theorem takeV_fn {i : Nat} {u w : List V} : takeV (.fn i u w) = .fn i u w := (rfl)
theorem takeV_ifc {t : Nat} {w : V} : takeV (.ifc t w) = .ifc t w := (rfl)
theorem takeV_agg {w : List V} : takeV (.agg w) = .agg w := (rfl)
theorem takeV_tup {w : List V} : takeV (.tup w) = .tup w := (rfl)
theorem putD_rs {bx : Bool} {no : List Nat} {n a b c d : Nat} {st : St} : putD bx no (some n) (.rs a b c d) st = some ⟨(n, .rs a b c d) :: st.env, st.H, st.lo⟩ := by cases bx <;> rfl
theorem putD_slV {α : Type} {bx : Bool} {no : List Nat} {n : Nat} {e : α → D} {L : List α} {st : St} : putD bx no (some n) (slV e L) st = some ⟨(n, slV e L) :: st.env, st.H, st.lo⟩ := by cases L <;> rfl
def noL (n : Nat) (v : V) : Bool := match v with | .lp m _ => !Nat.beq m n | _ => true
theorem noLp_nil {n : Nat} : noLp n [] = true := (rfl)
theorem noLp_c {n k : Nat} {v : V} {e : Env} : noLp n ((k, v) :: e) = (noL n v && noLp n e) := by cases v <;> rfl
theorem noL_d {n : Nat} {x : D} : noL n (.d x) = true := (rfl)
theorem noL_osl {n : Nat} {x : List D} : noL n (.osl x) = true := (rfl)
theorem noL_ptr {n i o : Nat} : noL n (.ptr i o) = true := (rfl)
theorem noL_map {n i : Nat} : noL n (.map i) = true := (rfl)
theorem noL_box {n : Nat} {x : List V} : noL n (.box x) = true := (rfl)
theorem noL_cp {n : Nat} {x : D} : noL n (.cp x) = true := (rfl)
theorem noL_agg {n : Nat} {x : List V} : noL n (.agg x) = true := (rfl)
theorem noL_tup {n : Nat} {x : List V} : noL n (.tup x) = true := (rfl)
theorem noL_fn {n i : Nat} {x y : List V} : noL n (.fn i x y) = true := (rfl)
theorem noL_ifc {n i : Nat} {x : V} : noL n (.ifc i x) = true := (rfl)
theorem noL_undef {n : Nat} : noL n .undef = true := (rfl)
theorem noL_rs {n a b c d : Nat} : noL n (.rs a b c d) = true := (rfl)
theorem noL_lp {n m o : Nat} : noL n (.lp m o) = !Nat.beq m n := (rfl)
theorem noL_slV {α : Type} {n : Nat} {e : α → D} {L : List α} : noL n (slV e L) = true := by cases L <;> rfl
theorem keySet_nil {k : D} {v : V} : keySet k v [] = some [(k, v)] := (rfl)
theorem setAt_one {o o' : Obj} : setAt [o] 0 o' = [o'] := (rfl)
def e8 (n : Nat) : D := .i .u8 (n : Int)
theorem e8_cells (n : Nat) : (e8 n).cells.length = 1 := rfl
theorem wrap_u8 (n : Nat) (h : n < 256) : IntKind.wrap .u8 (n : Int) = (n : Int) := by
  simp [IntKind.wrap, IntKind.bits, IntKind.signed]; omega
theorem or_more {n : Nat} (h : n < 128) : orI .u8 (n : Int) 128 = ((n + 128 : Nat) : Int) := by
  have key : ∀ m : Fin 128, orI .u8 ((m.val : Nat) : Int) 128 = ((m.val + 128 : Nat) : Int) := by decide +kernel
  exact key ⟨n, h⟩
theorem conv_u8 (n : Nat) : wr .u8 (n : Int) = ((n % 256 : Nat) : Int) := by
  by_cases h : n ≤ 255
  · rw [wr_u8 (by omega) (by omega), Nat.mod_eq_of_lt (by omega)]
  · show (bif Nat.ble n 255 then (Int.ofNat n) else IntKind.wrap .u8 (Int.ofNat n)) = _
    have : Nat.ble n 255 = false := by rw [ble_d]; simp; omega
    rw [this]
    simp [IntKind.wrap, IntKind.bits, IntKind.signed]
theorem or_more' {n : Nat} : orI .u8 ((n % 256 : Nat) : Int) 128 = ((n % 128 + 128 : Nat) : Int) := by
  have key : ∀ m : Fin 256, orI .u8 ((m.val : Nat) : Int) 128 = ((m.val % 128 + 128 : Nat) : Int) := by decide +kernel
  have := key ⟨n % 256, Nat.mod_lt _ (by omega)⟩
  simp only at this
  rw [this]
  omega
theorem shr7 (n : Nat) : Int.fdiv (n : Int) (2 ^ (min (7 : Int).toNat (IntKind.bits .u64))) = ((n / 128 : Nat) : Int) := by
  show Int.fdiv (n : Int) (2 ^ 7) = _
  rw [Int.fdiv_eq_ediv_of_nonneg _ (by omega)]
  omega
end W

/- Walking on: interfaces, panics, function values, deferred closures. -/
set_option linter.unusedSimpArgs false
set_option linter.unusedVariables false
namespace W
open Go (IntKind BinOp UnOp)
variable {pg : Pg} {st : St} {call : Call}
def mkIfcV (t : Nat) (v : V) (st : St) : Option Or := if v.ok then some ⟨false, true, .ifc t v, st⟩ else none
theorem evalK_mkIfc {t : Nat} {x : O} : evalK call (.mkIfc t x) st = mkIfcV t (rd st.env x) st := (rfl)
theorem mkIfcV_d {t : Nat} {x : D} : mkIfcV t (.d x) st = some ⟨false, true, .ifc t (.d x), st⟩ := (rfl)
def panV (v : V) (st : St) : Option Or := match v with | .ifc t y => some ⟨true, true, .ifc t y, st⟩ | _ => none
theorem evalK_panic {x : O} : evalK call (.panic x) st = panV (rd st.env x) st := (rfl)
theorem panV_ifc {t : Nat} {y : V} : panV (.ifc t y) st = some ⟨true, true, .ifc t y, st⟩ := (rfl)
theorem ifc_neq {t : Nat} {x : V} : binV .neq .iface true (.ifc t x) (.d .ni) = some (.d (.b true)) := (rfl)
theorem ifc_eql {t : Nat} {x : V} : binV .eql .iface true (.ifc t x) (.d .ni) = some (.d (.b false)) := (rfl)
theorem ni_neq : binV .neq .iface true (.d .ni) (.d .ni) = some (.d (.b false)) := (rfl)
theorem ni_eql : binV .eql .iface true (.d .ni) (.d .ni) = some (.d (.b true)) := (rfl)
noncomputable def callV (pg : Pg) (v : V) (args : List O) (st : St) : Option Or :=
  match v with
  | .fn i first cap =>
    let vs := first ++ args.map (rd st.env) ++ cap
    if V.allLeave vs then (match callL pg i vs st.H with
      | some r => some ⟨r.pan, r.same, r.v, { env := spentAll args st.env, H := r.H, lo := min st.lo r.lo }⟩
      | none => none) else none
  | _ => none
theorem eCall_t {n : Nat} {args : List O} : eCall (callL pg) (.t n) args st = callV pg (rd st.env (.t n)) args st := (rfl)
theorem callV_fn {i : Nat} {args : List O} (hl : V.allLeave (args.map (rd st.env)) = true) : callV pg (.fn i [] []) args st = callC (callL pg i (args.map (rd st.env)) st.H) args st := by
  have : ([] : List V) ++ args.map (rd st.env) ++ [] = args.map (rd st.env) := by simp
  simp only [callV, this, hl, if_true, callC]
  all_goals rfl
theorem leaves_ifcd {t : Nat} {x : D} : V.leaves (.ifc t (.d x)) = true := (rfl)
theorem leaves_ifcu {t : Nat} : V.leaves (.ifc t .undef) = true := (rfl)
def mkFnV (f : Nat) (a b : List V) (st : St) : Option Or := if V.ok.oks a && V.ok.oks b then some ⟨false, true, .fn f a b, st⟩ else none
theorem evalK_mkFn {f : Nat} {a b : List O} : evalK call (.mkFn f a b) st = mkFnV f (a.map (rd st.env)) (b.map (rd st.env)) st := (rfl)
theorem mkFnV_ok {f : Nat} {a b : List V} (h : (V.ok.oks a && V.ok.oks b) = true) : mkFnV f a b st = some ⟨false, true, .fn f a b, st⟩ := by simp [mkFnV, h]
theorem copy_fn {f : Nat} {a b : List V} : copy (.fn f a b) = .fn f a b := (rfl)
theorem killV_ifcd {s t : Nat} {x : D} : killV s (.ifc t (.d x)) = .ifc t (.d x) := (rfl)
theorem killV_ifcu {s t : Nat} : killV s (.ifc t .undef) = .ifc t .undef := (rfl)
theorem noL_ifcd {n t : Nat} {x : D} : noL n (.ifc t (.d x)) = true := (rfl)
theorem noL_ifcu {n t : Nat} : noL n (.ifc t .undef) = true := (rfl)
theorem putD_fn {bx : Bool} {no : List Nat} {n f : Nat} {a b : List V} : putD bx no (some n) (.fn f a b) st = some ⟨(n, .fn f a b) :: st.env, st.H, st.lo⟩ := by cases bx <;> rfl
theorem putD_ifc {bx : Bool} {no : List Nat} {n f : Nat} {a : V} : putD bx no (some n) (.ifc f a) st = some ⟨(n, .ifc f a) :: st.env, st.H, st.lo⟩ := by cases bx <;> rfl
theorem leave_sc {H : List Obj} {pan : Bool} {v : V} {e : Env} {lo id : Nat} {o : Obj} (hv : v.leaves = true) (hr : v.ref = 0) (hs : ∀ G, settle H.length G v = v) (hh : setAt H id o = H ∨ lo ≤ id) (hid : id < H.length) :
    ∃ sm, leave H pan v ⟨e, setAt H id o, lo⟩ = some ⟨pan, sm, v, setAt H id o, lo⟩ := by
  by_cases hl : H.length ≤ lo
  · have he : setAt H id o = H := by
      rcases hh with h | h
      · exact h
      · omega
    rw [he]
    exact ⟨true, leave_same hv (by omega) hl (hs _)⟩
  · exact ⟨false, leave_new hv (.inr (by simp only; omega)) (hs _)⟩
theorem copy_ifc {t : Nat} {x : V} : copy (.ifc t x) = .ifc t x := (rfl)
theorem copy1_ifc {t : Nat} {x : V} : copy1 (.ifc t x) = .ifc t x := (rfl)
theorem ok_undef : V.ok .undef = true := (rfl)
end W

/-
  The same evaluator, in forms that the kernel reckons fast.
-/
set_option linter.unusedSimpArgs false
set_option linter.unusedVariables false
namespace W
open Go (IntKind BinOp UnOp)
noncomputable def fget (n : Nat) (e : Env) : V := List.rec (motive := fun _ => V) .undef (fun p _ ih => Bool.rec ih p.2 (Nat.beq n p.1)) e
theorem fget_eq (n : Nat) (e : Env) : fget n e = get n e := by
  induction e with
  | nil => rfl
  | cons p e ih =>
    obtain ⟨m, v⟩ := p
    show Bool.rec (fget n e) v (Nat.beq n m) = bif Nat.beq n m then v else get n e
    rw [ih]
    cases Nat.beq n m <;> rfl
noncomputable def fnth {α : Type} (l : List α) (n : Nat) : Option α :=
  List.rec (motive := fun _ => Nat → Option α) (fun _ => none) (fun x _ ih n => Nat.rec (motive := fun _ => Option α) (some x) (fun m _ => ih m) n) l n
theorem fnth_eq {α : Type} (l : List α) (n : Nat) : fnth l n = l[n]? := by
  induction l generalizing n with
  | nil => rfl
  | cons x l ih =>
    cases n with
    | zero => rfl
    | succ n => exact ih n
noncomputable def frd (e : Env) (o : O) : V := O.rec (motive := fun _ => V) (fun n => readV n (fget n e)) (fun x => .d x) (fun i => .fn i [] []) (fun n => takeV (fget n e)) (fun _ x => .cp x) o
theorem frd_eq (e : Env) (o : O) : frd e o = rd e o := by cases o <;> simp only [frd, fget_eq] <;> rfl
noncomputable def forceN {α : Type} (a : Nat) (k : Nat → α) : α := Nat.rec (motive := fun _ => α) (k 0) (fun m _ => k (Nat.succ m)) a
noncomputable def forceI {α : Type} (n : Int) (k : Int → α) : α := Int.rec (motive := fun _ => α) (fun a => forceN a fun a => k (.ofNat a)) (fun a => forceN a fun a => k (.negSucc a)) n
noncomputable def forceB {α : Type} (b : Bool) (k : Bool → α) : α := Bool.rec (motive := fun _ => α) (k false) (k true) b
theorem forceN_eq {α : Type} (a : Nat) (k : Nat → α) : forceN a k = k a := by cases a <;> rfl
theorem forceI_eq {α : Type} (n : Int) (k : Int → α) : forceI n k = k n := by
  cases n with
  | ofNat a => exact forceN_eq a fun a => k (.ofNat a)
  | negSucc a => exact forceN_eq a fun a => k (.negSucc a)
theorem forceB_eq {α : Type} (b : Bool) (k : Bool → α) : forceB b k = k b := by cases b <;> rfl
noncomputable def forceT {α : Type} (l : List Nat) (k : List Nat → α) : α :=
  List.rec (motive := fun _ => (List Nat → α) → α) (fun k => k []) (fun x _ ih k => forceN x fun x => ih fun r => k (x :: r)) l k
theorem forceT_eq {α : Type} (l : List Nat) (k : List Nat → α) : forceT l k = k l := by
  induction l generalizing k with
  | nil => rfl
  | cons x l ih => exact (forceN_eq x fun x => forceT l fun r => k (x :: r)).trans (ih fun r => k (x :: r))
noncomputable def forceS {β α : Type} (f : β → (β → α) → α) (l : List β) (k : List β → α) : α :=
  List.rec (motive := fun _ => (List β → α) → α) (fun k => k []) (fun x _ ih k => f x fun x => ih fun r => k (x :: r)) l k
theorem forceS_eq {β α : Type} {f : β → (β → α) → α} (hf : ∀ x k, f x k = k x) (l : List β) (k : List β → α) : forceS f l k = k l := by
  induction l generalizing k with
  | nil => rfl
  | cons x l ih => exact (hf x fun x => forceS f l fun r => k (x :: r)).trans (ih fun r => k (x :: r))
noncomputable def forceD1 {α : Type} (x : D) (k : D → α) : α :=
  D.casesOn (motive_1 := fun _ => α) x (fun z => forceB z fun z => k (.b z)) (fun kk n => forceI n fun n => k (.i kk n)) (fun t => k (.s t)) (k .nil) (fun xs => k (.sl xs)) (fun cs => k (.agg cs)) (k .np) (k .nf) (k .ni) (k .nm)
theorem forceD1_eq {α : Type} (x : D) (k : D → α) : forceD1 x k = k x := by
  cases x with
  | b z => exact forceB_eq z fun z => k (.b z)
  | i kk n => exact forceI_eq n fun n => k (.i kk n)
  | _ => rfl
noncomputable def forceD {α : Type} (x : D) (k : D → α) : α :=
  D.casesOn (motive_1 := fun _ => α) x (fun z => forceB z fun z => k (.b z)) (fun kk n => forceI n fun n => k (.i kk n)) (fun t => forceT t fun t => k (.s t)) (k .nil) (fun xs => forceS forceD1 xs fun xs => k (.sl xs)) (fun cs => forceS forceD1 cs fun cs => k (.agg cs)) (k .np) (k .nf) (k .ni) (k .nm)
theorem forceD_eq {α : Type} (x : D) (k : D → α) : forceD x k = k x := by
  cases x with
  | b z => exact forceB_eq z fun z => k (.b z)
  | i kk n => exact forceI_eq n fun n => k (.i kk n)
  | s t => exact forceT_eq t fun t => k (.s t)
  | sl xs => exact forceS_eq forceD1_eq xs fun xs => k (.sl xs)
  | agg xs => exact forceS_eq forceD1_eq xs fun xs => k (.agg xs)
  | _ => rfl
noncomputable def forceV1 {α : Type} (v : V) (k : V → α) : α :=
  V.casesOn (motive_1 := fun _ => α) v (fun x => forceD1 x fun x => k (.d x)) (fun xs => k (.osl xs)) (fun i o => forceN i fun i => forceN o fun o => k (.ptr i o)) (fun i o => forceN i fun i => forceN o fun o => k (.lp i o)) (fun cs => k (.box cs)) (fun x => k (.cp x))
    (fun i o n c => k (.rs i o n c)) (fun i => forceN i fun i => k (.map i)) (fun f a b => k (.fn f a b)) (fun t x => k (.ifc t x)) (fun cs => k (.agg cs)) (fun vs => k (.tup vs)) (k .undef)
theorem forceV1_eq {α : Type} (v : V) (k : V → α) : forceV1 v k = k v := by
  cases v with
  | d x => exact forceD1_eq x fun x => k (.d x)
  | _ => simp only [forceV1, forceN_eq]
noncomputable def forceV {α : Type} (v : V) (k : V → α) : α :=
  V.casesOn (motive_1 := fun _ => α) v (fun x => forceD x fun x => k (.d x)) (fun xs => forceS forceD1 xs fun xs => k (.osl xs)) (fun i o => forceN i fun i => forceN o fun o => k (.ptr i o)) (fun i o => forceN i fun i => forceN o fun o => k (.lp i o)) (fun cs => forceS forceV1 cs fun cs => k (.box cs)) (fun x => forceD1 x fun x => k (.cp x))
    (fun i o n c => forceN i fun i => forceN o fun o => forceN n fun n => forceN c fun c => k (.rs i o n c)) (fun i => forceN i fun i => k (.map i)) (fun f a b => forceN f fun f => k (.fn f a b)) (fun t x => k (.ifc t x)) (fun cs => forceS forceV1 cs fun cs => k (.agg cs)) (fun vs => forceS forceV1 vs fun vs => k (.tup vs)) (k .undef)
theorem forceV_eq {α : Type} (v : V) (k : V → α) : forceV v k = k v := by
  cases v with
  | d x => exact forceD_eq x fun x => k (.d x)
  | osl xs => exact forceS_eq forceD1_eq xs fun xs => k (.osl xs)
  | box cs => exact forceS_eq forceV1_eq cs fun cs => k (.box cs)
  | cp x => exact forceD1_eq x fun x => k (.cp x)
  | agg cs => exact forceS_eq forceV1_eq cs fun cs => k (.agg cs)
  | tup cs => exact forceS_eq forceV1_eq cs fun cs => k (.tup cs)
  | _ => simp only [forceV, forceN_eq]
noncomputable def forceO {α : Type} (o : Obj) (k : Obj → α) : α :=
  Obj.casesOn (motive := fun _ => α) o (fun cs => forceS forceV1 cs fun cs => k (.cells cs)) (fun es => forceS (fun p k => forceV1 p.2 fun v => k (p.1, v)) es fun es => k (.map es))
theorem forceO_eq {α : Type} (o : Obj) (k : Obj → α) : forceO o k = k o := by
  cases o with
  | cells cs => exact forceS_eq forceV1_eq cs fun cs => k (.cells cs)
  | map es => exact forceS_eq (fun p k => forceV1_eq p.2 fun v => k (p.1, v)) es fun es => k (.map es)
noncomputable def forceH {α : Type} (H : List Obj) (k : List Obj → α) : α := forceS (fun o k => forceO o k) H k
theorem forceH_eq {α : Type} (H : List Obj) (k : List Obj → α) : forceH H k = k H := forceS_eq forceO_eq _ _
noncomputable def fPart (l : L) (off : Nat) (cs : List V) : Option V := Bool.rec (motive := fun _ => Option V) ((fnth cs off).map copy1) (V.part off l cs) l.agg
noncomputable def fLoadAt (l : L) (st : St) (v : V) : Option V :=
  match v with
  | .lp s off => match fget s st.env with
    | .box cs => fPart l off cs
    | _ => none
  | .ptr id off => match fnth st.H id with
    | some (.cells cs) => fPart l off cs
    | _ => none
  | v => loadAt l st v
theorem part_f (l : L) (off : Nat) (cs : List V) : fPart l off cs = V.part off l cs := by
  obtain ⟨n, agg⟩ := l
  cases agg with
  | true => rfl
  | false => show (fnth cs off).map copy1 = _; rw [fnth_eq]; simp [V.part]
theorem fLoadAt_eq : fLoadAt = loadAt := by
  funext l st v
  cases v <;> simp only [fLoadAt, part_f, fget_eq, fnth_eq] <;> rfl
noncomputable def fMov (x : O) (st : St) : Option Or := ok (frd st.env x) { st with env := spent x st.env }
noncomputable def fPick (c : O) (a : O) (b : O) (st : St) : Option Or :=
  match frd st.env c with
    | .d (.b z) => ok (Bool.rec (motive := fun _ => V) (frd st.env b) (frd st.env a) z) st
    | _ => none
noncomputable def fLoad (mv : Bool) (sl : Option Nat) (l : L) (a : O) (st : St) : Option Or :=
  Bool.rec (motive := fun _ => Option Or) (bif !slotIs sl (frd st.env a) then none else (match fLoadAt l st (frd st.env a) with | some v => ok v st | none => none)) (eLoad true sl l a st) mv
noncomputable def fNilCheck (x : O) (st : St) : Option Or :=
  match frd st.env x with
    | .ptr id off => ok (.ptr id off) st
    | .lp s off => ok (.lp s off) st
    | .cp y => ok (.cp y) st
    | _ => none
noncomputable def fBin (op : BinOp) (kd : Kd) (x : O) (y : O) (st : St) : Option Or :=
  match binV op kd (isC x || isC y) (frd st.env x) (frd st.env y) with
    | some v => ok v st
    | none => none
noncomputable def fFieldAddr (x : O) (off : Nat) (l : L) (st : St) : Option Or :=
  match frd st.env x with
    | .ptr id o => ok (.ptr id (o + off)) st
    | .lp s o => ok (.lp s (o + off)) st
    | _ => eFieldAddr x off l st
noncomputable def fIndexAddr (x : O) (i : O) (size : Nat) (arr : Option Nat) (st : St) : Option Or :=
  match frd st.env i with
    | .d (.i _ n) => match arr with
      | some len => bif leI 0 n && !leI len n then (match frd st.env x with
        | .ptr id o => ok (.ptr id (o + n.toNat * size)) st
        | .lp s o => ok (.lp s (o + n.toNat * size)) st
        | .cp (.agg cs) => bif Nat.beq size 1 then (match fnth cs n.toNat with
          | some y => if y.one then ok (.cp y) st else none
          | none => none) else none
        | _ => none) else none
      | none => bif leI 0 n then (match frd st.env x with
        | .d (.sl xs) => match fnth xs n.toNat with
          | some y => bif Nat.beq y.cells.length size then ok (.cp y) st else none
          | none => none
        | .rs id o len _ => bif !leI len n && Nat.beq size 1 then ok (.ptr id (o + n.toNat)) st else none
        | _ => none) else none
    | _ => none
noncomputable def fIndex (x : O) (i : O) (st : St) : Option Or :=
  match frd st.env x, frd st.env i with
    | .d (.s t), .d (.i _ n) => bif leI 0 n then (match fnth t n.toNat with
        | some y => ok (.d (.i .u8 y)) st
        | none => none) else none
    | _, _ => none
noncomputable def fExtract (x : O) (i : Nat) (st : St) : Option Or :=
  match x with
    | .t n => match fget n st.env with
      | .tup vs => match fnth vs i with
        | some v => ok (copy v) st
        | none => none
      | _ => none
    | _ => none
noncomputable def fLen {α : Type} (l : List α) : Nat := List.rec (motive := fun _ => Nat) 0 (fun _ _ ih => Nat.succ ih) l
theorem fLen_eq {α : Type} (l : List α) : fLen l = l.length := by
  induction l with
  | nil => rfl
  | cons x l ih => simp only [List.length_cons, ← ih]; rfl
noncomputable def fLenS (x : O) (st : St) : Option Or :=
  match frd st.env x with
    | .d (.s t) => ok (.d (.i .i64 (fLen t))) st
    | _ => none
noncomputable def fLenL (x : O) (st : St) : Option Or :=
  match frd st.env x with
    | .d .nil => ok (.d (.i .i64 0)) st
    | .d (.sl xs) => ok (.d (.i .i64 (fLen xs))) st
    | .rs _ _ n _ => ok (.d (.i .i64 n)) st
    | _ => none
noncomputable def fBi (b : Bi) (args : List O) (st : St) : Option Or :=
  match b, args with
    | .lenS, [x] => fLenS x st
    | .lenL, [x] => fLenL x st
    | b, l => eBi b l st
noncomputable def fevalK (call : Call) (k : OpK) (st : St) : Option Or :=
  match k with
  | .mov x => fMov x st
  | .pick c a b => fPick c a b st
  | .load mv sl l a => fLoad mv sl l a st
  | .nilCheck x => fNilCheck x st
  | .bin op kd x y => fBin op kd x y st
  | .fieldAddr x off l => fFieldAddr x off l st
  | .indexAddr x i size arr => fIndexAddr x i size arr st
  | .index x i => fIndex x i st
  | .extract x i => fExtract x i st
  | .bi b args => fBi b args st
  | k => evalK call k st
theorem fevalK_eq : fevalK = evalK := by
  funext call k st
  cases k with
  | mov x => simp only [fevalK, fMov, frd_eq]; rfl
  | pick c a b =>
    simp only [fevalK, fPick, frd_eq, evalK, ePick]
    cases rd st.env c with
    | d w => cases w with
      | b z => cases z <;> rfl
      | _ => rfl
    | _ => rfl
  | load mv sl l a => cases mv <;> simp only [fevalK, fLoad, frd_eq, fLoadAt_eq] <;> rfl
  | nilCheck x => simp only [fevalK, fNilCheck, frd_eq]; rfl
  | bin op kd x y => simp only [fevalK, fBin, frd_eq]; rfl
  | fieldAddr x off l =>
    simp only [fevalK, fFieldAddr, frd_eq, evalK]
    split <;> rename_i h <;> (try simp only [eFieldAddr, h])
  | indexAddr x i size arr => simp only [fevalK, fIndexAddr, frd_eq, fnth_eq]; rfl
  | index x i => simp only [fevalK, fIndex, frd_eq, fnth_eq]; rfl
  | extract x i => simp only [fevalK, fExtract, fget_eq, fnth_eq]; rfl
  | bi b args =>
    simp only [fevalK, fBi, evalK]
    split
    · rename_i x; simp only [fLenS, frd_eq, fLen_eq]; rfl
    · rename_i x
      simp only [fLenL, frd_eq, fLen_eq]
      show _ = eLenL x st
      unfold eLenL
      cases rd st.env x with
      | d w => cases w <;> rfl
      | _ => rfl
    · rfl
  | _ => rfl
noncomputable def makes (k : OpK) : Bool :=
  match k with
  | .mov _ => false
  | .load _ _ _ _ => false
  | .extract _ _ => false
  | .pick _ _ _ => false
  | .nilCheck _ => false
  | .store _ _ _ _ => false
  | .call _ _ => false
  | .indexAddr _ _ _ _ => false
  | .fieldAddr _ _ _ => false
  | .field _ _ _ => false
  | _ => true
noncomputable def forceM {α : Type} (m : Bool) (v : V) (k : V → α) : α := Bool.rec (motive := fun _ => α) (forceV1 v k) (forceV v k) m
theorem forceM_eq {α : Type} (m : Bool) (v : V) (k : V → α) : forceM m v k = k v := by
  cases m
  · exact forceV1_eq v k
  · exact forceV_eq v k
noncomputable def fput (m : Bool) (dst : Option Nat) (v : V) (same : Bool) (st : St) (k : St → Option (Ex × St)) : Option (Ex × St) :=
  forceM m v fun v => Option.rec (motive := fun _ => Option (Ex × St)) (Bool.rec (motive := fun _ => Option (Ex × St)) (forceH st.H fun H => forceN st.lo fun lo => k { st with H := H, lo := lo }) (k st) same)
    (fun n => Bool.rec (motive := fun _ => Option (Ex × St)) (forceH st.H fun H => forceN st.lo fun lo => k (put (some n) v { st with H := H, lo := lo })) (k (put (some n) v st)) same) dst
theorem fput_eq (m : Bool) (dst : Option Nat) (v : V) (same : Bool) (st : St) (k : St → Option (Ex × St)) : fput m dst v same st k = k (put dst v st) := by
  unfold fput
  rw [forceM_eq]
  cases dst with
  | none => cases same <;> simp only [forceH_eq, forceN_eq] <;> rfl
  | some n => cases same <;> simp only [forceH_eq, forceN_eq]
noncomputable def frunOps (call : Call) (l : List Op) : St → Option (Ex × St) :=
  List.rec (motive := fun _ => St → Option (Ex × St)) (fun st => some (.nrm, st)) (fun o _ ih st =>
    match wanted o.g st.env with
    | some true => match fevalK call o.k st with
      | some r => Bool.rec (motive := fun _ => Option (Ex × St)) (fput (makes o.k) o.dst r.v r.same r.st ih) (some (.pan r.v, r.st)) r.pan
      | none => none
    | some false => ih (put o.dst (.tup []) st)
    | none => none) l
theorem frunOps_eq (call : Call) (l : List Op) : frunOps call l = runOps call l := by
  induction l with
  | nil => rfl
  | cons o l ih =>
    funext st
    show (match wanted o.g st.env with
    | some true => match fevalK call o.k st with
      | some r => Bool.rec (motive := fun _ => Option (Ex × St)) (fput (makes o.k) o.dst r.v r.same r.st (frunOps call l)) (some (.pan r.v, r.st)) r.pan
      | none => none
    | some false => frunOps call l (put o.dst (.tup []) st)
    | none => none) = _
    simp only [ih, fevalK_eq, fput_eq, runOps]
    cases wanted o.g st.env with
    | none => rfl
    | some b =>
      cases b with
      | false => rfl
      | true =>
        simp only
        cases evalK call o.k st with
        | none => rfl
        | some r =>
          simp only
          cases r.pan <;> rfl
noncomputable def frestrict (live : List Nat) (e : Env) (k : Env → Option (Ex × St)) : Option (Ex × St) :=
  List.rec (motive := fun _ => (Env → Option (Ex × St)) → Option (Ex × St)) (fun k => k []) (fun n _ ih k => forceV1 (match fget n e with | .lp _ _ => .undef | v => v) fun v => ih fun r => k ((n, v) :: r)) live k
theorem frestrict_eq (live : List Nat) (e : Env) (k : Env → Option (Ex × St)) : frestrict live e k = k (restrict live e) := by
  induction live generalizing k with
  | nil => rfl
  | cons n l ih =>
    show forceV1 (match fget n e with | .lp _ _ => .undef | v => v) (fun v => frestrict l e fun r => k ((n, v) :: r)) = _
    rw [forceV1_eq, ih, fget_eq]
    rfl
noncomputable def fstep (call : Call) (ex : C → St → Option (Ex × St)) (c : C) (st : St) : Option (Ex × St) :=
  match c with
  | .ops l => frunOps call l st
  | .cond o a b => match frd st.env o with
    | .d (.b true) => ex a st
    | .d (.b false) => ex b st
    | _ => none
  | .block id live a => match ex a st with
    | some (.nrm, st') => frestrict live st'.env fun e => some (.nrm, { st' with env := e })
    | some (.exit j, st') => bif Nat.beq j id then frestrict live st'.env fun e => some (.nrm, { st' with env := e }) else some (.exit j, st')
    | r => r
  | .loop live a => frestrict live st.env fun e => match ex a { st with env := e } with
    | some (.nrm, st') => ex (.loop live a) st'
    | r => r
  | c => step call ex c st
theorem fstep_eq (call : Call) (ex : C → St → Option (Ex × St)) : fstep call ex = step call ex := by
  funext c st
  cases c with
  | ops l => simp only [fstep, frunOps_eq]; rfl
  | cond o a b => simp only [fstep, frd_eq]; rfl
  | block id live a => simp only [fstep, frestrict_eq]; rfl
  | loop live a => simp only [fstep, frestrict_eq]; rfl
  | _ => rfl
noncomputable def fexec (pg : Pg) (n : Nat) : C → St → Option (Ex × St) :=
  Nat.rec (motive := fun _ => C → St → Option (Ex × St)) (fun _ _ => none) (fun _ ih => fstep (callWith pg ih) ih) n
theorem fexec_eq (pg : Pg) (n : Nat) : fexec pg n = exec pg n := by
  induction n with
  | zero => rfl
  | succ n ih =>
    show fstep (callWith pg (fexec pg n)) (fexec pg n) = _
    rw [ih, fstep_eq]
    rfl
noncomputable def fcall (pg : Pg) (n : Nat) : Call := callWith pg (fexec pg n)
theorem fcall_eq (pg : Pg) (n : Nat) : fcall pg n = callN pg n := by unfold fcall callN; rw [fexec_eq]
theorem fcall_lim {pg : Pg} {n f : Nat} {vs : List V} {H : List Obj} {r : Cr} (h : fcall pg n f vs H = some r) : callL pg f vs H = some r := by
  rw [fcall_eq] at h
  exact callL_iff.2 ⟨n, h⟩
end W

