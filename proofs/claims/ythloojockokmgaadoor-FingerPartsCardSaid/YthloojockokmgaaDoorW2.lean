/-
  FingerParts: what a module exports is told in its text, each of it: part 2 of what the proof rests on (a value semantics for a part of the language, sound against the model; the walks).
-/
import Derived.Calls
import Derived.Orders
import Derived.Laws.Cells
import Derived.Laws.AppendOwn
import Derived.Lib.Strings
import Derived.Laws.StructEq
import Derived.Test.YthloojockokmgaaDoorW1
set_option linter.unusedVariables false
namespace W
def glD (n : Nat) : D :=
  bif Nat.beq n 1 then gl_internal_strconv_uint64pow10 else
  bif Nat.beq n 9 then gl_math_bits_deBruijn32tab else
  bif Nat.beq n 10 then gl_math_bits_deBruijn64tab else .nil
def f_gosem_cut_init : Fn := ⟨0, [], false,
  .ops [⟨(some 0), .call (.f 1) [], none⟩]⟩
def f_waferlaw18_FingerParts : Fn := ⟨3, [(.t 6)], true,
  (.seq (.ops [⟨(some 6), .mov (.c (.b false)), none⟩])
  ((.seq ((.seq (.ops [⟨(some 8), .call (.f 4) [], none⟩,
    ⟨(some 9), .un .not (.t 8), none⟩])
  ((.cond (.t 9) ((.seq (.ops [⟨(some 6), .mov (.c (.b false)), none⟩])
   (.ret)))
   (.skip)))))
  ((.seq (.ops [⟨(some 10), .call (.f 5) [(.c (.i .i64 1))], none⟩,
    ⟨(some 11), .call (.f 5) [(.c (.i .i64 4))], none⟩,
    ⟨(some 12), .call (.f 5) [(.c (.i .i64 2))], none⟩,
    ⟨(some 13), .call (.f 6) [(.c (.i .i64 3)), (.t 12)], none⟩,
    ⟨(some 14), .call (.f 5) [(.c (.i .i64 2))], none⟩,
    ⟨(some 15), .call (.f 6) [(.c (.i .i64 4)), (.t 14)], none⟩,
    ⟨(some 16), .build [(.i .i64 0), (.i .i64 0), (.s []), .nil] [(0, 1, (.c (.i .i64 8))), (2, 1, (.c (.s [77, 46, 82])))], none⟩,
    ⟨(some 17), .build [(.i .i64 0), (.i .i64 0), (.s []), .nil] [(0, 1, (.c (.i .i64 9))), (2, 1, (.c (.s [77, 46, 82])))], none⟩,
    ⟨(some 18), .buildSlice (.agg [(.i .i64 0), (.i .i64 0), (.s []), .nil]) 6 [(0, (.t 10)), (1, (.t 11)), (2, (.t 13)), (3, (.t 15)), (4, (.t 16)), (5, (.t 17))], none⟩,
    ⟨(some 7), .mov (.mv 18), none⟩])
  ((.seq (.opsD [(⟨(some 19), .mov (.t 2), none⟩, false, []),
    (⟨(some 20), .mov (.t 7), none⟩, false, []),
    (⟨(some 21), .mov (.t 0), none⟩, false, []),
    (⟨(some 22), .bin .rem .num (.t 21) (.c (.i .u8 6)), none⟩, false, []),
    (⟨(some 23), .indexAddr (.t 20) (.t 22) 4 none, none⟩, false, []),
    (⟨(some 24), .load false none ⟨4, true⟩ (.t 23), none⟩, false, []),
    (⟨(some 25), .mov (.t 0), none⟩, false, []),
    (⟨(some 26), .call (.f 8) [(.t 19), (.t 24), (.t 25)], none⟩, false, []),
    (⟨(some 27), .call (.f 7) [(.t 26)], none⟩, false, []),
    (⟨(some 28), .mov (.t 2), none⟩, false, []),
    (⟨(some 29), .mov (.t 7), none⟩, false, []),
    (⟨(some 30), .mov (.t 1), none⟩, false, []),
    (⟨(some 31), .bin .rem .num (.t 30) (.c (.i .u8 6)), none⟩, false, []),
    (⟨(some 32), .indexAddr (.t 29) (.t 31) 4 none, none⟩, false, []),
    (⟨(some 33), .load false none ⟨4, true⟩ (.t 32), none⟩, false, []),
    (⟨(some 34), .mov (.t 1), none⟩, false, []),
    (⟨(some 35), .call (.f 8) [(.mv 28), (.t 33), (.t 34)], none⟩, false, []),
    (⟨(some 36), .call (.f 7) [(.t 35)], none⟩, false, []),
    (⟨(some 37), .bin .eql .num (.t 27) (.t 36), none⟩, false, []),
    (⟨(some 38), .mov (.t 0), none⟩, false, []),
    (⟨(some 39), .bin .rem .num (.t 38) (.c (.i .u8 6)), none⟩, false, []),
    (⟨(some 40), .mov (.t 1), none⟩, false, []),
    (⟨(some 41), .bin .rem .num (.t 40) (.c (.i .u8 6)), none⟩, false, []),
    (⟨(some 42), .bin .eql .num (.t 39) (.t 41), none⟩, false, []),
    (⟨(some 43), .bin .eql .bool (.t 37) (.t 42), none⟩, true, []),
    (⟨(some 6), .mov (.t 43), none⟩, true, [])])
  (.ret))))))))⟩
def f_waferlaw18_known : Fn := ⟨0, [(.t 0)], true,
  (.seq (.ops [⟨(some 0), .mov (.c (.b false)), none⟩])
  ((.seq (.ops [⟨(some 2), .build [(.i .i64 0), (.i .i64 0), (.s []), .nil] [(0, 1, (.c (.i .i64 1)))], none⟩,
    ⟨(some 3), .build [(.s []), (.b false), (.i .i64 0), (.i .i64 0), (.s []), .nil] [(0, 1, (.c (.s [120]))), (1, 1, (.c (.b true))), (2, 4, (.t 2))], none⟩,
    ⟨(some 4), .build [(.i .i64 0), (.i .i64 0), (.s []), .nil] [(0, 1, (.c (.i .i64 1)))], none⟩,
    ⟨(some 5), .build [(.s []), (.b false), (.i .i64 0), (.i .i64 0), (.s []), .nil] [(0, 1, (.c (.s [121]))), (2, 4, (.t 4))], none⟩,
    ⟨(some 6), .buildSlice (.agg [(.s []), (.b false), (.i .i64 0), (.i .i64 0), (.s []), .nil]) 2 [(0, (.t 3)), (1, (.t 5))], none⟩,
    ⟨(some 7), .build [(.s []), .nil, .nil, .nil, .nil, .nil, .nil, .nil] [(0, 1, (.c (.s [77]))), (5, 1, (.t 6))], none⟩,
    ⟨(some 1), .alloc true [(.s []), .nil, .nil, .nil, .nil, .nil, .nil, .nil], none⟩,
    ⟨none, .store (some 1) ⟨8, true⟩ (.t 1) (.t 7), none⟩])
  ((.seq (.opsD [(⟨(some 8), .call (.f 9) [(.c (.s [97]))], none⟩, true, []),
    (⟨(some 9), .bin .eql .num (.t 8) (.c (.i .u64 12638187200555641996)), none⟩, true, []),
    (⟨(some 10), .mov (.t 9), none⟩, true, []),
    (⟨(some 11), .load false (some 1) ⟨8, true⟩ (.t 1), some (10, true)⟩, true, []),
    (⟨(some 12), .call (.f 7) [(.t 11)], some (10, true)⟩, true, []),
    (⟨(some 13), .bin .eql .num (.t 12) (.c (.s [77, 79, 68, 85, 76, 69, 32, 77, 10, 86, 65, 82, 32, 120, 58, 32, 73, 78, 84, 69, 71, 69, 82, 10])), some (10, true)⟩, true, []),
    (⟨(some 14), .pick (.t 10) (.t 13) (.c (.b false)), none⟩, true, []),
    (⟨(some 15), .mov (.t 14), none⟩, true, []),
    (⟨(some 16), .load false (some 1) ⟨8, true⟩ (.t 1), some (15, true)⟩, false, []),
    (⟨(some 17), .call (.f 10) [(.t 16)], some (15, true)⟩, false, []),
    (⟨(some 18), .load false (some 1) ⟨8, true⟩ (.t 1), some (15, true)⟩, false, []),
    (⟨(some 19), .call (.f 7) [(.t 18)], some (15, true)⟩, true, []),
    (⟨(some 20), .call (.f 9) [(.t 19)], some (15, true)⟩, true, []),
    (⟨(some 21), .bin .eql .num (.t 17) (.t 20), some (15, true)⟩, true, []),
    (⟨(some 22), .pick (.t 15) (.t 21) (.c (.b false)), none⟩, true, []),
    (⟨(some 0), .mov (.t 22), none⟩, true, [])])
  (.ret))))))⟩
def f_waferref11_Basic : Fn := ⟨1, [(.cell 2 ⟨4, true⟩)], true,
  (.seq (.ops [⟨(some 2), .alloc true [(.i .i64 0), (.i .i64 0), (.s []), .nil], none⟩])
  ((.seq (.ops [⟨(some 3), .mov (.t 0), none⟩,
    ⟨(some 4), .build [(.i .i64 0), (.i .i64 0), (.s []), .nil] [(0, 1, (.t 3))], none⟩,
    ⟨none, .store (some 2) ⟨4, true⟩ (.t 2) (.t 4), none⟩])
  (.ret))))⟩
def f_waferref11_Arr : Fn := ⟨2, [(.cell 4 ⟨4, true⟩)], true,
  (.seq (.ops [⟨(some 3), .box true (.t 1), none⟩,
    ⟨(some 4), .alloc true [(.i .i64 0), (.i .i64 0), (.s []), .nil], none⟩])
  ((.seq (.ops [⟨(some 5), .mov (.t 0), none⟩,
    ⟨(some 6), .load false (some 3) ⟨4, true⟩ (.t 3), none⟩,
    ⟨(some 7), .buildSlice (.agg [(.i .i64 0), (.i .i64 0), (.s []), .nil]) 1 [(0, (.t 6))], none⟩,
    ⟨(some 8), .build [(.i .i64 0), (.i .i64 0), (.s []), .nil] [(0, 1, (.c (.i .i64 7))), (1, 1, (.t 5)), (3, 1, (.t 7))], none⟩,
    ⟨none, .store (some 4) ⟨4, true⟩ (.t 4) (.t 8), none⟩])
  (.ret))))⟩
def f_finger_Text_B0 : C :=
  (.seq (.ops [⟨(some 24), .bin .lss .num (.t 23) (.t 22), none⟩])
  ((.seq ((.cond (.t 24) (.skip)
   (.exit 0)))
  ((.seq ((.block 1 [1, 3, 4, 21, 22, 23] ((.seq (.ops [⟨(some 25), .indexAddr (.t 21) (.t 23) 10 none, none⟩,
     ⟨(some 26), .load false none ⟨10, true⟩ (.t 25), none⟩,
     ⟨(some 6), .alloc true [(.s []), (.b false), (.i .i64 0), (.i .i64 0), (.i .i64 0), (.s []), .nil, (.i .i32 0), (.s []), .nil], none⟩,
     ⟨none, .store (some 6) ⟨10, true⟩ (.t 6) (.t 26), none⟩])
   (.opsD [(⟨(some 27), .mov (.t 4), none⟩, false, []),
     (⟨(some 28), .fieldAddr (.t 6) 1 ⟨1, false⟩, none⟩, false, []),
     (⟨(some 29), .load false (some 6) ⟨1, false⟩ (.t 28), none⟩, false, []),
     (⟨(some 30), .fieldAddr (.t 6) 0 ⟨1, false⟩, none⟩, false, []),
     (⟨(some 31), .load false (some 6) ⟨1, false⟩ (.t 30), none⟩, false, []),
     (⟨(some 32), .bin .add .num (.c (.s [67, 79, 78, 83, 84, 32])) (.t 31), none⟩, false, []),
     (⟨(some 33), .bin .add .num (.t 32) (.c (.s [32, 61, 32])), none⟩, false, []),
     (⟨(some 34), .fieldAddr (.t 6) 2 ⟨8, true⟩, none⟩, false, []),
     (⟨(some 35), .load false (some 6) ⟨8, true⟩ (.t 34), none⟩, false, []),
     (⟨(some 36), .call (.f 12) [(.t 35)], none⟩, false, []),
     (⟨(some 37), .bin .add .num (.t 33) (.t 36), none⟩, false, []),
     (⟨(some 38), .call (.t 27) [(.t 29), (.t 37)], none⟩, true, [])])))))
  (.ops [⟨(some 39), .bin .add .num (.t 23) (.c (.i .i64 1)), none⟩,
    ⟨(some 23), .mov (.t 39), none⟩]))))))
def f_finger_Text_L0 : C := .loop [1, 3, 4, 21, 22, 23] f_finger_Text_B0
noncomputable def f_finger_Text_l0 (pg : Pg) (v1 v3 v4 v21 v22 v23 : V) (H : List Obj) (lo : Nat) : Option (Ex × St) := exL pg f_finger_Text_L0 ⟨[(1, v1), (3, v3), (4, v4), (21, v21), (22, v22), (23, v23)], H, lo⟩
theorem f_finger_Text_l0_in {pg : Pg} {e : Env} {H : List Obj} {lo : Nat} : exL pg f_finger_Text_L0 ⟨e, H, lo⟩ = f_finger_Text_l0 pg (keepV (get 1 e)) (keepV (get 3 e)) (keepV (get 4 e)) (keepV (get 21 e)) (keepV (get 22 e)) (keepV (get 23 e)) H lo := loop_in
theorem f_finger_Text_l0_eq {pg : Pg} {v1 v3 v4 v21 v22 v23 : V} {H : List Obj} {lo : Nat} : f_finger_Text_l0 pg v1 v3 v4 v21 v22 v23 H lo = thenC pg (exL pg f_finger_Text_B0 ⟨[(1, keepV v1), (3, keepV v3), (4, keepV v4), (21, keepV v21), (22, keepV v22), (23, keepV v23)], H, lo⟩) f_finger_Text_L0 := by
  unfold f_finger_Text_l0 f_finger_Text_L0; rw [exL_loop]; simp only [restrict_cons, restrict_nil, get_eq, get_ne, Nat.reduceEqDiff]
def f_finger_Text_B1 : C :=
  (.seq (.ops [⟨(some 44), .bin .lss .num (.t 43) (.t 42), none⟩])
  ((.seq ((.cond (.t 44) (.skip)
   (.exit 2)))
  ((.seq ((.block 3 [1, 3, 4, 41, 42, 43] ((.seq (.ops [⟨(some 45), .indexAddr (.t 41) (.t 43) 6 none, none⟩,
     ⟨(some 46), .load false none ⟨6, true⟩ (.t 45), none⟩,
     ⟨(some 8), .alloc true [(.s []), (.b false), (.i .i64 0), (.i .i64 0), (.s []), .nil], none⟩,
     ⟨none, .store (some 8) ⟨6, true⟩ (.t 8) (.t 46), none⟩])
   (.opsD [(⟨(some 47), .mov (.t 4), none⟩, false, []),
     (⟨(some 48), .fieldAddr (.t 8) 1 ⟨1, false⟩, none⟩, false, []),
     (⟨(some 49), .load false (some 8) ⟨1, false⟩ (.t 48), none⟩, false, []),
     (⟨(some 50), .fieldAddr (.t 8) 0 ⟨1, false⟩, none⟩, false, []),
     (⟨(some 51), .load false (some 8) ⟨1, false⟩ (.t 50), none⟩, false, []),
     (⟨(some 52), .bin .add .num (.c (.s [84, 89, 80, 69, 32])) (.t 51), none⟩, false, []),
     (⟨(some 53), .bin .add .num (.t 52) (.c (.s [32, 61, 32])), none⟩, false, []),
     (⟨(some 54), .fieldAddr (.t 8) 2 ⟨4, true⟩, none⟩, false, []),
     (⟨(some 55), .load false (some 8) ⟨4, true⟩ (.t 54), none⟩, false, []),
     (⟨(some 56), .call (.f 13) [(.t 55)], none⟩, false, []),
     (⟨(some 57), .bin .add .num (.t 53) (.t 56), none⟩, false, []),
     (⟨(some 58), .call (.t 47) [(.t 49), (.t 57)], none⟩, true, [])])))))
  (.ops [⟨(some 59), .bin .add .num (.t 43) (.c (.i .i64 1)), none⟩,
    ⟨(some 43), .mov (.t 59), none⟩]))))))
def f_finger_Text_L1 : C := .loop [1, 3, 4, 41, 42, 43] f_finger_Text_B1
noncomputable def f_finger_Text_l1 (pg : Pg) (v1 v3 v4 v41 v42 v43 : V) (H : List Obj) (lo : Nat) : Option (Ex × St) := exL pg f_finger_Text_L1 ⟨[(1, v1), (3, v3), (4, v4), (41, v41), (42, v42), (43, v43)], H, lo⟩
theorem f_finger_Text_l1_in {pg : Pg} {e : Env} {H : List Obj} {lo : Nat} : exL pg f_finger_Text_L1 ⟨e, H, lo⟩ = f_finger_Text_l1 pg (keepV (get 1 e)) (keepV (get 3 e)) (keepV (get 4 e)) (keepV (get 41 e)) (keepV (get 42 e)) (keepV (get 43 e)) H lo := loop_in
theorem f_finger_Text_l1_eq {pg : Pg} {v1 v3 v4 v41 v42 v43 : V} {H : List Obj} {lo : Nat} : f_finger_Text_l1 pg v1 v3 v4 v41 v42 v43 H lo = thenC pg (exL pg f_finger_Text_B1 ⟨[(1, keepV v1), (3, keepV v3), (4, keepV v4), (41, keepV v41), (42, keepV v42), (43, keepV v43)], H, lo⟩) f_finger_Text_L1 := by
  unfold f_finger_Text_l1 f_finger_Text_L1; rw [exL_loop]; simp only [restrict_cons, restrict_nil, get_eq, get_ne, Nat.reduceEqDiff]
def f_finger_Text_B2 : C :=
  (.seq (.ops [⟨(some 64), .bin .lss .num (.t 63) (.t 62), none⟩])
  ((.seq ((.cond (.t 64) (.skip)
   (.exit 4)))
  ((.seq ((.block 5 [1, 3, 4, 61, 62, 63] ((.seq (.ops [⟨(some 65), .indexAddr (.t 61) (.t 63) 4 none, none⟩,
     ⟨(some 66), .load false none ⟨4, true⟩ (.t 65), none⟩,
     ⟨(some 10), .alloc true [(.s []), (.b false), (.s []), .nil], none⟩,
     ⟨none, .store (some 10) ⟨4, true⟩ (.t 10) (.t 66), none⟩])
   (.opsD [(⟨(some 67), .mov (.t 4), none⟩, false, []),
     (⟨(some 68), .fieldAddr (.t 10) 1 ⟨1, false⟩, none⟩, false, []),
     (⟨(some 69), .load false (some 10) ⟨1, false⟩ (.t 68), none⟩, false, []),
     (⟨(some 70), .load false (some 10) ⟨4, true⟩ (.t 10), none⟩, false, []),
     (⟨(some 71), .call (.f 14) [(.t 70)], none⟩, false, []),
     (⟨(some 72), .call (.t 67) [(.t 69), (.t 71)], none⟩, true, [])])))))
  (.ops [⟨(some 73), .bin .add .num (.t 63) (.c (.i .i64 1)), none⟩,
    ⟨(some 63), .mov (.t 73), none⟩]))))))
def f_finger_Text_L2 : C := .loop [1, 3, 4, 61, 62, 63] f_finger_Text_B2
noncomputable def f_finger_Text_l2 (pg : Pg) (v1 v3 v4 v61 v62 v63 : V) (H : List Obj) (lo : Nat) : Option (Ex × St) := exL pg f_finger_Text_L2 ⟨[(1, v1), (3, v3), (4, v4), (61, v61), (62, v62), (63, v63)], H, lo⟩
theorem f_finger_Text_l2_in {pg : Pg} {e : Env} {H : List Obj} {lo : Nat} : exL pg f_finger_Text_L2 ⟨e, H, lo⟩ = f_finger_Text_l2 pg (keepV (get 1 e)) (keepV (get 3 e)) (keepV (get 4 e)) (keepV (get 61 e)) (keepV (get 62 e)) (keepV (get 63 e)) H lo := loop_in
theorem f_finger_Text_l2_eq {pg : Pg} {v1 v3 v4 v61 v62 v63 : V} {H : List Obj} {lo : Nat} : f_finger_Text_l2 pg v1 v3 v4 v61 v62 v63 H lo = thenC pg (exL pg f_finger_Text_B2 ⟨[(1, keepV v1), (3, keepV v3), (4, keepV v4), (61, keepV v61), (62, keepV v62), (63, keepV v63)], H, lo⟩) f_finger_Text_L2 := by
  unfold f_finger_Text_l2 f_finger_Text_L2; rw [exL_loop]; simp only [restrict_cons, restrict_nil, get_eq, get_ne, Nat.reduceEqDiff]
def f_finger_Text_B3 : C :=
  (.seq (.ops [⟨(some 78), .bin .lss .num (.t 77) (.t 76), none⟩])
  ((.seq ((.cond (.t 78) (.skip)
   (.exit 6)))
  ((.seq ((.block 7 [1, 3, 4, 75, 76, 77] ((.seq (.ops [⟨(some 79), .indexAddr (.t 75) (.t 77) 6 none, none⟩,
     ⟨(some 80), .load false none ⟨6, true⟩ (.t 79), none⟩,
     ⟨(some 12), .alloc true [(.s []), (.b false), (.i .i64 0), (.i .i64 0), (.s []), .nil], none⟩,
     ⟨none, .store (some 12) ⟨6, true⟩ (.t 12) (.t 80), none⟩])
   (.opsD [(⟨(some 81), .mov (.t 4), none⟩, false, []),
     (⟨(some 82), .fieldAddr (.t 12) 1 ⟨1, false⟩, none⟩, false, []),
     (⟨(some 83), .load false (some 12) ⟨1, false⟩ (.t 82), none⟩, false, []),
     (⟨(some 84), .fieldAddr (.t 12) 0 ⟨1, false⟩, none⟩, false, []),
     (⟨(some 85), .load false (some 12) ⟨1, false⟩ (.t 84), none⟩, false, []),
     (⟨(some 86), .bin .add .num (.c (.s [86, 65, 82, 32])) (.t 85), none⟩, false, []),
     (⟨(some 87), .bin .add .num (.t 86) (.c (.s [58, 32])), none⟩, false, []),
     (⟨(some 88), .fieldAddr (.t 12) 2 ⟨4, true⟩, none⟩, false, []),
     (⟨(some 89), .load false (some 12) ⟨4, true⟩ (.t 88), none⟩, false, []),
     (⟨(some 90), .call (.f 13) [(.t 89)], none⟩, false, []),
     (⟨(some 91), .bin .add .num (.t 87) (.t 90), none⟩, false, []),
     (⟨(some 92), .call (.t 81) [(.t 83), (.t 91)], none⟩, true, [])])))))
  (.ops [⟨(some 93), .bin .add .num (.t 77) (.c (.i .i64 1)), none⟩,
    ⟨(some 77), .mov (.t 93), none⟩]))))))
def f_finger_Text_L3 : C := .loop [1, 3, 4, 75, 76, 77] f_finger_Text_B3
noncomputable def f_finger_Text_l3 (pg : Pg) (v1 v3 v4 v75 v76 v77 : V) (H : List Obj) (lo : Nat) : Option (Ex × St) := exL pg f_finger_Text_L3 ⟨[(1, v1), (3, v3), (4, v4), (75, v75), (76, v76), (77, v77)], H, lo⟩
theorem f_finger_Text_l3_in {pg : Pg} {e : Env} {H : List Obj} {lo : Nat} : exL pg f_finger_Text_L3 ⟨e, H, lo⟩ = f_finger_Text_l3 pg (keepV (get 1 e)) (keepV (get 3 e)) (keepV (get 4 e)) (keepV (get 75 e)) (keepV (get 76 e)) (keepV (get 77 e)) H lo := loop_in
theorem f_finger_Text_l3_eq {pg : Pg} {v1 v3 v4 v75 v76 v77 : V} {H : List Obj} {lo : Nat} : f_finger_Text_l3 pg v1 v3 v4 v75 v76 v77 H lo = thenC pg (exL pg f_finger_Text_B3 ⟨[(1, keepV v1), (3, keepV v3), (4, keepV v4), (75, keepV v75), (76, keepV v76), (77, keepV v77)], H, lo⟩) f_finger_Text_L3 := by
  unfold f_finger_Text_l3 f_finger_Text_L3; rw [exL_loop]; simp only [restrict_cons, restrict_nil, get_eq, get_ne, Nat.reduceEqDiff]
def f_finger_Text_B4 : C :=
  (.seq (.ops [⟨(some 98), .bin .lss .num (.t 97) (.t 96), none⟩])
  ((.seq ((.cond (.t 98) (.skip)
   (.exit 8)))
  ((.seq ((.block 9 [3, 4, 95, 96, 97] ((.seq (.ops [⟨(some 99), .indexAddr (.t 95) (.t 97) 10 none, none⟩,
     ⟨(some 100), .load false none ⟨10, true⟩ (.t 99), none⟩,
     ⟨(some 14), .alloc true [(.s []), (.b false), .nil, (.i .i64 0), (.i .i64 0), (.s []), .nil, .nil, .nil, .nil], none⟩,
     ⟨none, .store (some 14) ⟨10, true⟩ (.t 14) (.t 100), none⟩])
   (.opsD [(⟨(some 101), .mov (.t 4), none⟩, false, []),
     (⟨(some 102), .fieldAddr (.t 14) 1 ⟨1, false⟩, none⟩, false, []),
     (⟨(some 103), .load false (some 14) ⟨1, false⟩ (.t 102), none⟩, false, []),
     (⟨(some 104), .load false (some 14) ⟨10, true⟩ (.t 14), none⟩, false, []),
     (⟨(some 105), .call (.f 15) [(.t 104)], none⟩, false, []),
     (⟨(some 106), .call (.t 101) [(.t 103), (.t 105)], none⟩, true, [])])))))
  (.ops [⟨(some 107), .bin .add .num (.t 97) (.c (.i .i64 1)), none⟩,
    ⟨(some 97), .mov (.t 107), none⟩]))))))
def f_finger_Text_L4 : C := .loop [3, 4, 95, 96, 97] f_finger_Text_B4
noncomputable def f_finger_Text_l4 (pg : Pg) (v3 v4 v95 v96 v97 : V) (H : List Obj) (lo : Nat) : Option (Ex × St) := exL pg f_finger_Text_L4 ⟨[(3, v3), (4, v4), (95, v95), (96, v96), (97, v97)], H, lo⟩
theorem f_finger_Text_l4_in {pg : Pg} {e : Env} {H : List Obj} {lo : Nat} : exL pg f_finger_Text_L4 ⟨e, H, lo⟩ = f_finger_Text_l4 pg (keepV (get 3 e)) (keepV (get 4 e)) (keepV (get 95 e)) (keepV (get 96 e)) (keepV (get 97 e)) H lo := loop_in
theorem f_finger_Text_l4_eq {pg : Pg} {v3 v4 v95 v96 v97 : V} {H : List Obj} {lo : Nat} : f_finger_Text_l4 pg v3 v4 v95 v96 v97 H lo = thenC pg (exL pg f_finger_Text_B4 ⟨[(3, keepV v3), (4, keepV v4), (95, keepV v95), (96, keepV v96), (97, keepV v97)], H, lo⟩) f_finger_Text_L4 := by
  unfold f_finger_Text_l4 f_finger_Text_L4; rw [exL_loop]; simp only [restrict_cons, restrict_nil, get_eq, get_ne, Nat.reduceEqDiff]
def f_finger_Text_R5 : C :=
  (.seq (.ops [⟨(some 108), .load false none ⟨1, false⟩ (.t 3), none⟩,
    ⟨(some 109), .call (.f 16) [(.t 108), (.c (.s [10]))], none⟩,
    ⟨(some 110), .bin .add .num (.t 109) (.c (.s [10])), none⟩,
    ⟨(some 2), .mov (.t 110), none⟩])
  (.ret))
def f_finger_Text_R6 : C :=
  (.seq ((.seq (.ops [⟨(some 94), .fieldAddr (.t 1) 6 ⟨1, false⟩, none⟩,
    ⟨(some 95), .load false (some 1) ⟨1, false⟩ (.t 94), none⟩,
    ⟨(some 96), .bi .lenL [(.t 95)], none⟩,
    ⟨(some 97), .mov (.c (.i .i64 0)), none⟩])
  ((.block 8 [3] (f_finger_Text_L4)))))
  (f_finger_Text_R5))
def f_finger_Text_R7 : C :=
  (.seq ((.seq (.ops [⟨(some 74), .fieldAddr (.t 1) 5 ⟨1, false⟩, none⟩,
    ⟨(some 75), .load false (some 1) ⟨1, false⟩ (.t 74), none⟩,
    ⟨(some 76), .bi .lenL [(.t 75)], none⟩,
    ⟨(some 77), .mov (.c (.i .i64 0)), none⟩])
  ((.block 6 [1, 3, 4] (f_finger_Text_L3)))))
  (f_finger_Text_R6))
def f_finger_Text_R8 : C :=
  (.seq ((.seq (.ops [⟨(some 60), .fieldAddr (.t 1) 4 ⟨1, false⟩, none⟩,
    ⟨(some 61), .load false (some 1) ⟨1, false⟩ (.t 60), none⟩,
    ⟨(some 62), .bi .lenL [(.t 61)], none⟩,
    ⟨(some 63), .mov (.c (.i .i64 0)), none⟩])
  ((.block 4 [1, 3, 4] (f_finger_Text_L2)))))
  (f_finger_Text_R7))
def f_finger_Text_R9 : C :=
  (.seq ((.seq (.ops [⟨(some 40), .fieldAddr (.t 1) 3 ⟨1, false⟩, none⟩,
    ⟨(some 41), .load false (some 1) ⟨1, false⟩ (.t 40), none⟩,
    ⟨(some 42), .bi .lenL [(.t 41)], none⟩,
    ⟨(some 43), .mov (.c (.i .i64 0)), none⟩])
  ((.block 2 [1, 3, 4] (f_finger_Text_L1)))))
  (f_finger_Text_R8))
def f_finger_Text : Fn := ⟨1, [(.t 2)], true,
  (.seq (.ops [⟨(some 1), .box true (.t 0), none⟩,
    ⟨(some 2), .mov (.c (.s [])), none⟩])
  ((.seq (.ops [⟨(some 15), .fieldAddr (.t 1) 0 ⟨1, false⟩, none⟩,
    ⟨(some 16), .load false (some 1) ⟨1, false⟩ (.t 15), none⟩,
    ⟨(some 17), .bin .add .num (.c (.s [77, 79, 68, 85, 76, 69, 32])) (.t 16), none⟩,
    ⟨(some 18), .buildSlice (.s []) 1 [(0, (.t 17))], none⟩,
    ⟨(some 3), .alloc false [.nil], none⟩,
    ⟨none, .store none ⟨1, false⟩ (.t 3) (.mv 18), none⟩])
  ((.seq (.ops [⟨(some 19), .mkFn 11 [] [(.t 3)], none⟩,
    ⟨(some 4), .mov (.t 19), none⟩])
  ((.seq ((.seq (.ops [⟨(some 20), .fieldAddr (.t 1) 2 ⟨1, false⟩, none⟩,
    ⟨(some 21), .load false (some 1) ⟨1, false⟩ (.t 20), none⟩,
    ⟨(some 22), .bi .lenL [(.t 21)], none⟩,
    ⟨(some 23), .mov (.c (.i .i64 0)), none⟩])
  ((.block 0 [1, 3, 4] (f_finger_Text_L0)))))
  (f_finger_Text_R9))))))))⟩
def f_waferlaw18_part : Fn := ⟨3, [(.cell 6 ⟨8, true⟩)], true,
  (.seq (.ops [⟨(some 4), .box true (.t 1), none⟩,
    ⟨(some 6), .alloc true [(.s []), .nil, .nil, .nil, .nil, .nil, .nil, .nil], none⟩])
  ((.seq (.ops [⟨(some 8), .build [(.s []), .nil, .nil, .nil, .nil, .nil, .nil, .nil] [(0, 1, (.c (.s [77])))], none⟩,
    ⟨(some 7), .alloc true [(.s []), .nil, .nil, .nil, .nil, .nil, .nil, .nil], none⟩,
    ⟨none, .store (some 7) ⟨8, true⟩ (.t 7) (.t 8), none⟩])
  ((.seq ((.seq (.ops [⟨(some 9), .mov (.t 0), none⟩,
    ⟨(some 10), .bin .rem .num (.t 9) (.c (.i .u8 6)), none⟩])
  ((.block 0 [6, 7] ((.seq (.ops [⟨(some 19), .bin .eql .num (.t 10) (.c (.i .u8 0)), none⟩,
     ⟨(some 18), .mov (.t 19), none⟩])
   ((.cond (.t 18) (.ops [⟨(some 20), .load false (some 4) ⟨4, true⟩ (.t 4), none⟩,
      ⟨(some 21), .build [(.s []), (.b false), (.i .i64 0), (.i .i64 0), (.s []), .nil] [(0, 1, (.c (.s [120]))), (1, 1, (.c (.b true))), (2, 4, (.t 20))], none⟩,
      ⟨(some 22), .buildSlice (.agg [(.s []), (.b false), (.i .i64 0), (.i .i64 0), (.s []), .nil]) 1 [(0, (.t 21))], none⟩,
      ⟨(some 23), .fieldAddr (.t 7) 5 ⟨1, false⟩, none⟩,
      ⟨none, .store (some 7) ⟨1, false⟩ (.t 23) (.mv 22), none⟩])
    ((.seq (.ops [⟨(some 25), .bin .eql .num (.t 10) (.c (.i .u8 1)), none⟩,
      ⟨(some 24), .mov (.t 25), none⟩])
    ((.cond (.t 24) (.ops [⟨(some 26), .load false (some 4) ⟨4, true⟩ (.t 4), none⟩,
       ⟨(some 27), .build [(.s []), (.b false), (.i .i64 0), (.i .i64 0), (.s []), .nil] [(0, 1, (.c (.s [120]))), (1, 1, (.c (.b true))), (2, 4, (.t 26))], none⟩,
       ⟨(some 28), .buildSlice (.agg [(.s []), (.b false), (.i .i64 0), (.i .i64 0), (.s []), .nil]) 1 [(0, (.t 27))], none⟩,
       ⟨(some 29), .fieldAddr (.t 7) 3 ⟨1, false⟩, none⟩,
       ⟨none, .store (some 7) ⟨1, false⟩ (.t 29) (.mv 28), none⟩])
     ((.seq (.ops [⟨(some 31), .bin .eql .num (.t 10) (.c (.i .u8 2)), none⟩,
       ⟨(some 30), .mov (.t 31), none⟩])
     ((.cond (.t 30) (.ops [⟨(some 32), .load false (some 4) ⟨4, true⟩ (.t 4), none⟩,
        ⟨(some 33), .build [(.s []), (.b false), (.i .i64 0), (.i .i64 0), (.s []), .nil] [(0, 1, (.c (.s [112]))), (2, 4, (.t 32))], none⟩,
        ⟨(some 34), .buildSlice (.agg [(.s []), (.b false), (.i .i64 0), (.i .i64 0), (.s []), .nil]) 1 [(0, (.t 33))], none⟩,
        ⟨(some 35), .build [(.s []), (.b false), .nil, (.i .i64 0), (.i .i64 0), (.s []), .nil, .nil, .nil, .nil] [(0, 1, (.c (.s [120]))), (1, 1, (.c (.b true))), (2, 1, (.t 34))], none⟩,
        ⟨(some 36), .buildSlice (.agg [(.s []), (.b false), .nil, (.i .i64 0), (.i .i64 0), (.s []), .nil, .nil, .nil, .nil]) 1 [(0, (.t 35))], none⟩,
        ⟨(some 37), .fieldAddr (.t 7) 6 ⟨1, false⟩, none⟩,
        ⟨none, .store (some 7) ⟨1, false⟩ (.t 37) (.mv 36), none⟩])
      ((.seq (.ops [⟨(some 39), .bin .eql .num (.t 10) (.c (.i .u8 3)), none⟩,
        ⟨(some 38), .mov (.t 39), none⟩])
      ((.cond (.t 38) (.ops [⟨(some 40), .load false (some 4) ⟨4, true⟩ (.t 4), none⟩,
         ⟨(some 41), .build [(.s []), (.b false), .nil, (.i .i64 0), (.i .i64 0), (.s []), .nil, .nil, .nil, .nil] [(0, 1, (.c (.s [120]))), (1, 1, (.c (.b true))), (3, 4, (.t 40))], none⟩,
         ⟨(some 42), .buildSlice (.agg [(.s []), (.b false), .nil, (.i .i64 0), (.i .i64 0), (.s []), .nil, .nil, .nil, .nil]) 1 [(0, (.t 41))], none⟩,
         ⟨(some 43), .fieldAddr (.t 7) 6 ⟨1, false⟩, none⟩,
         ⟨none, .store (some 7) ⟨1, false⟩ (.t 43) (.mv 42), none⟩])
       ((.seq (.ops [⟨(some 45), .bin .eql .num (.t 10) (.c (.i .u8 4)), none⟩,
         ⟨(some 44), .mov (.t 45), none⟩])
       ((.cond (.t 44) (.ops [⟨(some 46), .load false (some 4) ⟨4, true⟩ (.t 4), none⟩,
          ⟨(some 47), .build [(.s []), (.b false), (.i .i64 0), (.i .i64 0), (.s []), .nil] [(0, 1, (.c (.s [102]))), (2, 4, (.t 46))], none⟩,
          ⟨(some 48), .buildSlice (.agg [(.s []), (.b false), (.i .i64 0), (.i .i64 0), (.s []), .nil]) 1 [(0, (.t 47))], none⟩,
          ⟨(some 49), .build [(.s []), (.b false), (.s []), .nil] [(0, 1, (.c (.s [120]))), (1, 1, (.c (.b true))), (3, 1, (.t 48))], none⟩,
          ⟨(some 50), .buildSlice (.agg [(.s []), (.b false), (.s []), .nil]) 1 [(0, (.t 49))], none⟩,
          ⟨(some 51), .fieldAddr (.t 7) 4 ⟨1, false⟩, none⟩,
          ⟨none, .store (some 7) ⟨1, false⟩ (.t 51) (.mv 50), none⟩])
        (.ops [⟨(some 11), .mov (.t 2), none⟩,
          ⟨(some 12), .bin .rem .num (.t 11) (.c (.i .u8 6)), none⟩,
          ⟨(some 13), .conv .i32 (.t 12), none⟩,
          ⟨(some 14), .call (.f 17) [(.c (.i .i64 1)), (.t 13)], none⟩,
          ⟨(some 15), .build [(.s []), (.b false), (.i .i64 0), (.i .i64 0), (.i .i64 0), (.s []), .nil, (.i .i32 0), (.s []), .nil] [(0, 1, (.c (.s [120]))), (1, 1, (.c (.b true))), (2, 8, (.t 14))], none⟩,
          ⟨(some 16), .buildSlice (.agg [(.s []), (.b false), (.i .i64 0), (.i .i64 0), (.i .i64 0), (.s []), .nil, (.i .i32 0), (.s []), .nil]) 1 [(0, (.t 15))], none⟩,
          ⟨(some 17), .fieldAddr (.t 7) 2 ⟨1, false⟩, none⟩,
          ⟨none, .store (some 7) ⟨1, false⟩ (.t 17) (.mv 16), none⟩])))))))))))))))))))))))))
  ((.seq (.ops [⟨(some 52), .load false (some 7) ⟨8, true⟩ (.t 7), none⟩,
    ⟨none, .store (some 6) ⟨8, true⟩ (.t 6) (.t 52), none⟩])
  (.ret))))))))⟩
def f_finger_Sum_B0 : C :=
  (.seq (.ops [⟨(some 8), .bin .lss .num (.t 7) (.t 6), none⟩])
  ((.seq ((.cond (.t 8) (.skip)
   (.exit 0)))
  ((.seq ((.block 1 [0, 3, 6, 7] ((.seq (.ops [⟨(some 9), .mov (.t 7), none⟩,
     ⟨(some 4), .mov (.t 9), none⟩])
   ((.seq (.ops [⟨(some 10), .mov (.t 3), none⟩,
     ⟨(some 11), .mov (.t 0), none⟩,
     ⟨(some 12), .mov (.t 4), none⟩,
     ⟨(some 13), .index (.t 11) (.t 12), none⟩,
     ⟨(some 14), .conv .u64 (.t 13), none⟩,
     ⟨(some 15), .bin .xor .num (.t 10) (.t 14), none⟩,
     ⟨(some 3), .mov (.t 15), none⟩])
   (.ops [⟨(some 16), .mov (.t 3), none⟩,
     ⟨(some 17), .bin .mul .num (.t 16) (.c (.i .u64 1099511628211)), none⟩,
     ⟨(some 3), .mov (.t 17), none⟩])))))))
  (.ops [⟨(some 18), .bin .add .num (.t 7) (.c (.i .i64 1)), none⟩,
    ⟨(some 7), .mov (.t 18), none⟩]))))))
def f_finger_Sum_L0 : C := .loop [0, 3, 6, 7] f_finger_Sum_B0
noncomputable def f_finger_Sum_l0 (pg : Pg) (v0 v3 v6 v7 : V) (H : List Obj) (lo : Nat) : Option (Ex × St) := exL pg f_finger_Sum_L0 ⟨[(0, v0), (3, v3), (6, v6), (7, v7)], H, lo⟩
theorem f_finger_Sum_l0_in {pg : Pg} {e : Env} {H : List Obj} {lo : Nat} : exL pg f_finger_Sum_L0 ⟨e, H, lo⟩ = f_finger_Sum_l0 pg (keepV (get 0 e)) (keepV (get 3 e)) (keepV (get 6 e)) (keepV (get 7 e)) H lo := loop_in
theorem f_finger_Sum_l0_eq {pg : Pg} {v0 v3 v6 v7 : V} {H : List Obj} {lo : Nat} : f_finger_Sum_l0 pg v0 v3 v6 v7 H lo = thenC pg (exL pg f_finger_Sum_B0 ⟨[(0, keepV v0), (3, keepV v3), (6, keepV v6), (7, keepV v7)], H, lo⟩) f_finger_Sum_L0 := by
  unfold f_finger_Sum_l0 f_finger_Sum_L0; rw [exL_loop]; simp only [restrict_cons, restrict_nil, get_eq, get_ne, Nat.reduceEqDiff]
def f_finger_Sum_R1 : C :=
  (.seq (.ops [⟨(some 19), .mov (.t 3), none⟩,
    ⟨(some 2), .mov (.t 19), none⟩])
  (.ret))
def f_finger_Sum : Fn := ⟨1, [(.t 2)], true,
  (.seq (.ops [⟨(some 2), .mov (.c (.i .u64 0)), none⟩])
  ((.seq (.ops [⟨(some 3), .mov (.c (.i .u64 14695981039346656037)), none⟩])
  ((.seq ((.seq (.ops [⟨(some 5), .mov (.t 0), none⟩,
    ⟨(some 6), .bi .lenS [(.t 5)], none⟩,
    ⟨(some 7), .mov (.c (.i .i64 0)), none⟩])
  ((.block 0 [3] (f_finger_Sum_L0)))))
  (f_finger_Sum_R1))))))⟩
def f_finger_Of : Fn := ⟨1, [(.t 2)], true,
  (.seq (.ops [⟨(some 1), .box true (.t 0), none⟩,
    ⟨(some 2), .mov (.c (.i .u64 0)), none⟩])
  ((.seq (.ops [⟨(some 3), .load false (some 1) ⟨8, true⟩ (.t 1), none⟩,
    ⟨(some 4), .call (.f 7) [(.t 3)], none⟩,
    ⟨(some 5), .call (.f 9) [(.t 4)], none⟩,
    ⟨(some 2), .mov (.mv 5), none⟩])
  (.ret))))⟩
def f_finger_Text_1 : Fn := ⟨3, [], false,
  (.seq (.ops [⟨(some 5), .mov (.t 0), none⟩])
  ((.cond (.t 5) (.ops [⟨(some 6), .load true none ⟨1, false⟩ (.t 2), none⟩,
     ⟨(some 7), .mov (.t 1), none⟩,
     ⟨(some 8), .buildSlice (.s []) 1 [(0, (.t 7))], none⟩,
     ⟨(some 9), .bi (.append 1 16) [(.mv 6), (.t 8)], none⟩,
     ⟨none, .store none ⟨1, false⟩ (.t 2) (.mv 9), none⟩])
   (.skip))))⟩
def f_finger_constant : Fn := ⟨1, [(.t 2)], true,
  (.seq (.ops [⟨(some 1), .box true (.t 0), none⟩,
    ⟨(some 2), .mov (.c (.s [])), none⟩])
  ((.seq (.ops [⟨(some 4), .fieldAddr (.t 1) 1 ⟨4, true⟩, none⟩,
    ⟨(some 5), .load false (some 1) ⟨4, true⟩ (.t 4), none⟩,
    ⟨(some 6), .call (.f 13) [(.t 5)], none⟩,
    ⟨(some 7), .bin .add .num (.t 6) (.c (.s [32])), none⟩,
    ⟨(some 3), .mov (.t 7), none⟩])
  ((.seq ((.seq (.ops [⟨(some 8), .fieldAddr (.t 1) 1 ⟨4, true⟩, none⟩,
    ⟨(some 9), .fieldAddr (.t 8) 0 ⟨1, false⟩, none⟩,
    ⟨(some 10), .load false (some 1) ⟨1, false⟩ (.t 9), none⟩,
    ⟨(some 11), .bin .eql .num (.t 10) (.c (.i .i64 6)), none⟩])
  ((.cond (.t 11) ((.seq (.ops [⟨(some 12), .mov (.t 3), none⟩,
     ⟨(some 13), .fieldAddr (.t 1) 6 ⟨1, false⟩, none⟩,
     ⟨(some 14), .load false (some 1) ⟨1, false⟩ (.t 13), none⟩,
     ⟨(some 15), .call (.f 18) [(.t 14)], none⟩,
     ⟨(some 16), .bin .add .num (.t 12) (.t 15), none⟩,
     ⟨(some 2), .mov (.t 16), none⟩])
   (.ret)))
   (.skip)))))
  ((.seq (.ops [⟨(some 17), .mov (.t 3), none⟩,
    ⟨(some 18), .fieldAddr (.t 1) 5 ⟨1, false⟩, none⟩,
    ⟨(some 19), .load false (some 1) ⟨1, false⟩ (.t 18), none⟩,
    ⟨(some 20), .conv .i64 (.t 19), none⟩,
    ⟨(some 21), .call (.f 19) [(.t 20)], none⟩,
    ⟨(some 22), .bin .add .num (.t 17) (.t 21), none⟩,
    ⟨(some 2), .mov (.t 22), none⟩])
  (.ret))))))))⟩
def f_types_Text : Fn := ⟨1, [(.t 2)], true,
  (.seq (.ops [⟨(some 1), .box true (.t 0), none⟩,
    ⟨(some 2), .mov (.c (.s [])), none⟩])
  ((.seq ((.seq (.ops [⟨(some 4), .fieldAddr (.t 1) 0 ⟨1, false⟩, none⟩,
    ⟨(some 5), .load false (some 1) ⟨1, false⟩ (.t 4), none⟩])
  ((.block 0 [] ((.seq (.ops [⟨(some 7), .bin .eql .num (.t 5) (.c (.i .i64 1)), none⟩,
     ⟨(some 6), .mov (.t 7), none⟩])
   ((.cond (.t 6) ((.seq (.ops [⟨(some 2), .mov (.c (.s [73, 78, 84, 69, 71, 69, 82])), none⟩])
    (.ret)))
    ((.seq (.ops [⟨(some 9), .bin .eql .num (.t 5) (.c (.i .i64 2)), none⟩,
      ⟨(some 8), .mov (.t 9), none⟩])
    ((.cond (.t 8) ((.seq (.ops [⟨(some 2), .mov (.c (.s [67, 72, 65, 82])), none⟩])
     (.ret)))
     ((.seq (.ops [⟨(some 11), .bin .eql .num (.t 5) (.c (.i .i64 3)), none⟩,
       ⟨(some 10), .mov (.t 11), none⟩])
     ((.cond (.t 10) ((.seq (.ops [⟨(some 2), .mov (.c (.s [66, 79, 79, 76, 69, 65, 78])), none⟩])
      (.ret)))
      ((.seq (.ops [⟨(some 13), .bin .eql .num (.t 5) (.c (.i .i64 4)), none⟩,
        ⟨(some 12), .mov (.t 13), none⟩])
      ((.cond (.t 12) ((.seq (.ops [⟨(some 2), .mov (.c (.s [83, 69, 84])), none⟩])
       (.ret)))
       ((.seq (.ops [⟨(some 15), .bin .eql .num (.t 5) (.c (.i .i64 5)), none⟩,
         ⟨(some 14), .mov (.t 15), none⟩])
       ((.cond (.t 14) ((.seq (.ops [⟨(some 2), .mov (.c (.s [78, 73, 76])), none⟩])
        (.ret)))
        ((.seq (.ops [⟨(some 17), .bin .eql .num (.t 5) (.c (.i .i64 6)), none⟩,
          ⟨(some 16), .mov (.t 17), none⟩])
        ((.cond (.t 16) ((.seq (.ops [⟨(some 2), .mov (.c (.s [83, 84, 82, 73, 78, 71])), none⟩])
         (.ret)))
         ((.seq (.ops [⟨(some 19), .bin .eql .num (.t 5) (.c (.i .i64 7)), none⟩,
           ⟨(some 18), .mov (.t 19), none⟩])
         ((.cond (.t 18) ((.seq (.ops [⟨(some 20), .fieldAddr (.t 1) 1 ⟨1, false⟩, none⟩,
            ⟨(some 21), .load false (some 1) ⟨1, false⟩ (.t 20), none⟩,
            ⟨(some 22), .call (.f 19) [(.t 21)], none⟩,
            ⟨(some 23), .bin .add .num (.c (.s [65, 82, 82, 65, 89, 32])) (.t 22), none⟩,
            ⟨(some 24), .bin .add .num (.t 23) (.c (.s [32, 79, 70, 32])), none⟩,
            ⟨(some 3), .mov (.t 24), none⟩])
          ((.seq ((.seq (.ops [⟨(some 25), .fieldAddr (.t 1) 3 ⟨1, false⟩, none⟩,
            ⟨(some 26), .load false (some 1) ⟨1, false⟩ (.t 25), none⟩,
            ⟨(some 27), .bi .lenL [(.t 26)], none⟩,
            ⟨(some 28), .bin .gtr .num (.t 27) (.c (.i .i64 0)), none⟩])
          ((.cond (.t 28) (.ops [⟨(some 29), .mov (.t 3), none⟩,
             ⟨(some 30), .fieldAddr (.t 1) 3 ⟨1, false⟩, none⟩,
             ⟨(some 31), .load false (some 1) ⟨1, false⟩ (.t 30), none⟩,
             ⟨(some 32), .indexAddr (.t 31) (.c (.i .i64 0)) 4 none, none⟩,
             ⟨(some 33), .load false none ⟨4, true⟩ (.t 32), none⟩,
             ⟨(some 34), .call (.f 13) [(.t 33)], none⟩,
             ⟨(some 35), .bin .add .num (.t 29) (.t 34), none⟩,
             ⟨(some 3), .mov (.t 35), none⟩])
           (.skip)))))
          ((.seq (.ops [⟨(some 36), .mov (.t 3), none⟩,
            ⟨(some 2), .mov (.t 36), none⟩])
          (.ret)))))))
          ((.seq (.ops [⟨(some 38), .bin .eql .num (.t 5) (.c (.i .i64 8)), none⟩,
            ⟨(some 37), .mov (.t 38), none⟩])
          ((.cond (.t 37) ((.seq (.ops [⟨(some 39), .fieldAddr (.t 1) 2 ⟨1, false⟩, none⟩,
             ⟨(some 40), .load false (some 1) ⟨1, false⟩ (.t 39), none⟩,
             ⟨(some 2), .mov (.t 40), none⟩])
           (.ret)))
           ((.seq (.ops [⟨(some 42), .bin .eql .num (.t 5) (.c (.i .i64 9)), none⟩,
             ⟨(some 41), .mov (.t 42), none⟩])
           ((.cond (.t 41) ((.seq (.ops [⟨(some 43), .fieldAddr (.t 1) 2 ⟨1, false⟩, none⟩,
              ⟨(some 44), .load false (some 1) ⟨1, false⟩ (.t 43), none⟩,
              ⟨(some 45), .bin .add .num (.c (.s [80, 79, 73, 78, 84, 69, 82, 32, 84, 79, 32])) (.t 44), none⟩,
              ⟨(some 2), .mov (.t 45), none⟩])
            (.ret)))
            (.skip)))))))))))))))))))))))))))))))))))))))))
  ((.seq (.ops [⟨(some 2), .mov (.c (.s [])), none⟩])
  (.ret))))))⟩
def f_finger_record_B0 : C :=
  (.seq (.ops [⟨(some 18), .bin .lss .num (.t 17) (.t 16), none⟩])
  ((.seq ((.cond (.t 18) (.skip)
   (.exit 0)))
  ((.seq ((.block 1 [3, 15, 16, 17] ((.seq (.ops [⟨(some 19), .indexAddr (.t 15) (.t 17) 6 none, none⟩,
     ⟨(some 20), .load false none ⟨6, true⟩ (.t 19), none⟩,
     ⟨(some 5), .alloc true [(.s []), (.b false), (.i .i64 0), (.i .i64 0), (.s []), .nil], none⟩,
     ⟨none, .store (some 5) ⟨6, true⟩ (.t 5) (.t 20), none⟩])
   (.opsD [(⟨(some 21), .mov (.t 3), none⟩, false, []),
     (⟨(some 22), .fieldAddr (.t 5) 0 ⟨1, false⟩, none⟩, false, []),
     (⟨(some 23), .load false (some 5) ⟨1, false⟩ (.t 22), none⟩, false, []),
     (⟨(some 24), .bin .add .num (.c (.s [32])) (.t 23), none⟩, false, []),
     (⟨(some 25), .bin .add .num (.t 24) (.c (.s [58, 32])), none⟩, false, []),
     (⟨(some 26), .fieldAddr (.t 5) 2 ⟨4, true⟩, none⟩, false, []),
     (⟨(some 27), .load false (some 5) ⟨4, true⟩ (.t 26), none⟩, false, []),
     (⟨(some 28), .call (.f 13) [(.t 27)], none⟩, false, []),
     (⟨(some 29), .bin .add .num (.t 25) (.t 28), none⟩, false, []),
     (⟨(some 30), .bin .add .num (.t 21) (.t 29), none⟩, true, []),
     (⟨(some 3), .mov (.t 30), none⟩, true, [])])))))
  (.ops [⟨(some 31), .bin .add .num (.t 17) (.c (.i .i64 1)), none⟩,
    ⟨(some 17), .mov (.t 31), none⟩]))))))
def f_finger_record_L0 : C := .loop [3, 15, 16, 17] f_finger_record_B0
noncomputable def f_finger_record_l0 (pg : Pg) (v3 v15 v16 v17 : V) (H : List Obj) (lo : Nat) : Option (Ex × St) := exL pg f_finger_record_L0 ⟨[(3, v3), (15, v15), (16, v16), (17, v17)], H, lo⟩
theorem f_finger_record_l0_in {pg : Pg} {e : Env} {H : List Obj} {lo : Nat} : exL pg f_finger_record_L0 ⟨e, H, lo⟩ = f_finger_record_l0 pg (keepV (get 3 e)) (keepV (get 15 e)) (keepV (get 16 e)) (keepV (get 17 e)) H lo := loop_in
theorem f_finger_record_l0_eq {pg : Pg} {v3 v15 v16 v17 : V} {H : List Obj} {lo : Nat} : f_finger_record_l0 pg v3 v15 v16 v17 H lo = thenC pg (exL pg f_finger_record_B0 ⟨[(3, keepV v3), (15, keepV v15), (16, keepV v16), (17, keepV v17)], H, lo⟩) f_finger_record_L0 := by
  unfold f_finger_record_l0 f_finger_record_L0; rw [exL_loop]; simp only [restrict_cons, restrict_nil, get_eq, get_ne, Nat.reduceEqDiff]
def f_finger_record_R1 : C :=
  (.seq (.ops [⟨(some 32), .mov (.t 3), none⟩,
    ⟨(some 2), .mov (.t 32), none⟩])
  (.ret))
def f_finger_record : Fn := ⟨1, [(.t 2)], true,
  (.seq (.ops [⟨(some 1), .box true (.t 0), none⟩,
    ⟨(some 2), .mov (.c (.s [])), none⟩])
  ((.seq (.ops [⟨(some 6), .fieldAddr (.t 1) 0 ⟨1, false⟩, none⟩,
    ⟨(some 7), .load false (some 1) ⟨1, false⟩ (.t 6), none⟩,
    ⟨(some 8), .bin .add .num (.c (.s [82, 69, 67, 79, 82, 68, 32])) (.t 7), none⟩,
    ⟨(some 9), .bin .add .num (.t 8) (.c (.s [32, 40])), none⟩,
    ⟨(some 10), .fieldAddr (.t 1) 2 ⟨1, false⟩, none⟩,
    ⟨(some 11), .load false (some 1) ⟨1, false⟩ (.t 10), none⟩,
    ⟨(some 12), .bin .add .num (.t 9) (.t 11), none⟩,
    ⟨(some 13), .bin .add .num (.t 12) (.c (.s [41])), none⟩,
    ⟨(some 3), .mov (.t 13), none⟩])
  ((.seq ((.seq (.ops [⟨(some 14), .fieldAddr (.t 1) 3 ⟨1, false⟩, none⟩,
    ⟨(some 15), .load false (some 1) ⟨1, false⟩ (.t 14), none⟩,
    ⟨(some 16), .bi .lenL [(.t 15)], none⟩,
    ⟨(some 17), .mov (.c (.i .i64 0)), none⟩])
  ((.block 0 [3] (f_finger_record_L0)))))
  (f_finger_record_R1))))))⟩
def f_finger_procedure : Fn := ⟨1, [(.t 2)], true,
  (.seq (.ops [⟨(some 1), .box true (.t 0), none⟩,
    ⟨(some 2), .mov (.c (.s [])), none⟩])
  ((.seq (.opsD [(⟨(some 4), .fieldAddr (.t 1) 0 ⟨1, false⟩, none⟩, false, []),
    (⟨(some 5), .load false (some 1) ⟨1, false⟩ (.t 4), none⟩, false, []),
    (⟨(some 6), .bin .add .num (.c (.s [80, 82, 79, 67, 69, 68, 85, 82, 69, 32])) (.t 5), none⟩, false, []),
    (⟨(some 7), .bin .add .num (.t 6) (.c (.s [32, 40])), none⟩, false, []),
    (⟨(some 8), .fieldAddr (.t 1) 2 ⟨1, false⟩, none⟩, false, []),
    (⟨(some 9), .load false (some 1) ⟨1, false⟩ (.t 8), none⟩, false, []),
    (⟨(some 10), .call (.f 20) [(.t 9)], none⟩, false, []),
    (⟨(some 11), .bin .add .num (.t 7) (.t 10), none⟩, true, []),
    (⟨(some 12), .bin .add .num (.t 11) (.c (.s [41])), none⟩, true, []),
    (⟨(some 3), .mov (.t 12), none⟩, true, [])])
  ((.seq ((.seq (.ops [⟨(some 13), .fieldAddr (.t 1) 3 ⟨4, true⟩, none⟩,
    ⟨(some 14), .fieldAddr (.t 13) 0 ⟨1, false⟩, none⟩,
    ⟨(some 15), .load false (some 1) ⟨1, false⟩ (.t 14), none⟩,
    ⟨(some 16), .bin .neq .num (.t 15) (.c (.i .i64 0)), none⟩])
  ((.cond (.t 16) (.ops [⟨(some 17), .mov (.t 3), none⟩,
     ⟨(some 18), .fieldAddr (.t 1) 3 ⟨4, true⟩, none⟩,
     ⟨(some 19), .load false (some 1) ⟨4, true⟩ (.t 18), none⟩,
     ⟨(some 20), .call (.f 13) [(.t 19)], none⟩,
     ⟨(some 21), .bin .add .num (.c (.s [58, 32])) (.t 20), none⟩,
     ⟨(some 22), .bin .add .num (.t 17) (.t 21), none⟩,
     ⟨(some 3), .mov (.t 22), none⟩])
   (.skip)))))
  ((.seq (.ops [⟨(some 23), .mov (.t 3), none⟩,
    ⟨(some 2), .mov (.t 23), none⟩])
  (.ret))))))))⟩
def f_strings_Join_B0 : C :=
  (.seq (.ops [⟨(some 42), .bin .lss .num (.t 41) (.t 40), none⟩])
  ((.seq ((.cond (.t 42) (.skip)
   (.exit 1)))
  ((.seq ((.block 2 [0, 1, 5, 39, 40, 41] ((.seq (.ops [⟨(some 43), .indexAddr (.t 39) (.t 41) 1 none, none⟩,
     ⟨(some 44), .load false none ⟨1, false⟩ (.t 43), none⟩,
     ⟨(some 7), .mov (.t 44), none⟩])
   ((.seq ((.seq (.ops [⟨(some 45), .mov (.t 7), none⟩,
     ⟨(some 46), .bi .lenS [(.t 45)], none⟩,
     ⟨(some 47), .mov (.t 5), none⟩,
     ⟨(some 48), .bin .sub .num (.c (.i .i64 9223372036854775807)) (.t 47), none⟩,
     ⟨(some 49), .bin .gtr .num (.t 46) (.t 48), none⟩])
   ((.cond (.t 49) (.ops [⟨(some 50), .mkIfc 9 (.c (.s [115, 116, 114, 105, 110, 103, 115, 58, 32, 74, 111, 105, 110, 32, 111, 117, 116, 112, 117, 116, 32, 108, 101, 110, 103, 116, 104, 32, 111, 118, 101, 114, 102, 108, 111, 119])), none⟩,
      ⟨none, .panic (.t 50), none⟩])
    (.skip)))))
   (.ops [⟨(some 51), .mov (.t 5), none⟩,
     ⟨(some 52), .mov (.t 7), none⟩,
     ⟨(some 53), .bi .lenS [(.t 52)], none⟩,
     ⟨(some 54), .bin .add .num (.t 51) (.t 53), none⟩,
     ⟨(some 5), .mov (.t 54), none⟩])))))))
  (.ops [⟨(some 55), .bin .add .num (.t 41) (.c (.i .i64 1)), none⟩,
    ⟨(some 41), .mov (.t 55), none⟩]))))))
def f_strings_Join_L0 : C := .loop [0, 1, 5, 39, 40, 41] f_strings_Join_B0
noncomputable def f_strings_Join_l0 (pg : Pg) (v0 v1 v5 v39 v40 v41 : V) (H : List Obj) (lo : Nat) : Option (Ex × St) := exL pg f_strings_Join_L0 ⟨[(0, v0), (1, v1), (5, v5), (39, v39), (40, v40), (41, v41)], H, lo⟩
theorem f_strings_Join_l0_in {pg : Pg} {e : Env} {H : List Obj} {lo : Nat} : exL pg f_strings_Join_L0 ⟨e, H, lo⟩ = f_strings_Join_l0 pg (keepV (get 0 e)) (keepV (get 1 e)) (keepV (get 5 e)) (keepV (get 39 e)) (keepV (get 40 e)) (keepV (get 41 e)) H lo := loop_in
theorem f_strings_Join_l0_eq {pg : Pg} {v0 v1 v5 v39 v40 v41 : V} {H : List Obj} {lo : Nat} : f_strings_Join_l0 pg v0 v1 v5 v39 v40 v41 H lo = thenC pg (exL pg f_strings_Join_B0 ⟨[(0, keepV v0), (1, keepV v1), (5, keepV v5), (39, keepV v39), (40, keepV v40), (41, keepV v41)], H, lo⟩) f_strings_Join_L0 := by
  unfold f_strings_Join_l0 f_strings_Join_L0; rw [exL_loop]; simp only [restrict_cons, restrict_nil, get_eq, get_ne, Nat.reduceEqDiff]
def f_strings_Join_B1 : C :=
  (.seq (.ops [⟨(some 66), .bin .lss .num (.t 65) (.t 64), none⟩])
  ((.seq ((.cond (.t 66) (.skip)
   (.exit 3)))
  ((.seq ((.block 4 [1, 8, 63, 64, 65] ((.seq (.ops [⟨(some 67), .indexAddr (.t 63) (.t 65) 1 none, none⟩,
     ⟨(some 68), .load false none ⟨1, false⟩ (.t 67), none⟩,
     ⟨(some 10), .mov (.t 68), none⟩])
   ((.seq (.ops [⟨(some 69), .mov (.t 1), none⟩,
     ⟨(some 70), .call (.f 22) [(.t 8), (.t 69)], none⟩])
   (.ops [⟨(some 71), .mov (.mv 10), none⟩,
     ⟨(some 72), .call (.f 22) [(.t 8), (.mv 71)], none⟩])))))))
  (.ops [⟨(some 73), .bin .add .num (.t 65) (.c (.i .i64 1)), none⟩,
    ⟨(some 65), .mov (.t 73), none⟩]))))))
def f_strings_Join_L1 : C := .loop [1, 8, 63, 64, 65] f_strings_Join_B1
noncomputable def f_strings_Join_l1 (pg : Pg) (v1 v8 v63 v64 v65 : V) (H : List Obj) (lo : Nat) : Option (Ex × St) := exL pg f_strings_Join_L1 ⟨[(1, v1), (8, v8), (63, v63), (64, v64), (65, v65)], H, lo⟩
theorem f_strings_Join_l1_in {pg : Pg} {e : Env} {H : List Obj} {lo : Nat} : exL pg f_strings_Join_L1 ⟨e, H, lo⟩ = f_strings_Join_l1 pg (keepV (get 1 e)) (keepV (get 8 e)) (keepV (get 63 e)) (keepV (get 64 e)) (keepV (get 65 e)) H lo := loop_in
theorem f_strings_Join_l1_eq {pg : Pg} {v1 v8 v63 v64 v65 : V} {H : List Obj} {lo : Nat} : f_strings_Join_l1 pg v1 v8 v63 v64 v65 H lo = thenC pg (exL pg f_strings_Join_B1 ⟨[(1, keepV v1), (8, keepV v8), (63, keepV v63), (64, keepV v64), (65, keepV v65)], H, lo⟩) f_strings_Join_L1 := by
  unfold f_strings_Join_l1 f_strings_Join_L1; rw [exL_loop]; simp only [restrict_cons, restrict_nil, get_eq, get_ne, Nat.reduceEqDiff]
def f_strings_Join_R2 : C :=
  (.seq (.ops [⟨(some 74), .call (.f 23) [(.t 8)], none⟩,
    ⟨(some 4), .mov (.mv 74), none⟩])
  (.ret))
def f_strings_Join_R3 : C :=
  (.seq (.ops [⟨(some 8), .alloc false [.np, .nil], none⟩])
  ((.seq (.ops [⟨(some 56), .mov (.mv 5), none⟩,
    ⟨(some 57), .call (.f 21) [(.t 8), (.mv 56)], none⟩])
  ((.seq (.ops [⟨(some 58), .mov (.t 0), none⟩,
    ⟨(some 59), .indexAddr (.t 58) (.c (.i .i64 0)) 1 none, none⟩,
    ⟨(some 60), .load false none ⟨1, false⟩ (.t 59), none⟩,
    ⟨(some 61), .call (.f 22) [(.t 8), (.t 60)], none⟩])
  ((.seq ((.seq (.ops [⟨(some 62), .mov (.t 0), none⟩,
    ⟨(some 63), .sliceL 1 (.t 62) (some (.c (.i .i64 1))) none, none⟩,
    ⟨(some 64), .bi .lenL [(.t 63)], none⟩,
    ⟨(some 65), .mov (.c (.i .i64 0)), none⟩])
  ((.block 3 [8] (f_strings_Join_L1)))))
  (f_strings_Join_R2))))))))
def f_strings_Join : Fn := ⟨2, [(.t 4)], true,
  (.seq (.ops [⟨(some 4), .mov (.c (.s [])), none⟩])
  ((.seq ((.seq (.ops [⟨(some 11), .mov (.t 0), none⟩,
    ⟨(some 12), .bi .lenL [(.t 11)], none⟩])
  ((.block 0 [0, 1] ((.seq (.ops [⟨(some 14), .bin .eql .num (.t 12) (.c (.i .i64 0)), none⟩,
     ⟨(some 13), .mov (.t 14), none⟩])
   ((.cond (.t 13) ((.seq (.ops [⟨(some 4), .mov (.c (.s [])), none⟩])
    (.ret)))
    ((.seq (.ops [⟨(some 16), .bin .eql .num (.t 12) (.c (.i .i64 1)), none⟩,
      ⟨(some 15), .mov (.t 16), none⟩])
    ((.cond (.t 15) ((.seq (.ops [⟨(some 17), .mov (.t 0), none⟩,
       ⟨(some 18), .indexAddr (.t 17) (.c (.i .i64 0)) 1 none, none⟩,
       ⟨(some 19), .load false none ⟨1, false⟩ (.t 18), none⟩,
       ⟨(some 4), .mov (.t 19), none⟩])
     (.ret)))
     (.skip)))))))))))))
  ((.seq (.ops [⟨(some 5), .mov (.c (.i .i64 0)), none⟩])
  ((.seq ((.seq (.ops [⟨(some 20), .mov (.t 1), none⟩,
    ⟨(some 21), .bi .lenS [(.t 20)], none⟩,
    ⟨(some 22), .bin .gtr .num (.t 21) (.c (.i .i64 0)), none⟩])
  ((.cond (.t 22) ((.seq ((.seq (.ops [⟨(some 23), .mov (.t 1), none⟩,
     ⟨(some 24), .bi .lenS [(.t 23)], none⟩,
     ⟨(some 25), .mov (.t 0), none⟩,
     ⟨(some 26), .bi .lenL [(.t 25)], none⟩,
     ⟨(some 27), .bin .sub .num (.t 26) (.c (.i .i64 1)), none⟩,
     ⟨(some 28), .bin .quo .num (.c (.i .i64 9223372036854775807)) (.t 27), none⟩,
     ⟨(some 29), .bin .geq .num (.t 24) (.t 28), none⟩])
   ((.cond (.t 29) (.ops [⟨(some 30), .mkIfc 9 (.c (.s [115, 116, 114, 105, 110, 103, 115, 58, 32, 74, 111, 105, 110, 32, 111, 117, 116, 112, 117, 116, 32, 108, 101, 110, 103, 116, 104, 32, 111, 118, 101, 114, 102, 108, 111, 119])), none⟩,
      ⟨none, .panic (.t 30), none⟩])
    (.skip)))))
   (.ops [⟨(some 31), .mov (.t 5), none⟩,
     ⟨(some 32), .mov (.t 1), none⟩,
     ⟨(some 33), .bi .lenS [(.t 32)], none⟩,
     ⟨(some 34), .mov (.t 0), none⟩,
     ⟨(some 35), .bi .lenL [(.t 34)], none⟩,
     ⟨(some 36), .bin .sub .num (.t 35) (.c (.i .i64 1)), none⟩,
     ⟨(some 37), .bin .mul .num (.t 33) (.t 36), none⟩,
     ⟨(some 38), .bin .add .num (.t 31) (.t 37), none⟩,
     ⟨(some 5), .mov (.t 38), none⟩])))
   (.skip)))))
  ((.seq ((.seq (.ops [⟨(some 39), .mov (.t 0), none⟩,
    ⟨(some 40), .bi .lenL [(.t 39)], none⟩,
    ⟨(some 41), .mov (.c (.i .i64 0)), none⟩])
  ((.block 1 [0, 1, 5] (f_strings_Join_L0)))))
  (f_strings_Join_R3))))))))))⟩
def f_waferref11_Num : Fn := ⟨2, [(.cell 4 ⟨8, true⟩)], true,
  (.seq (.ops [⟨(some 4), .alloc true [(.i .i64 0), (.i .i64 0), (.i .i64 0), (.s []), .nil, (.i .i32 0), (.s []), .nil], none⟩])
  ((.seq (.ops [⟨(some 5), .mov (.mv 0), none⟩,
    ⟨(some 6), .call (.f 5) [(.mv 5)], none⟩,
    ⟨(some 7), .mov (.t 1), none⟩,
    ⟨(some 8), .build [(.i .i64 0), (.i .i64 0), (.i .i64 0), (.s []), .nil, (.i .i32 0), (.s []), .nil] [(1, 4, (.t 6)), (5, 1, (.t 7))], none⟩,
    ⟨none, .store (some 4) ⟨8, true⟩ (.t 4) (.t 8), none⟩])
  (.ret))))⟩
def f_strconv_Quote : Fn := ⟨1, [(.t 2)], true,
  (.seq (.ops [⟨(some 2), .mov (.c (.s [])), none⟩])
  ((.seq (.ops [⟨(some 3), .mov (.mv 0), none⟩,
    ⟨(some 4), .call (.f 24) [(.mv 3), (.c (.i .u8 34)), (.c (.b false)), (.c (.b false))], none⟩,
    ⟨(some 2), .mov (.mv 4), none⟩])
  (.ret))))⟩
def f_strconv_Itoa : Fn := ⟨1, [(.t 2)], true,
  (.seq (.ops [⟨(some 2), .mov (.c (.s [])), none⟩])
  ((.seq (.ops [⟨(some 3), .mov (.mv 0), none⟩,
    ⟨(some 4), .call (.f 25) [(.mv 3)], none⟩,
    ⟨(some 2), .mov (.mv 4), none⟩])
  (.ret))))⟩
def f_finger_params_B0 : C :=
  (.seq (.ops [⟨(some 10), .bin .lss .num (.t 9) (.t 8), none⟩])
  ((.seq ((.cond (.t 10) (.skip)
   (.exit 0)))
  ((.seq ((.block 1 [3, 7, 8, 9] ((.seq (.ops [⟨(some 11), .indexAddr (.t 7) (.t 9) 6 none, none⟩,
     ⟨(some 12), .load false none ⟨6, true⟩ (.t 11), none⟩,
     ⟨(some 5), .alloc true [(.s []), (.b false), (.i .i64 0), (.i .i64 0), (.s []), .nil], none⟩,
     ⟨none, .store (some 5) ⟨6, true⟩ (.t 5) (.t 12), none⟩])
   ((.seq (.ops [⟨(some 13), .fieldAddr (.t 5) 2 ⟨4, true⟩, none⟩,
     ⟨(some 14), .load false (some 5) ⟨4, true⟩ (.t 13), none⟩,
     ⟨(some 15), .call (.f 13) [(.t 14)], none⟩,
     ⟨(some 6), .mov (.mv 15), none⟩])
   ((.seq ((.seq (.ops [⟨(some 16), .fieldAddr (.t 5) 1 ⟨1, false⟩, none⟩,
     ⟨(some 17), .load false (some 5) ⟨1, false⟩ (.t 16), none⟩])
   ((.cond (.t 17) (.ops [⟨(some 18), .mov (.t 6), none⟩,
      ⟨(some 19), .bin .add .num (.c (.s [86, 65, 82, 32])) (.t 18), none⟩,
      ⟨(some 6), .mov (.t 19), none⟩])
    (.skip)))))
   (.ops [⟨(some 20), .mov (.mv 3), none⟩,
     ⟨(some 21), .mov (.t 6), none⟩,
     ⟨(some 22), .buildSlice (.s []) 1 [(0, (.t 21))], none⟩,
     ⟨(some 23), .bi (.append 1 16) [(.mv 20), (.t 22)], none⟩,
     ⟨(some 3), .mov (.mv 23), none⟩])))))))))
  (.ops [⟨(some 24), .bin .add .num (.t 9) (.c (.i .i64 1)), none⟩,
    ⟨(some 9), .mov (.t 24), none⟩]))))))
def f_finger_params_L0 : C := .loop [3, 7, 8, 9] f_finger_params_B0
noncomputable def f_finger_params_l0 (pg : Pg) (v3 v7 v8 v9 : V) (H : List Obj) (lo : Nat) : Option (Ex × St) := exL pg f_finger_params_L0 ⟨[(3, v3), (7, v7), (8, v8), (9, v9)], H, lo⟩
theorem f_finger_params_l0_in {pg : Pg} {e : Env} {H : List Obj} {lo : Nat} : exL pg f_finger_params_L0 ⟨e, H, lo⟩ = f_finger_params_l0 pg (keepV (get 3 e)) (keepV (get 7 e)) (keepV (get 8 e)) (keepV (get 9 e)) H lo := loop_in
theorem f_finger_params_l0_eq {pg : Pg} {v3 v7 v8 v9 : V} {H : List Obj} {lo : Nat} : f_finger_params_l0 pg v3 v7 v8 v9 H lo = thenC pg (exL pg f_finger_params_B0 ⟨[(3, keepV v3), (7, keepV v7), (8, keepV v8), (9, keepV v9)], H, lo⟩) f_finger_params_L0 := by
  unfold f_finger_params_l0 f_finger_params_L0; rw [exL_loop]; simp only [restrict_cons, restrict_nil, get_eq, get_ne, Nat.reduceEqDiff]
def f_finger_params_R1 : C :=
  (.seq (.ops [⟨(some 25), .mov (.mv 3), none⟩,
    ⟨(some 26), .call (.f 16) [(.mv 25), (.c (.s [44, 32]))], none⟩,
    ⟨(some 2), .mov (.mv 26), none⟩])
  (.ret))
def f_finger_params : Fn := ⟨1, [(.t 2)], true,
  (.seq (.ops [⟨(some 2), .mov (.c (.s [])), none⟩])
  ((.seq (.ops [⟨(some 3), .mov (.c .nil), none⟩])
  ((.seq ((.seq (.ops [⟨(some 7), .mov (.t 0), none⟩,
    ⟨(some 8), .bi .lenL [(.t 7)], none⟩,
    ⟨(some 9), .mov (.c (.i .i64 0)), none⟩])
  ((.block 0 [3] (f_finger_params_L0)))))
  (f_finger_params_R1))))))⟩
def f_strings_Builder_Grow : Fn := ⟨2, [], false,
  (.seq (.ops [⟨(some 4), .mov (.t 0), none⟩,
    ⟨(some 5), .call (.f 26) [(.t 4)], none⟩])
  ((.seq ((.seq (.ops [⟨(some 6), .mov (.t 1), none⟩,
    ⟨(some 7), .bin .lss .num (.t 6) (.c (.i .i64 0)), none⟩])
  ((.cond (.t 7) (.ops [⟨(some 8), .mkIfc 9 (.c (.s [115, 116, 114, 105, 110, 103, 115, 46, 66, 117, 105, 108, 100, 101, 114, 46, 71, 114, 111, 119, 58, 32, 110, 101, 103, 97, 116, 105, 118, 101, 32, 99, 111, 117, 110, 116])), none⟩,
     ⟨none, .panic (.t 8), none⟩])
   (.skip)))))
  ((.seq (.opsD [(⟨(some 9), .mov (.t 0), none⟩, false, []),
    (⟨(some 10), .nilCheck (.t 9), none⟩, false, []),
    (⟨(some 11), .fieldAddr (.t 10) 1 ⟨1, false⟩, none⟩, false, []),
    (⟨(some 12), .load false none ⟨1, false⟩ (.t 11), none⟩, false, []),
    (⟨(some 13), .stuck, none⟩, false, []),
    (⟨(some 14), .mov (.t 0), none⟩, false, []),
    (⟨(some 15), .nilCheck (.t 14), none⟩, false, []),
    (⟨(some 16), .fieldAddr (.t 15) 1 ⟨1, false⟩, none⟩, false, []),
    (⟨(some 17), .load false none ⟨1, false⟩ (.t 16), none⟩, false, []),
    (⟨(some 18), .bi .lenL [(.t 17)], none⟩, false, []),
    (⟨(some 19), .bin .sub .num (.t 13) (.t 18), none⟩, false, []),
    (⟨(some 20), .mov (.t 1), none⟩, false, []),
    (⟨(some 21), .bin .lss .num (.t 19) (.t 20), none⟩, true, [])])
  ((.cond (.t 21) (.ops [⟨(some 22), .mov (.mv 0), none⟩,
     ⟨(some 23), .mov (.mv 1), none⟩,
     ⟨(some 24), .call (.f 27) [(.mv 22), (.mv 23)], none⟩])
   (.skip))))))))⟩
def f_strings_Builder_WriteString : Fn := ⟨2, [(.t 4), (.t 5)], false,
  (.seq (.ops [⟨(some 4), .mov (.c (.i .i64 0)), none⟩,
    ⟨(some 5), .mov (.c .ni), none⟩])
  ((.seq (.ops [⟨(some 6), .mov (.t 0), none⟩,
    ⟨(some 7), .call (.f 26) [(.t 6)], none⟩])
  ((.seq (.ops [⟨(some 8), .mov (.t 0), none⟩,
    ⟨(some 9), .mov (.t 0), none⟩,
    ⟨(some 10), .nilCheck (.t 9), none⟩,
    ⟨(some 11), .fieldAddr (.t 10) 1 ⟨1, false⟩, none⟩,
    ⟨(some 12), .load true none ⟨1, false⟩ (.t 11), none⟩,
    ⟨(some 13), .mov (.t 1), none⟩,
    ⟨(some 14), .bi (.append 1 1) [(.mv 12), (.t 13)], none⟩,
    ⟨(some 15), .nilCheck (.t 8), none⟩,
    ⟨(some 16), .fieldAddr (.t 15) 1 ⟨1, false⟩, none⟩,
    ⟨none, .store none ⟨1, false⟩ (.t 16) (.mv 14), none⟩])
  ((.seq (.ops [⟨(some 17), .mov (.t 1), none⟩,
    ⟨(some 18), .bi .lenS [(.t 17)], none⟩,
    ⟨(some 4), .mov (.t 18), none⟩,
    ⟨(some 5), .mov (.c .ni), none⟩])
  (.ret))))))))⟩
def f_strings_Builder_String : Fn := ⟨1, [(.t 2)], true,
  (.seq (.ops [⟨(some 2), .mov (.c (.s [])), none⟩])
  ((.seq (.opsD [(⟨(some 3), .mov (.t 0), none⟩, false, []),
    (⟨(some 4), .nilCheck (.t 3), none⟩, false, []),
    (⟨(some 5), .fieldAddr (.t 4) 1 ⟨1, false⟩, none⟩, false, []),
    (⟨(some 6), .load false none ⟨1, false⟩ (.t 5), none⟩, false, []),
    (⟨(some 7), .stuck, none⟩, false, []),
    (⟨(some 8), .mov (.t 0), none⟩, false, []),
    (⟨(some 9), .nilCheck (.t 8), none⟩, false, []),
    (⟨(some 10), .fieldAddr (.t 9) 1 ⟨1, false⟩, none⟩, false, []),
    (⟨(some 11), .load false none ⟨1, false⟩ (.t 10), none⟩, false, []),
    (⟨(some 12), .bi .lenL [(.t 11)], none⟩, false, []),
    (⟨(some 13), .stuck, none⟩, true, []),
    (⟨(some 2), .mov (.t 13), none⟩, true, [])])
  (.ret))))⟩
def f_strconv_quoteWith : Fn := ⟨4, [(.t 8)], true,
  (.seq (.ops [⟨(some 8), .mov (.c (.s [])), none⟩])
  ((.seq (.ops [⟨(some 9), .mov (.t 0), none⟩,
    ⟨(some 10), .bi .lenS [(.t 9)], none⟩,
    ⟨(some 11), .bin .mul .num (.c (.i .i64 3)) (.t 10), none⟩,
    ⟨(some 12), .bin .quo .num (.t 11) (.c (.i .i64 2)), none⟩,
    ⟨(some 13), .mkSlice (.i .u8 0) (.c (.i .i64 0)) (.t 12), none⟩,
    ⟨(some 14), .mov (.mv 0), none⟩,
    ⟨(some 15), .mov (.mv 1), none⟩,
    ⟨(some 16), .mov (.mv 2), none⟩,
    ⟨(some 17), .mov (.mv 3), none⟩,
    ⟨(some 18), .call (.f 28) [(.t 13), (.mv 14), (.mv 15), (.mv 16), (.mv 17)], none⟩,
    ⟨(some 19), .text (.t 18), none⟩,
    ⟨(some 8), .mov (.mv 19), none⟩])
  (.ret))))⟩
def f_internal_strconv_Itoa : Fn := ⟨1, [(.t 2)], true,
  (.seq (.ops [⟨(some 2), .mov (.c (.s [])), none⟩])
  ((.seq (.ops [⟨(some 3), .mov (.mv 0), none⟩,
    ⟨(some 4), .call (.f 29) [(.mv 3), (.c (.i .i64 10))], none⟩,
    ⟨(some 2), .mov (.mv 4), none⟩])
  (.ret))))⟩
def f_strings_Builder_copyCheck : Fn := ⟨1, [], false,
  (.seq (.ops [⟨(some 2), .mov (.t 0), none⟩,
    ⟨(some 3), .nilCheck (.t 2), none⟩,
    ⟨(some 4), .fieldAddr (.t 3) 0 ⟨1, false⟩, none⟩,
    ⟨(some 5), .load false none ⟨1, false⟩ (.t 4), none⟩,
    ⟨(some 6), .bin .eql .ptr (.t 5) (.c .np), none⟩])
  ((.cond (.t 6) (.ops [⟨(some 7), .mov (.t 0), none⟩,
     ⟨(some 8), .mov (.t 0), none⟩,
     ⟨(some 9), .stuck, none⟩,
     ⟨(some 10), .call (.f 30) [(.t 9)], none⟩,
     ⟨(some 11), .stuck, none⟩,
     ⟨(some 12), .nilCheck (.t 7), none⟩,
     ⟨(some 13), .fieldAddr (.t 12) 0 ⟨1, false⟩, none⟩,
     ⟨none, .store none ⟨1, false⟩ (.t 13) (.mv 11), none⟩])
   ((.seq (.ops [⟨(some 14), .mov (.t 0), none⟩,
     ⟨(some 15), .nilCheck (.t 14), none⟩,
     ⟨(some 16), .fieldAddr (.t 15) 0 ⟨1, false⟩, none⟩,
     ⟨(some 17), .load false none ⟨1, false⟩ (.t 16), none⟩,
     ⟨(some 18), .mov (.t 0), none⟩,
     ⟨(some 19), .bin .neq .ptr (.t 17) (.t 18), none⟩])
   ((.cond (.t 19) (.stuck)
    (.skip))))))))⟩
def f_strings_Builder_grow : Fn := ⟨2, [], false,
  (.seq (.opsD [(⟨(some 5), .mov (.t 0), none⟩, false, []),
    (⟨(some 6), .nilCheck (.t 5), none⟩, false, []),
    (⟨(some 7), .fieldAddr (.t 6) 1 ⟨1, false⟩, none⟩, false, []),
    (⟨(some 8), .load false none ⟨1, false⟩ (.t 7), none⟩, false, []),
    (⟨(some 9), .stuck, none⟩, false, []),
    (⟨(some 10), .bin .mul .num (.c (.i .i64 2)) (.t 9), none⟩, false, []),
    (⟨(some 11), .mov (.t 1), none⟩, false, []),
    (⟨(some 12), .bin .add .num (.t 10) (.t 11), none⟩, false, []),
    (⟨(some 13), .call (.f 31) [(.t 12)], none⟩, false, []),
    (⟨(some 14), .mov (.t 0), none⟩, false, []),
    (⟨(some 15), .nilCheck (.t 14), none⟩, false, []),
    (⟨(some 16), .fieldAddr (.t 15) 1 ⟨1, false⟩, none⟩, false, []),
    (⟨(some 17), .load false none ⟨1, false⟩ (.t 16), none⟩, false, []),
    (⟨(some 18), .bi .lenL [(.t 17)], none⟩, false, []),
    (⟨(some 19), .sliceL 1 (.t 13) none (some (.t 18)), none⟩, true, []),
    (⟨(some 4), .mov (.t 19), none⟩, true, [])])
  ((.seq (.ops [⟨(some 20), .mov (.t 4), none⟩,
    ⟨(some 21), .mov (.t 0), none⟩,
    ⟨(some 22), .nilCheck (.t 21), none⟩,
    ⟨(some 23), .fieldAddr (.t 22) 1 ⟨1, false⟩, none⟩,
    ⟨(some 24), .load false none ⟨1, false⟩ (.t 23), none⟩,
    ⟨(some 25), .stuck, none⟩])
  (.ops [⟨(some 26), .mov (.t 0), none⟩,
    ⟨(some 27), .mov (.t 4), none⟩,
    ⟨(some 28), .nilCheck (.t 26), none⟩,
    ⟨(some 29), .fieldAddr (.t 28) 1 ⟨1, false⟩, none⟩,
    ⟨none, .store none ⟨1, false⟩ (.t 29) (.t 27), none⟩]))))⟩
def f_strconv_appendQuotedWith_B0 : C :=
  (.seq ((.seq (.ops [⟨(some 40), .mov (.t 1), none⟩,
    ⟨(some 41), .bi .lenS [(.t 40)], none⟩,
    ⟨(some 42), .bin .gtr .num (.t 41) (.c (.i .i64 0)), none⟩])
  ((.cond (.t 42) (.skip)
   (.exit 0)))))
  ((.seq ((.block 1 [0, 1, 2, 3, 4, 13] ((.seq (.ops [⟨(some 47), .mov (.t 1), none⟩,
     ⟨(some 48), .call (.f 32) [(.t 47)], none⟩,
     ⟨(some 46), .mov (.t 48), none⟩,
     ⟨(some 49), .extract (.t 46) 0, none⟩,
     ⟨(some 50), .extract (.t 46) 1, none⟩,
     ⟨(some 12), .mov (.t 49), none⟩,
     ⟨(some 13), .mov (.t 50), none⟩])
   ((.seq ((.seq (.ops [⟨(some 51), .mov (.t 13), none⟩,
     ⟨(some 52), .bin .eql .num (.t 51) (.c (.i .i64 1)), none⟩,
     ⟨(some 53), .mov (.t 52), none⟩,
     ⟨(some 54), .mov (.t 12), some (53, true)⟩,
     ⟨(some 55), .bin .eql .num (.t 54) (.c (.i .i32 65533)), some (53, true)⟩,
     ⟨(some 56), .pick (.t 53) (.t 55) (.c (.b false)), none⟩])
   ((.cond (.t 56) ((.seq (.ops [⟨(some 57), .mov (.mv 0), none⟩,
      ⟨(some 58), .bi (.append 1 1) [(.mv 57), (.c (.s [92, 120]))], none⟩,
      ⟨(some 0), .mov (.mv 58), none⟩])
    ((.seq (.ops [⟨(some 59), .mov (.mv 0), none⟩,
      ⟨(some 60), .mov (.t 1), none⟩,
      ⟨(some 61), .index (.t 60) (.c (.i .i64 0)), none⟩,
      ⟨(some 62), .bin .shr .num (.t 61) (.c (.i .u64 4)), none⟩,
      ⟨(some 63), .index (.c (.s [48, 49, 50, 51, 52, 53, 54, 55, 56, 57, 97, 98, 99, 100, 101, 102])) (.t 62), none⟩,
      ⟨(some 64), .buildSlice (.i .u8 0) 1 [(0, (.t 63))], none⟩,
      ⟨(some 65), .bi (.append 1 1) [(.mv 59), (.t 64)], none⟩,
      ⟨(some 0), .mov (.mv 65), none⟩])
    ((.seq (.ops [⟨(some 66), .mov (.mv 0), none⟩,
      ⟨(some 67), .mov (.t 1), none⟩,
      ⟨(some 68), .index (.t 67) (.c (.i .i64 0)), none⟩,
      ⟨(some 69), .bin .and .num (.t 68) (.c (.i .u8 15)), none⟩,
      ⟨(some 70), .index (.c (.s [48, 49, 50, 51, 52, 53, 54, 55, 56, 57, 97, 98, 99, 100, 101, 102])) (.t 69), none⟩,
      ⟨(some 71), .buildSlice (.i .u8 0) 1 [(0, (.t 70))], none⟩,
      ⟨(some 72), .bi (.append 1 1) [(.mv 66), (.t 71)], none⟩,
      ⟨(some 0), .mov (.mv 72), none⟩])
    (.exit 1)))))))
    (.skip)))))
   (.ops [⟨(some 73), .mov (.mv 0), none⟩,
     ⟨(some 74), .mov (.mv 12), none⟩,
     ⟨(some 75), .mov (.t 2), none⟩,
     ⟨(some 76), .mov (.t 3), none⟩,
     ⟨(some 77), .mov (.t 4), none⟩,
     ⟨(some 78), .call (.f 33) [(.mv 73), (.mv 74), (.t 75), (.t 76), (.t 77)], none⟩,
     ⟨(some 0), .mov (.mv 78), none⟩])))))))
  (.ops [⟨(some 43), .mov (.t 1), none⟩,
    ⟨(some 44), .mov (.t 13), none⟩,
    ⟨(some 45), .sliceS (.t 43) (some (.t 44)) none, none⟩,
    ⟨(some 1), .mov (.t 45), none⟩]))))
def f_strconv_appendQuotedWith_L0 : C := .loop [0, 1, 2, 3, 4] f_strconv_appendQuotedWith_B0
noncomputable def f_strconv_appendQuotedWith_l0 (pg : Pg) (v0 v1 v2 v3 v4 : V) (H : List Obj) (lo : Nat) : Option (Ex × St) := exL pg f_strconv_appendQuotedWith_L0 ⟨[(0, v0), (1, v1), (2, v2), (3, v3), (4, v4)], H, lo⟩
theorem f_strconv_appendQuotedWith_l0_in {pg : Pg} {e : Env} {H : List Obj} {lo : Nat} : exL pg f_strconv_appendQuotedWith_L0 ⟨e, H, lo⟩ = f_strconv_appendQuotedWith_l0 pg (keepV (get 0 e)) (keepV (get 1 e)) (keepV (get 2 e)) (keepV (get 3 e)) (keepV (get 4 e)) H lo := loop_in
theorem f_strconv_appendQuotedWith_l0_eq {pg : Pg} {v0 v1 v2 v3 v4 : V} {H : List Obj} {lo : Nat} : f_strconv_appendQuotedWith_l0 pg v0 v1 v2 v3 v4 H lo = thenC pg (exL pg f_strconv_appendQuotedWith_B0 ⟨[(0, keepV v0), (1, keepV v1), (2, keepV v2), (3, keepV v3), (4, keepV v4)], H, lo⟩) f_strconv_appendQuotedWith_L0 := by
  unfold f_strconv_appendQuotedWith_l0 f_strconv_appendQuotedWith_L0; rw [exL_loop]; simp only [restrict_cons, restrict_nil, get_eq, get_ne, Nat.reduceEqDiff]
def f_strconv_appendQuotedWith_R1 : C :=
  (.seq (.ops [⟨(some 79), .mov (.mv 0), none⟩,
    ⟨(some 80), .mov (.t 2), none⟩,
    ⟨(some 81), .buildSlice (.i .u8 0) 1 [(0, (.t 80))], none⟩,
    ⟨(some 82), .bi (.append 1 1) [(.mv 79), (.t 81)], none⟩,
    ⟨(some 0), .mov (.mv 82), none⟩])
  ((.seq (.ops [⟨(some 83), .mov (.t 0), none⟩,
    ⟨(some 10), .mov (.t 83), none⟩])
  (.ret))))
def f_strconv_appendQuotedWith : Fn := ⟨5, [(.t 10)], true,
  (.seq (.ops [⟨(some 10), .mov (.c .nil), none⟩])
  ((.seq ((.seq (.ops [⟨(some 14), .mov (.t 0), none⟩,
    ⟨(some 15), .stuck, none⟩,
    ⟨(some 16), .mov (.t 0), none⟩,
    ⟨(some 17), .bi .lenL [(.t 16)], none⟩,
    ⟨(some 18), .bin .sub .num (.t 15) (.t 17), none⟩,
    ⟨(some 19), .mov (.t 1), none⟩,
    ⟨(some 20), .bi .lenS [(.t 19)], none⟩,
    ⟨(some 21), .bin .lss .num (.t 18) (.t 20), none⟩])
  ((.cond (.t 21) ((.seq (.ops [⟨(some 22), .mov (.t 0), none⟩,
     ⟨(some 23), .bi .lenL [(.t 22)], none⟩,
     ⟨(some 24), .mov (.t 0), none⟩,
     ⟨(some 25), .bi .lenL [(.t 24)], none⟩,
     ⟨(some 26), .bin .add .num (.t 25) (.c (.i .i64 1)), none⟩,
     ⟨(some 27), .mov (.t 1), none⟩,
     ⟨(some 28), .bi .lenS [(.t 27)], none⟩,
     ⟨(some 29), .bin .add .num (.t 26) (.t 28), none⟩,
     ⟨(some 30), .bin .add .num (.t 29) (.c (.i .i64 1)), none⟩,
     ⟨(some 31), .mkSlice (.i .u8 0) (.t 23) (.t 30), none⟩,
     ⟨(some 11), .mov (.mv 31), none⟩])
   ((.seq (.ops [⟨(some 32), .mov (.t 11), none⟩,
     ⟨(some 33), .mov (.t 0), none⟩,
     ⟨(some 34), .stuck, none⟩])
   (.ops [⟨(some 35), .mov (.t 11), none⟩,
     ⟨(some 0), .mov (.t 35), none⟩])))))
   (.skip)))))
  ((.seq (.ops [⟨(some 36), .mov (.mv 0), none⟩,
    ⟨(some 37), .mov (.t 2), none⟩,
    ⟨(some 38), .buildSlice (.i .u8 0) 1 [(0, (.t 37))], none⟩,
    ⟨(some 39), .bi (.append 1 1) [(.mv 36), (.t 38)], none⟩,
    ⟨(some 0), .mov (.mv 39), none⟩])
  ((.seq ((.seq (.ops [⟨(some 12), .mov (.c (.i .i32 0)), none⟩,
    ⟨(some 13), .mov (.c (.i .i64 0)), none⟩])
  ((.block 0 [0, 2] (f_strconv_appendQuotedWith_L0)))))
  (f_strconv_appendQuotedWith_R1))))))))⟩
def f_internal_strconv_FormatInt : Fn := ⟨2, [(.t 4)], true,
  (.seq (.ops [⟨(some 4), .mov (.c (.s [])), none⟩])
  ((.seq ((.seq (.ops [⟨(some 10), .mov (.t 1), none⟩,
    ⟨(some 11), .bin .eql .num (.t 10) (.c (.i .i64 10)), none⟩])
  ((.cond (.t 11) ((.seq ((.seq (.ops [⟨(some 12), .mov (.t 0), none⟩,
     ⟨(some 13), .bin .leq .num (.c (.i .i64 0)) (.t 12), none⟩,
     ⟨(some 14), .mov (.t 13), none⟩,
     ⟨(some 15), .mov (.t 0), some (14, true)⟩,
     ⟨(some 16), .bin .lss .num (.t 15) (.c (.i .i64 100)), some (14, true)⟩,
     ⟨(some 17), .pick (.t 14) (.t 16) (.c (.b false)), none⟩])
   ((.cond (.t 17) ((.seq (.ops [⟨(some 18), .mov (.mv 0), none⟩,
      ⟨(some 19), .call (.f 34) [(.mv 18)], none⟩,
      ⟨(some 4), .mov (.mv 19), none⟩])
    (.ret)))
    (.skip)))))
   ((.seq (.ops [⟨(some 5), .alloc false [(.i .u8 0), (.i .u8 0), (.i .u8 0), (.i .u8 0), (.i .u8 0), (.i .u8 0), (.i .u8 0), (.i .u8 0), (.i .u8 0), (.i .u8 0), (.i .u8 0), (.i .u8 0), (.i .u8 0), (.i .u8 0), (.i .u8 0), (.i .u8 0), (.i .u8 0), (.i .u8 0), (.i .u8 0), (.i .u8 0), (.i .u8 0), (.i .u8 0), (.i .u8 0), (.i .u8 0)], none⟩])
   ((.seq (.ops [⟨(some 20), .mov (.t 0), none⟩,
     ⟨(some 21), .conv .u64 (.t 20), none⟩,
     ⟨(some 6), .mov (.mv 21), none⟩])
   ((.seq ((.seq (.ops [⟨(some 22), .mov (.t 0), none⟩,
     ⟨(some 23), .bin .lss .num (.t 22) (.c (.i .i64 0)), none⟩])
   ((.cond (.t 23) (.ops [⟨(some 24), .mov (.t 6), none⟩,
      ⟨(some 25), .un .neg (.t 24), none⟩,
      ⟨(some 6), .mov (.t 25), none⟩])
    (.skip)))))
   ((.seq (.ops [⟨(some 26), .mov (.t 6), none⟩,
     ⟨(some 27), .call (.f 35) [(.t 26)], none⟩,
     ⟨(some 7), .mov (.mv 27), none⟩])
   ((.seq (.ops [⟨(some 28), .mov (.t 7), none⟩,
     ⟨(some 29), .bin .add .num (.c (.i .i64 1)) (.t 28), none⟩,
     ⟨(some 30), .sliceA 24 (.t 5) (some (.c (.i .i64 1))) (some (.t 29)), none⟩,
     ⟨(some 31), .mov (.mv 6), none⟩,
     ⟨(some 32), .call (.f 36) [(.t 30), (.mv 31)], none⟩])
   ((.seq ((.seq (.ops [⟨(some 33), .mov (.t 0), none⟩,
     ⟨(some 34), .bin .lss .num (.t 33) (.c (.i .i64 0)), none⟩])
   ((.cond (.t 34) ((.seq (.ops [⟨(some 35), .indexAddr (.t 5) (.c (.i .i64 0)) 1 (some 24), none⟩,
      ⟨none, .store none ⟨1, false⟩ (.t 35) (.c (.i .u8 45)), none⟩])
    ((.seq (.ops [⟨(some 36), .mov (.t 7), none⟩,
      ⟨(some 37), .bin .add .num (.c (.i .i64 1)) (.t 36), none⟩,
      ⟨(some 38), .sliceA 24 (.t 5) none (some (.t 37)), none⟩,
      ⟨(some 39), .text (.t 38), none⟩,
      ⟨(some 4), .mov (.mv 39), none⟩])
    (.ret)))))
    (.skip)))))
   ((.seq (.ops [⟨(some 40), .mov (.t 7), none⟩,
     ⟨(some 41), .bin .add .num (.c (.i .i64 1)) (.t 40), none⟩,
     ⟨(some 42), .sliceA 24 (.t 5) (some (.c (.i .i64 1))) (some (.t 41)), none⟩,
     ⟨(some 43), .text (.t 42), none⟩,
     ⟨(some 4), .mov (.mv 43), none⟩])
   (.ret)))))))))))))))))
   (.skip)))))
  ((.seq (.ops [⟨(some 45), .mov (.t 0), none⟩,
    ⟨(some 46), .conv .u64 (.t 45), none⟩,
    ⟨(some 47), .mov (.mv 1), none⟩,
    ⟨(some 48), .mov (.t 0), none⟩,
    ⟨(some 49), .bin .lss .num (.t 48) (.c (.i .i64 0)), none⟩,
    ⟨(some 50), .call (.f 37) [(.c .nil), (.t 46), (.mv 47), (.t 49), (.c (.b false))], none⟩,
    ⟨(some 44), .mov (.t 50), none⟩,
    ⟨(some 51), .extract (.t 44) 0, none⟩,
    ⟨(some 52), .extract (.t 44) 1, none⟩,
    ⟨(some 8), .mov (.t 51), none⟩,
    ⟨(some 9), .mov (.t 52), none⟩])
  ((.seq (.ops [⟨(some 53), .mov (.t 9), none⟩,
    ⟨(some 4), .mov (.t 53), none⟩])
  (.ret))))))))⟩
def f_unicode_utf8_DecodeRuneInString : Fn := ⟨1, [(.t 2), (.t 3)], false,
  (.seq (.ops [⟨(some 2), .mov (.c (.i .i32 0)), none⟩,
    ⟨(some 3), .mov (.c (.i .i64 0)), none⟩])
  ((.seq ((.seq (.ops [⟨(some 4), .mov (.t 0), none⟩,
    ⟨(some 5), .bin .neq .num (.t 4) (.c (.s [])), none⟩,
    ⟨(some 6), .mov (.t 5), none⟩,
    ⟨(some 7), .mov (.t 0), some (6, true)⟩,
    ⟨(some 8), .index (.t 7) (.c (.i .i64 0)), some (6, true)⟩,
    ⟨(some 9), .bin .lss .num (.t 8) (.c (.i .u8 128)), some (6, true)⟩,
    ⟨(some 10), .pick (.t 6) (.t 9) (.c (.b false)), none⟩])
  ((.cond (.t 10) ((.seq (.ops [⟨(some 11), .mov (.t 0), none⟩,
     ⟨(some 12), .index (.t 11) (.c (.i .i64 0)), none⟩,
     ⟨(some 13), .conv .i32 (.t 12), none⟩,
     ⟨(some 2), .mov (.mv 13), none⟩,
     ⟨(some 3), .mov (.c (.i .i64 1)), none⟩])
   (.ret)))
   (.ops [⟨(some 15), .mov (.mv 0), none⟩,
     ⟨(some 16), .call (.f 38) [(.mv 15)], none⟩,
     ⟨(some 14), .mov (.t 16), none⟩,
     ⟨(some 17), .extract (.t 14) 0, none⟩,
     ⟨(some 18), .extract (.t 14) 1, none⟩,
     ⟨(some 2), .mov (.t 17), none⟩,
     ⟨(some 3), .mov (.t 18), none⟩])))))
  (.ret))))⟩
def f_strconv_appendEscapedRune_B0 : C :=
  (.seq ((.seq (.ops [⟨(some 88), .mov (.t 11), none⟩,
    ⟨(some 89), .bin .geq .num (.t 88) (.c (.i .i64 0)), none⟩])
  ((.cond (.t 89) (.skip)
   (.exit 6)))))
  ((.seq ((.block 7 [0, 1, 11] (.ops [⟨(some 92), .mov (.mv 0), none⟩,
     ⟨(some 93), .mov (.t 1), none⟩,
     ⟨(some 94), .mov (.t 11), none⟩,
     ⟨(some 95), .conv .u64 (.t 94), none⟩,
     ⟨(some 96), .bin .shr .num (.t 93) (.t 95), none⟩,
     ⟨(some 97), .bin .and .num (.t 96) (.c (.i .i32 15)), none⟩,
     ⟨(some 98), .index (.c (.s [48, 49, 50, 51, 52, 53, 54, 55, 56, 57, 97, 98, 99, 100, 101, 102])) (.t 97), none⟩,
     ⟨(some 99), .buildSlice (.i .u8 0) 1 [(0, (.t 98))], none⟩,
     ⟨(some 100), .bi (.append 1 1) [(.mv 92), (.t 99)], none⟩,
     ⟨(some 0), .mov (.mv 100), none⟩])))
  (.ops [⟨(some 90), .mov (.t 11), none⟩,
    ⟨(some 91), .bin .sub .num (.t 90) (.c (.i .i64 4)), none⟩,
    ⟨(some 11), .mov (.t 91), none⟩]))))
def f_strconv_appendEscapedRune_L0 : C := .loop [0, 1, 11] f_strconv_appendEscapedRune_B0
noncomputable def f_strconv_appendEscapedRune_l0 (pg : Pg) (v0 v1 v11 : V) (H : List Obj) (lo : Nat) : Option (Ex × St) := exL pg f_strconv_appendEscapedRune_L0 ⟨[(0, v0), (1, v1), (11, v11)], H, lo⟩
theorem f_strconv_appendEscapedRune_l0_in {pg : Pg} {e : Env} {H : List Obj} {lo : Nat} : exL pg f_strconv_appendEscapedRune_L0 ⟨e, H, lo⟩ = f_strconv_appendEscapedRune_l0 pg (keepV (get 0 e)) (keepV (get 1 e)) (keepV (get 11 e)) H lo := loop_in
theorem f_strconv_appendEscapedRune_l0_eq {pg : Pg} {v0 v1 v11 : V} {H : List Obj} {lo : Nat} : f_strconv_appendEscapedRune_l0 pg v0 v1 v11 H lo = thenC pg (exL pg f_strconv_appendEscapedRune_B0 ⟨[(0, keepV v0), (1, keepV v1), (11, keepV v11)], H, lo⟩) f_strconv_appendEscapedRune_L0 := by
  unfold f_strconv_appendEscapedRune_l0 f_strconv_appendEscapedRune_L0; rw [exL_loop]; simp only [restrict_cons, restrict_nil, get_eq, get_ne, Nat.reduceEqDiff]
def f_strconv_appendEscapedRune_R1 : C :=
  .exit 1
def f_strconv_appendEscapedRune_B2 : C :=
  (.seq ((.seq (.ops [⟨(some 103), .mov (.t 12), none⟩,
    ⟨(some 104), .bin .geq .num (.t 103) (.c (.i .i64 0)), none⟩])
  ((.cond (.t 104) (.skip)
   (.exit 8)))))
  ((.seq ((.block 9 [0, 1, 12] (.ops [⟨(some 107), .mov (.mv 0), none⟩,
     ⟨(some 108), .mov (.t 1), none⟩,
     ⟨(some 109), .mov (.t 12), none⟩,
     ⟨(some 110), .conv .u64 (.t 109), none⟩,
     ⟨(some 111), .bin .shr .num (.t 108) (.t 110), none⟩,
     ⟨(some 112), .bin .and .num (.t 111) (.c (.i .i32 15)), none⟩,
     ⟨(some 113), .index (.c (.s [48, 49, 50, 51, 52, 53, 54, 55, 56, 57, 97, 98, 99, 100, 101, 102])) (.t 112), none⟩,
     ⟨(some 114), .buildSlice (.i .u8 0) 1 [(0, (.t 113))], none⟩,
     ⟨(some 115), .bi (.append 1 1) [(.mv 107), (.t 114)], none⟩,
     ⟨(some 0), .mov (.mv 115), none⟩])))
  (.ops [⟨(some 105), .mov (.t 12), none⟩,
    ⟨(some 106), .bin .sub .num (.t 105) (.c (.i .i64 4)), none⟩,
    ⟨(some 12), .mov (.t 106), none⟩]))))
def f_strconv_appendEscapedRune_L2 : C := .loop [0, 1, 12] f_strconv_appendEscapedRune_B2
noncomputable def f_strconv_appendEscapedRune_l2 (pg : Pg) (v0 v1 v12 : V) (H : List Obj) (lo : Nat) : Option (Ex × St) := exL pg f_strconv_appendEscapedRune_L2 ⟨[(0, v0), (1, v1), (12, v12)], H, lo⟩
theorem f_strconv_appendEscapedRune_l2_in {pg : Pg} {e : Env} {H : List Obj} {lo : Nat} : exL pg f_strconv_appendEscapedRune_L2 ⟨e, H, lo⟩ = f_strconv_appendEscapedRune_l2 pg (keepV (get 0 e)) (keepV (get 1 e)) (keepV (get 12 e)) H lo := loop_in
theorem f_strconv_appendEscapedRune_l2_eq {pg : Pg} {v0 v1 v12 : V} {H : List Obj} {lo : Nat} : f_strconv_appendEscapedRune_l2 pg v0 v1 v12 H lo = thenC pg (exL pg f_strconv_appendEscapedRune_B2 ⟨[(0, keepV v0), (1, keepV v1), (12, keepV v12)], H, lo⟩) f_strconv_appendEscapedRune_L2 := by
  unfold f_strconv_appendEscapedRune_l2 f_strconv_appendEscapedRune_L2; rw [exL_loop]; simp only [restrict_cons, restrict_nil, get_eq, get_ne, Nat.reduceEqDiff]
def f_strconv_appendEscapedRune_R3 : C :=
  .exit 1
def f_strconv_appendEscapedRune_R4 : C :=
  (.seq ((.seq (.ops [⟨(some 101), .mov (.mv 0), none⟩,
             ⟨(some 102), .bi (.append 1 1) [(.mv 101), (.c (.s [92, 85]))], none⟩,
             ⟨(some 0), .mov (.mv 102), none⟩])
           ((.seq (.ops [⟨(some 12), .mov (.c (.i .i64 28)), none⟩])
           ((.block 8 [0] (f_strconv_appendEscapedRune_L2)))))))
           (f_strconv_appendEscapedRune_R3))
def f_strconv_appendEscapedRune_R5 : C :=
  (.seq (.ops [⟨(some 144), .mov (.t 0), none⟩,
    ⟨(some 10), .mov (.t 144), none⟩])
  (.ret))
def f_strconv_appendEscapedRune : Fn := ⟨5, [(.t 10)], true,
  (.seq (.ops [⟨(some 10), .mov (.c .nil), none⟩])
  ((.seq ((.seq (.ops [⟨(some 13), .mov (.t 1), none⟩,
    ⟨(some 14), .mov (.t 2), none⟩,
    ⟨(some 15), .conv .i32 (.t 14), none⟩,
    ⟨(some 16), .bin .eql .num (.t 13) (.t 15), none⟩,
    ⟨(some 17), .mov (.t 16), none⟩,
    ⟨(some 18), .mov (.t 1), some (17, false)⟩,
    ⟨(some 19), .bin .eql .num (.t 18) (.c (.i .i32 92)), some (17, false)⟩,
    ⟨(some 20), .pick (.t 17) (.c (.b true)) (.t 19), none⟩])
  ((.cond (.t 20) ((.seq (.ops [⟨(some 21), .mov (.mv 0), none⟩,
     ⟨(some 22), .buildSlice (.i .u8 0) 1 [(0, (.c (.i .u8 92)))], none⟩,
     ⟨(some 23), .bi (.append 1 1) [(.mv 21), (.t 22)], none⟩,
     ⟨(some 0), .mov (.mv 23), none⟩])
   ((.seq (.ops [⟨(some 24), .mov (.mv 0), none⟩,
     ⟨(some 25), .mov (.t 1), none⟩,
     ⟨(some 26), .conv .u8 (.t 25), none⟩,
     ⟨(some 27), .buildSlice (.i .u8 0) 1 [(0, (.t 26))], none⟩,
     ⟨(some 28), .bi (.append 1 1) [(.mv 24), (.t 27)], none⟩,
     ⟨(some 0), .mov (.mv 28), none⟩])
   ((.seq (.ops [⟨(some 29), .mov (.t 0), none⟩,
     ⟨(some 10), .mov (.t 29), none⟩])
   (.ret)))))))
   (.skip)))))
  ((.seq ((.seq (.ops [⟨(some 30), .mov (.t 3), none⟩])
  ((.cond (.t 30) ((.seq (.ops [⟨(some 31), .mov (.t 1), none⟩,
     ⟨(some 32), .bin .lss .num (.t 31) (.c (.i .i32 128)), none⟩,
     ⟨(some 33), .mov (.t 32), none⟩,
     ⟨(some 34), .mov (.t 1), some (33, true)⟩,
     ⟨(some 35), .call (.f 39) [(.t 34)], some (33, true)⟩,
     ⟨(some 36), .pick (.t 33) (.t 35) (.c (.b false)), none⟩])
   ((.cond (.t 36) ((.seq (.ops [⟨(some 37), .mov (.mv 0), none⟩,
      ⟨(some 38), .mov (.t 1), none⟩,
      ⟨(some 39), .conv .u8 (.t 38), none⟩,
      ⟨(some 40), .buildSlice (.i .u8 0) 1 [(0, (.t 39))], none⟩,
      ⟨(some 41), .bi (.append 1 1) [(.mv 37), (.t 40)], none⟩,
      ⟨(some 0), .mov (.mv 41), none⟩])
    ((.seq (.ops [⟨(some 42), .mov (.t 0), none⟩,
      ⟨(some 10), .mov (.t 42), none⟩])
    (.ret)))))
    (.skip)))))
   ((.seq (.ops [⟨(some 43), .mov (.t 1), none⟩,
     ⟨(some 44), .call (.f 39) [(.t 43)], none⟩,
     ⟨(some 45), .mov (.mv 44), none⟩,
     ⟨(some 46), .mov (.t 4), some (45, false)⟩,
     ⟨(some 47), .mov (.t 46), some (45, false)⟩,
     ⟨(some 48), .mov (.t 1), some (47, true)⟩,
     ⟨(some 49), .call (.f 40) [(.t 48)], some (47, true)⟩,
     ⟨(some 50), .pick (.t 47) (.t 49) (.c (.b false)), some (45, false)⟩,
     ⟨(some 51), .pick (.t 45) (.c (.b true)) (.t 50), none⟩])
   ((.cond (.t 51) ((.seq (.ops [⟨(some 52), .mov (.mv 0), none⟩,
      ⟨(some 53), .mov (.mv 1), none⟩,
      ⟨(some 54), .call (.f 41) [(.mv 52), (.mv 53)], none⟩,
      ⟨(some 10), .mov (.mv 54), none⟩])
    (.ret)))
    (.skip)))))))))
  ((.seq ((.seq (.ops [⟨(some 55), .mov (.t 1), none⟩])
  ((.block 0 [0] ((.seq (.ops [⟨(some 117), .bin .eql .num (.t 55) (.c (.i .i32 7)), none⟩,
     ⟨(some 116), .mov (.t 117), none⟩])
   ((.cond (.t 116) (.ops [⟨(some 118), .mov (.mv 0), none⟩,
      ⟨(some 119), .bi (.append 1 1) [(.mv 118), (.c (.s [92, 97]))], none⟩,
      ⟨(some 0), .mov (.mv 119), none⟩])
    ((.seq (.ops [⟨(some 121), .bin .eql .num (.t 55) (.c (.i .i32 8)), none⟩,
      ⟨(some 120), .mov (.t 121), none⟩])
    ((.cond (.t 120) (.ops [⟨(some 122), .mov (.mv 0), none⟩,
       ⟨(some 123), .bi (.append 1 1) [(.mv 122), (.c (.s [92, 98]))], none⟩,
       ⟨(some 0), .mov (.mv 123), none⟩])
     ((.seq (.ops [⟨(some 125), .bin .eql .num (.t 55) (.c (.i .i32 12)), none⟩,
       ⟨(some 124), .mov (.t 125), none⟩])
     ((.cond (.t 124) (.ops [⟨(some 126), .mov (.mv 0), none⟩,
        ⟨(some 127), .bi (.append 1 1) [(.mv 126), (.c (.s [92, 102]))], none⟩,
        ⟨(some 0), .mov (.mv 127), none⟩])
      ((.seq (.ops [⟨(some 129), .bin .eql .num (.t 55) (.c (.i .i32 10)), none⟩,
        ⟨(some 128), .mov (.t 129), none⟩])
      ((.cond (.t 128) (.ops [⟨(some 130), .mov (.mv 0), none⟩,
         ⟨(some 131), .bi (.append 1 1) [(.mv 130), (.c (.s [92, 110]))], none⟩,
         ⟨(some 0), .mov (.mv 131), none⟩])
       ((.seq (.ops [⟨(some 133), .bin .eql .num (.t 55) (.c (.i .i32 13)), none⟩,
         ⟨(some 132), .mov (.t 133), none⟩])
       ((.cond (.t 132) (.ops [⟨(some 134), .mov (.mv 0), none⟩,
          ⟨(some 135), .bi (.append 1 1) [(.mv 134), (.c (.s [92, 114]))], none⟩,
          ⟨(some 0), .mov (.mv 135), none⟩])
        ((.seq (.ops [⟨(some 137), .bin .eql .num (.t 55) (.c (.i .i32 9)), none⟩,
          ⟨(some 136), .mov (.t 137), none⟩])
        ((.cond (.t 136) (.ops [⟨(some 138), .mov (.mv 0), none⟩,
           ⟨(some 139), .bi (.append 1 1) [(.mv 138), (.c (.s [92, 116]))], none⟩,
           ⟨(some 0), .mov (.mv 139), none⟩])
         ((.seq (.ops [⟨(some 141), .bin .eql .num (.t 55) (.c (.i .i32 11)), none⟩,
           ⟨(some 140), .mov (.t 141), none⟩])
         ((.cond (.t 140) (.ops [⟨(some 142), .mov (.mv 0), none⟩,
            ⟨(some 143), .bi (.append 1 1) [(.mv 142), (.c (.s [92, 118]))], none⟩,
            ⟨(some 0), .mov (.mv 143), none⟩])
          ((.block 1 [0] ((.seq ((.block 5 [0, 1] ((.seq ((.block 4 [0, 1] ((.seq ((.block 3 [0] ((.seq ((.block 2 [0, 1] ((.seq ((.seq ((.seq (.ops [⟨(some 57), .mov (.t 1), none⟩,
                 ⟨(some 58), .bin .lss .num (.t 57) (.c (.i .i32 32)), none⟩,
                 ⟨(some 59), .mov (.t 58), none⟩,
                 ⟨(some 60), .mov (.t 1), some (59, false)⟩,
                 ⟨(some 61), .bin .eql .num (.t 60) (.c (.i .i32 127)), some (59, false)⟩,
                 ⟨(some 62), .pick (.t 59) (.c (.b true)) (.t 61), none⟩,
                 ⟨(some 56), .mov (.t 62), none⟩])
               ((.cond (.t 56) (.exit 2)
                (.skip)))))
               ((.seq ((.seq (.ops [⟨(some 64), .mov (.t 1), none⟩,
                 ⟨(some 65), .call (.f 42) [(.t 64)], none⟩,
                 ⟨(some 66), .un .not (.t 65), none⟩,
                 ⟨(some 63), .mov (.t 66), none⟩])
               ((.cond (.t 63) (.exit 3)
                (.skip)))))
               ((.seq (.ops [⟨(some 68), .mov (.t 1), none⟩,
                 ⟨(some 69), .bin .lss .num (.t 68) (.c (.i .i32 65536)), none⟩,
                 ⟨(some 67), .mov (.t 69), none⟩])
               ((.cond (.t 67) (.exit 4)
                (.skip)))))))))
               (.exit 5)))))
              ((.seq ((.seq (.ops [⟨(some 70), .mov (.mv 0), none⟩,
                ⟨(some 71), .bi (.append 1 1) [(.mv 70), (.c (.s [92, 120]))], none⟩,
                ⟨(some 0), .mov (.mv 71), none⟩])
              ((.seq (.ops [⟨(some 72), .mov (.mv 0), none⟩,
                ⟨(some 73), .mov (.t 1), none⟩,
                ⟨(some 74), .conv .u8 (.t 73), none⟩,
                ⟨(some 75), .bin .shr .num (.t 74) (.c (.i .u64 4)), none⟩,
                ⟨(some 76), .index (.c (.s [48, 49, 50, 51, 52, 53, 54, 55, 56, 57, 97, 98, 99, 100, 101, 102])) (.t 75), none⟩,
                ⟨(some 77), .buildSlice (.i .u8 0) 1 [(0, (.t 76))], none⟩,
                ⟨(some 78), .bi (.append 1 1) [(.mv 72), (.t 77)], none⟩,
                ⟨(some 0), .mov (.mv 78), none⟩])
              (.ops [⟨(some 79), .mov (.mv 0), none⟩,
                ⟨(some 80), .mov (.t 1), none⟩,
                ⟨(some 81), .conv .u8 (.t 80), none⟩,
                ⟨(some 82), .bin .and .num (.t 81) (.c (.i .u8 15)), none⟩,
                ⟨(some 83), .index (.c (.s [48, 49, 50, 51, 52, 53, 54, 55, 56, 57, 97, 98, 99, 100, 101, 102])) (.t 82), none⟩,
                ⟨(some 84), .buildSlice (.i .u8 0) 1 [(0, (.t 83))], none⟩,
                ⟨(some 85), .bi (.append 1 1) [(.mv 79), (.t 84)], none⟩,
                ⟨(some 0), .mov (.mv 85), none⟩])))))
              (.exit 1)))))))
             (.ops [⟨(some 1), .mov (.c (.i .i32 65533)), none⟩])))))
            ((.seq ((.seq (.ops [⟨(some 86), .mov (.mv 0), none⟩,
              ⟨(some 87), .bi (.append 1 1) [(.mv 86), (.c (.s [92, 117]))], none⟩,
              ⟨(some 0), .mov (.mv 87), none⟩])
            ((.seq (.ops [⟨(some 11), .mov (.c (.i .i64 12)), none⟩])
            ((.block 6 [0] (f_strconv_appendEscapedRune_L0)))))))
            (f_strconv_appendEscapedRune_R1)))))))
           (f_strconv_appendEscapedRune_R4)))))))))))))))))))))))))))))))))))))
  (f_strconv_appendEscapedRune_R5))))))))⟩
def f_internal_strconv_small : Fn := ⟨1, [(.t 2)], true,
  (.seq (.ops [⟨(some 2), .mov (.c (.s [])), none⟩])
  ((.seq ((.seq (.ops [⟨(some 3), .mov (.t 0), none⟩,
    ⟨(some 4), .bin .lss .num (.t 3) (.c (.i .i64 10)), none⟩])
  ((.cond (.t 4) ((.seq (.ops [⟨(some 5), .mov (.t 0), none⟩,
     ⟨(some 6), .mov (.t 0), none⟩,
     ⟨(some 7), .bin .add .num (.t 6) (.c (.i .i64 1)), none⟩,
     ⟨(some 8), .sliceS (.c (.s [48, 49, 50, 51, 52, 53, 54, 55, 56, 57, 97, 98, 99, 100, 101, 102, 103, 104, 105, 106, 107, 108, 109, 110, 111, 112, 113, 114, 115, 116, 117, 118, 119, 120, 121, 122])) (some (.t 5)) (some (.t 7)), none⟩,
     ⟨(some 2), .mov (.t 8), none⟩])
   (.ret)))
   (.skip)))))
  ((.seq (.ops [⟨(some 9), .mov (.t 0), none⟩,
    ⟨(some 10), .bin .mul .num (.t 9) (.c (.i .i64 2)), none⟩,
    ⟨(some 11), .mov (.t 0), none⟩,
    ⟨(some 12), .bin .mul .num (.t 11) (.c (.i .i64 2)), none⟩,
    ⟨(some 13), .bin .add .num (.t 12) (.c (.i .i64 2)), none⟩,
    ⟨(some 14), .sliceS (.c (.s [48, 48, 48, 49, 48, 50, 48, 51, 48, 52, 48, 53, 48, 54, 48, 55, 48, 56, 48, 57, 49, 48, 49, 49, 49, 50, 49, 51, 49, 52, 49, 53, 49, 54, 49, 55, 49, 56, 49, 57, 50, 48, 50, 49, 50, 50, 50, 51, 50, 52, 50, 53, 50, 54, 50, 55, 50, 56, 50, 57, 51, 48, 51, 49, 51, 50, 51, 51, 51, 52, 51, 53, 51, 54, 51, 55, 51, 56, 51, 57, 52, 48, 52, 49, 52, 50, 52, 51, 52, 52, 52, 53, 52, 54, 52, 55, 52, 56, 52, 57, 53, 48, 53, 49, 53, 50, 53, 51, 53, 52, 53, 53, 53, 54, 53, 55, 53, 56, 53, 57, 54, 48, 54, 49, 54, 50, 54, 51, 54, 52, 54, 53, 54, 54, 54, 55, 54, 56, 54, 57, 55, 48, 55, 49, 55, 50, 55, 51, 55, 52, 55, 53, 55, 54, 55, 55, 55, 56, 55, 57, 56, 48, 56, 49, 56, 50, 56, 51, 56, 52, 56, 53, 56, 54, 56, 55, 56, 56, 56, 57, 57, 48, 57, 49, 57, 50, 57, 51, 57, 52, 57, 53, 57, 54, 57, 55, 57, 56, 57, 57])) (some (.t 10)) (some (.t 13)), none⟩,
    ⟨(some 2), .mov (.t 14), none⟩])
  (.ret))))))⟩
def f_internal_strconv_numDigits : Fn := ⟨1, [(.t 2)], true,
  (.seq (.ops [⟨(some 2), .mov (.c (.i .i64 0)), none⟩])
  ((.seq (.ops [⟨(some 4), .mov (.t 0), none⟩,
    ⟨(some 5), .call (.f 44) [(.t 4)], none⟩,
    ⟨(some 6), .call (.f 43) [(.t 5)], none⟩,
    ⟨(some 3), .mov (.mv 6), none⟩])
  ((.seq (.ops [⟨(some 7), .mov (.t 3), none⟩,
    ⟨(some 8), .mov (.t 0), none⟩,
    ⟨(some 9), .mov (.t 3), none⟩,
    ⟨(some 10), .indexAddr (.g 1 (glD 1)) (.t 9) 1 (some 20), none⟩,
    ⟨(some 11), .load false none ⟨1, false⟩ (.t 10), none⟩,
    ⟨(some 12), .bin .geq .num (.t 8) (.t 11), none⟩,
    ⟨(some 13), .call (.f 45) [(.t 12)], none⟩,
    ⟨(some 14), .bin .add .num (.t 7) (.t 13), none⟩,
    ⟨(some 2), .mov (.t 14), none⟩])
  (.ret))))))⟩
def f_internal_strconv_formatBase10_B0 : C :=
  (.seq ((.seq (.ops [⟨(some 19), .mov (.t 4), none⟩,
    ⟨(some 20), .bin .geq .num (.t 19) (.c (.i .i64 8)), none⟩])
  ((.cond (.t 20) (.skip)
   (.exit 0)))))
  ((.block 1 [0, 1, 4] ((.seq (.ops [⟨(some 21), .mov (.t 1), none⟩,
     ⟨(some 22), .bin .rem .num (.t 21) (.c (.i .u64 100000000)), none⟩,
     ⟨(some 23), .conv .u32 (.t 22), none⟩,
     ⟨(some 5), .mov (.mv 23), none⟩])
   ((.seq (.ops [⟨(some 24), .mov (.t 1), none⟩,
     ⟨(some 25), .bin .quo .num (.t 24) (.c (.i .u64 100000000)), none⟩,
     ⟨(some 1), .mov (.t 25), none⟩])
   ((.seq (.ops [⟨(some 26), .mov (.t 5), none⟩,
     ⟨(some 27), .bin .quo .num (.t 26) (.c (.i .u32 10000)), none⟩,
     ⟨(some 28), .mov (.t 5), none⟩,
     ⟨(some 29), .bin .rem .num (.t 28) (.c (.i .u32 10000)), none⟩,
     ⟨(some 6), .mov (.t 27), none⟩,
     ⟨(some 7), .mov (.t 29), none⟩])
   ((.seq (.ops [⟨(some 30), .mov (.t 7), none⟩,
     ⟨(some 31), .bin .quo .num (.t 30) (.c (.i .u32 100)), none⟩,
     ⟨(some 32), .bin .mul .num (.t 31) (.c (.i .u32 2)), none⟩,
     ⟨(some 33), .mov (.t 7), none⟩,
     ⟨(some 34), .bin .rem .num (.t 33) (.c (.i .u32 100)), none⟩,
     ⟨(some 35), .bin .mul .num (.t 34) (.c (.i .u32 2)), none⟩,
     ⟨(some 8), .mov (.t 32), none⟩,
     ⟨(some 9), .mov (.t 35), none⟩])
   ((.seq (.ops [⟨(some 36), .mov (.t 6), none⟩,
     ⟨(some 37), .bin .quo .num (.t 36) (.c (.i .u32 100)), none⟩,
     ⟨(some 38), .bin .mul .num (.t 37) (.c (.i .u32 2)), none⟩,
     ⟨(some 39), .mov (.t 6), none⟩,
     ⟨(some 40), .bin .rem .num (.t 39) (.c (.i .u32 100)), none⟩,
     ⟨(some 41), .bin .mul .num (.t 40) (.c (.i .u32 2)), none⟩,
     ⟨(some 10), .mov (.t 38), none⟩,
     ⟨(some 11), .mov (.t 41), none⟩])
   ((.seq (.opsD [(⟨(some 42), .mov (.t 0), none⟩, false, []),
     (⟨(some 43), .mov (.t 4), none⟩, false, []),
     (⟨(some 44), .bin .sub .num (.t 43) (.c (.i .i64 1)), none⟩, false, []),
     (⟨(some 45), .mov (.t 0), none⟩, false, []),
     (⟨(some 46), .mov (.t 4), none⟩, false, []),
     (⟨(some 47), .bin .sub .num (.t 46) (.c (.i .i64 2)), none⟩, false, []),
     (⟨(some 48), .mov (.t 9), none⟩, false, []),
     (⟨(some 49), .bin .add .num (.t 48) (.c (.i .u32 1)), none⟩, false, []),
     (⟨(some 50), .index (.c (.s [48, 48, 48, 49, 48, 50, 48, 51, 48, 52, 48, 53, 48, 54, 48, 55, 48, 56, 48, 57, 49, 48, 49, 49, 49, 50, 49, 51, 49, 52, 49, 53, 49, 54, 49, 55, 49, 56, 49, 57, 50, 48, 50, 49, 50, 50, 50, 51, 50, 52, 50, 53, 50, 54, 50, 55, 50, 56, 50, 57, 51, 48, 51, 49, 51, 50, 51, 51, 51, 52, 51, 53, 51, 54, 51, 55, 51, 56, 51, 57, 52, 48, 52, 49, 52, 50, 52, 51, 52, 52, 52, 53, 52, 54, 52, 55, 52, 56, 52, 57, 53, 48, 53, 49, 53, 50, 53, 51, 53, 52, 53, 53, 53, 54, 53, 55, 53, 56, 53, 57, 54, 48, 54, 49, 54, 50, 54, 51, 54, 52, 54, 53, 54, 54, 54, 55, 54, 56, 54, 57, 55, 48, 55, 49, 55, 50, 55, 51, 55, 52, 55, 53, 55, 54, 55, 55, 55, 56, 55, 57, 56, 48, 56, 49, 56, 50, 56, 51, 56, 52, 56, 53, 56, 54, 56, 55, 56, 56, 56, 57, 57, 48, 57, 49, 57, 50, 57, 51, 57, 52, 57, 53, 57, 54, 57, 55, 57, 56, 57, 57])) (.t 49), none⟩, false, []),
     (⟨(some 51), .mov (.t 9), none⟩, false, []),
     (⟨(some 52), .index (.c (.s [48, 48, 48, 49, 48, 50, 48, 51, 48, 52, 48, 53, 48, 54, 48, 55, 48, 56, 48, 57, 49, 48, 49, 49, 49, 50, 49, 51, 49, 52, 49, 53, 49, 54, 49, 55, 49, 56, 49, 57, 50, 48, 50, 49, 50, 50, 50, 51, 50, 52, 50, 53, 50, 54, 50, 55, 50, 56, 50, 57, 51, 48, 51, 49, 51, 50, 51, 51, 51, 52, 51, 53, 51, 54, 51, 55, 51, 56, 51, 57, 52, 48, 52, 49, 52, 50, 52, 51, 52, 52, 52, 53, 52, 54, 52, 55, 52, 56, 52, 57, 53, 48, 53, 49, 53, 50, 53, 51, 53, 52, 53, 53, 53, 54, 53, 55, 53, 56, 53, 57, 54, 48, 54, 49, 54, 50, 54, 51, 54, 52, 54, 53, 54, 54, 54, 55, 54, 56, 54, 57, 55, 48, 55, 49, 55, 50, 55, 51, 55, 52, 55, 53, 55, 54, 55, 55, 55, 56, 55, 57, 56, 48, 56, 49, 56, 50, 56, 51, 56, 52, 56, 53, 56, 54, 56, 55, 56, 56, 56, 57, 57, 48, 57, 49, 57, 50, 57, 51, 57, 52, 57, 53, 57, 54, 57, 55, 57, 56, 57, 57])) (.t 51), none⟩, false, []),
     (⟨(some 53), .indexAddr (.t 42) (.t 44) 1 none, none⟩, false, []),
     (⟨none, .store none ⟨1, false⟩ (.t 53) (.t 50), none⟩, true, []),
     (⟨(some 54), .indexAddr (.t 45) (.t 47) 1 none, none⟩, true, []),
     (⟨none, .store none ⟨1, false⟩ (.t 54) (.t 52), none⟩, true, [])])
   ((.seq (.opsD [(⟨(some 55), .mov (.t 0), none⟩, false, []),
     (⟨(some 56), .mov (.t 4), none⟩, false, []),
     (⟨(some 57), .bin .sub .num (.t 56) (.c (.i .i64 3)), none⟩, false, []),
     (⟨(some 58), .mov (.t 0), none⟩, false, []),
     (⟨(some 59), .mov (.t 4), none⟩, false, []),
     (⟨(some 60), .bin .sub .num (.t 59) (.c (.i .i64 4)), none⟩, false, []),
     (⟨(some 61), .mov (.t 8), none⟩, false, []),
     (⟨(some 62), .bin .add .num (.t 61) (.c (.i .u32 1)), none⟩, false, []),
     (⟨(some 63), .index (.c (.s [48, 48, 48, 49, 48, 50, 48, 51, 48, 52, 48, 53, 48, 54, 48, 55, 48, 56, 48, 57, 49, 48, 49, 49, 49, 50, 49, 51, 49, 52, 49, 53, 49, 54, 49, 55, 49, 56, 49, 57, 50, 48, 50, 49, 50, 50, 50, 51, 50, 52, 50, 53, 50, 54, 50, 55, 50, 56, 50, 57, 51, 48, 51, 49, 51, 50, 51, 51, 51, 52, 51, 53, 51, 54, 51, 55, 51, 56, 51, 57, 52, 48, 52, 49, 52, 50, 52, 51, 52, 52, 52, 53, 52, 54, 52, 55, 52, 56, 52, 57, 53, 48, 53, 49, 53, 50, 53, 51, 53, 52, 53, 53, 53, 54, 53, 55, 53, 56, 53, 57, 54, 48, 54, 49, 54, 50, 54, 51, 54, 52, 54, 53, 54, 54, 54, 55, 54, 56, 54, 57, 55, 48, 55, 49, 55, 50, 55, 51, 55, 52, 55, 53, 55, 54, 55, 55, 55, 56, 55, 57, 56, 48, 56, 49, 56, 50, 56, 51, 56, 52, 56, 53, 56, 54, 56, 55, 56, 56, 56, 57, 57, 48, 57, 49, 57, 50, 57, 51, 57, 52, 57, 53, 57, 54, 57, 55, 57, 56, 57, 57])) (.t 62), none⟩, false, []),
     (⟨(some 64), .mov (.t 8), none⟩, false, []),
     (⟨(some 65), .index (.c (.s [48, 48, 48, 49, 48, 50, 48, 51, 48, 52, 48, 53, 48, 54, 48, 55, 48, 56, 48, 57, 49, 48, 49, 49, 49, 50, 49, 51, 49, 52, 49, 53, 49, 54, 49, 55, 49, 56, 49, 57, 50, 48, 50, 49, 50, 50, 50, 51, 50, 52, 50, 53, 50, 54, 50, 55, 50, 56, 50, 57, 51, 48, 51, 49, 51, 50, 51, 51, 51, 52, 51, 53, 51, 54, 51, 55, 51, 56, 51, 57, 52, 48, 52, 49, 52, 50, 52, 51, 52, 52, 52, 53, 52, 54, 52, 55, 52, 56, 52, 57, 53, 48, 53, 49, 53, 50, 53, 51, 53, 52, 53, 53, 53, 54, 53, 55, 53, 56, 53, 57, 54, 48, 54, 49, 54, 50, 54, 51, 54, 52, 54, 53, 54, 54, 54, 55, 54, 56, 54, 57, 55, 48, 55, 49, 55, 50, 55, 51, 55, 52, 55, 53, 55, 54, 55, 55, 55, 56, 55, 57, 56, 48, 56, 49, 56, 50, 56, 51, 56, 52, 56, 53, 56, 54, 56, 55, 56, 56, 56, 57, 57, 48, 57, 49, 57, 50, 57, 51, 57, 52, 57, 53, 57, 54, 57, 55, 57, 56, 57, 57])) (.t 64), none⟩, false, []),
     (⟨(some 66), .indexAddr (.t 55) (.t 57) 1 none, none⟩, false, []),
     (⟨none, .store none ⟨1, false⟩ (.t 66) (.t 63), none⟩, true, []),
     (⟨(some 67), .indexAddr (.t 58) (.t 60) 1 none, none⟩, true, []),
     (⟨none, .store none ⟨1, false⟩ (.t 67) (.t 65), none⟩, true, [])])
   ((.seq (.opsD [(⟨(some 68), .mov (.t 0), none⟩, false, []),
     (⟨(some 69), .mov (.t 4), none⟩, false, []),
     (⟨(some 70), .bin .sub .num (.t 69) (.c (.i .i64 5)), none⟩, false, []),
     (⟨(some 71), .mov (.t 0), none⟩, false, []),
     (⟨(some 72), .mov (.t 4), none⟩, false, []),
     (⟨(some 73), .bin .sub .num (.t 72) (.c (.i .i64 6)), none⟩, false, []),
     (⟨(some 74), .mov (.t 11), none⟩, false, []),
     (⟨(some 75), .bin .add .num (.t 74) (.c (.i .u32 1)), none⟩, false, []),
     (⟨(some 76), .index (.c (.s [48, 48, 48, 49, 48, 50, 48, 51, 48, 52, 48, 53, 48, 54, 48, 55, 48, 56, 48, 57, 49, 48, 49, 49, 49, 50, 49, 51, 49, 52, 49, 53, 49, 54, 49, 55, 49, 56, 49, 57, 50, 48, 50, 49, 50, 50, 50, 51, 50, 52, 50, 53, 50, 54, 50, 55, 50, 56, 50, 57, 51, 48, 51, 49, 51, 50, 51, 51, 51, 52, 51, 53, 51, 54, 51, 55, 51, 56, 51, 57, 52, 48, 52, 49, 52, 50, 52, 51, 52, 52, 52, 53, 52, 54, 52, 55, 52, 56, 52, 57, 53, 48, 53, 49, 53, 50, 53, 51, 53, 52, 53, 53, 53, 54, 53, 55, 53, 56, 53, 57, 54, 48, 54, 49, 54, 50, 54, 51, 54, 52, 54, 53, 54, 54, 54, 55, 54, 56, 54, 57, 55, 48, 55, 49, 55, 50, 55, 51, 55, 52, 55, 53, 55, 54, 55, 55, 55, 56, 55, 57, 56, 48, 56, 49, 56, 50, 56, 51, 56, 52, 56, 53, 56, 54, 56, 55, 56, 56, 56, 57, 57, 48, 57, 49, 57, 50, 57, 51, 57, 52, 57, 53, 57, 54, 57, 55, 57, 56, 57, 57])) (.t 75), none⟩, false, []),
     (⟨(some 77), .mov (.t 11), none⟩, false, []),
     (⟨(some 78), .index (.c (.s [48, 48, 48, 49, 48, 50, 48, 51, 48, 52, 48, 53, 48, 54, 48, 55, 48, 56, 48, 57, 49, 48, 49, 49, 49, 50, 49, 51, 49, 52, 49, 53, 49, 54, 49, 55, 49, 56, 49, 57, 50, 48, 50, 49, 50, 50, 50, 51, 50, 52, 50, 53, 50, 54, 50, 55, 50, 56, 50, 57, 51, 48, 51, 49, 51, 50, 51, 51, 51, 52, 51, 53, 51, 54, 51, 55, 51, 56, 51, 57, 52, 48, 52, 49, 52, 50, 52, 51, 52, 52, 52, 53, 52, 54, 52, 55, 52, 56, 52, 57, 53, 48, 53, 49, 53, 50, 53, 51, 53, 52, 53, 53, 53, 54, 53, 55, 53, 56, 53, 57, 54, 48, 54, 49, 54, 50, 54, 51, 54, 52, 54, 53, 54, 54, 54, 55, 54, 56, 54, 57, 55, 48, 55, 49, 55, 50, 55, 51, 55, 52, 55, 53, 55, 54, 55, 55, 55, 56, 55, 57, 56, 48, 56, 49, 56, 50, 56, 51, 56, 52, 56, 53, 56, 54, 56, 55, 56, 56, 56, 57, 57, 48, 57, 49, 57, 50, 57, 51, 57, 52, 57, 53, 57, 54, 57, 55, 57, 56, 57, 57])) (.t 77), none⟩, false, []),
     (⟨(some 79), .indexAddr (.t 68) (.t 70) 1 none, none⟩, false, []),
     (⟨none, .store none ⟨1, false⟩ (.t 79) (.t 76), none⟩, true, []),
     (⟨(some 80), .indexAddr (.t 71) (.t 73) 1 none, none⟩, true, []),
     (⟨none, .store none ⟨1, false⟩ (.t 80) (.t 78), none⟩, true, [])])
   ((.seq (.opsD [(⟨(some 81), .mov (.t 0), none⟩, false, []),
     (⟨(some 82), .mov (.t 4), none⟩, false, []),
     (⟨(some 83), .bin .sub .num (.t 82) (.c (.i .i64 7)), none⟩, false, []),
     (⟨(some 84), .mov (.t 0), none⟩, false, []),
     (⟨(some 85), .mov (.t 4), none⟩, false, []),
     (⟨(some 86), .bin .sub .num (.t 85) (.c (.i .i64 8)), none⟩, false, []),
     (⟨(some 87), .mov (.t 10), none⟩, false, []),
     (⟨(some 88), .bin .add .num (.t 87) (.c (.i .u32 1)), none⟩, false, []),
     (⟨(some 89), .index (.c (.s [48, 48, 48, 49, 48, 50, 48, 51, 48, 52, 48, 53, 48, 54, 48, 55, 48, 56, 48, 57, 49, 48, 49, 49, 49, 50, 49, 51, 49, 52, 49, 53, 49, 54, 49, 55, 49, 56, 49, 57, 50, 48, 50, 49, 50, 50, 50, 51, 50, 52, 50, 53, 50, 54, 50, 55, 50, 56, 50, 57, 51, 48, 51, 49, 51, 50, 51, 51, 51, 52, 51, 53, 51, 54, 51, 55, 51, 56, 51, 57, 52, 48, 52, 49, 52, 50, 52, 51, 52, 52, 52, 53, 52, 54, 52, 55, 52, 56, 52, 57, 53, 48, 53, 49, 53, 50, 53, 51, 53, 52, 53, 53, 53, 54, 53, 55, 53, 56, 53, 57, 54, 48, 54, 49, 54, 50, 54, 51, 54, 52, 54, 53, 54, 54, 54, 55, 54, 56, 54, 57, 55, 48, 55, 49, 55, 50, 55, 51, 55, 52, 55, 53, 55, 54, 55, 55, 55, 56, 55, 57, 56, 48, 56, 49, 56, 50, 56, 51, 56, 52, 56, 53, 56, 54, 56, 55, 56, 56, 56, 57, 57, 48, 57, 49, 57, 50, 57, 51, 57, 52, 57, 53, 57, 54, 57, 55, 57, 56, 57, 57])) (.t 88), none⟩, false, []),
     (⟨(some 90), .mov (.t 10), none⟩, false, []),
     (⟨(some 91), .index (.c (.s [48, 48, 48, 49, 48, 50, 48, 51, 48, 52, 48, 53, 48, 54, 48, 55, 48, 56, 48, 57, 49, 48, 49, 49, 49, 50, 49, 51, 49, 52, 49, 53, 49, 54, 49, 55, 49, 56, 49, 57, 50, 48, 50, 49, 50, 50, 50, 51, 50, 52, 50, 53, 50, 54, 50, 55, 50, 56, 50, 57, 51, 48, 51, 49, 51, 50, 51, 51, 51, 52, 51, 53, 51, 54, 51, 55, 51, 56, 51, 57, 52, 48, 52, 49, 52, 50, 52, 51, 52, 52, 52, 53, 52, 54, 52, 55, 52, 56, 52, 57, 53, 48, 53, 49, 53, 50, 53, 51, 53, 52, 53, 53, 53, 54, 53, 55, 53, 56, 53, 57, 54, 48, 54, 49, 54, 50, 54, 51, 54, 52, 54, 53, 54, 54, 54, 55, 54, 56, 54, 57, 55, 48, 55, 49, 55, 50, 55, 51, 55, 52, 55, 53, 55, 54, 55, 55, 55, 56, 55, 57, 56, 48, 56, 49, 56, 50, 56, 51, 56, 52, 56, 53, 56, 54, 56, 55, 56, 56, 56, 57, 57, 48, 57, 49, 57, 50, 57, 51, 57, 52, 57, 53, 57, 54, 57, 55, 57, 56, 57, 57])) (.t 90), none⟩, false, []),
     (⟨(some 92), .indexAddr (.t 81) (.t 83) 1 none, none⟩, false, []),
     (⟨none, .store none ⟨1, false⟩ (.t 92) (.t 89), none⟩, true, []),
     (⟨(some 93), .indexAddr (.t 84) (.t 86) 1 none, none⟩, true, []),
     (⟨none, .store none ⟨1, false⟩ (.t 93) (.t 91), none⟩, true, [])])
   (.ops [⟨(some 94), .mov (.t 4), none⟩,
     ⟨(some 95), .bin .sub .num (.t 94) (.c (.i .i64 8)), none⟩,
     ⟨(some 4), .mov (.t 95), none⟩]))))))))))))))))))))))
def f_internal_strconv_formatBase10_L0 : C := .loop [0, 1, 4] f_internal_strconv_formatBase10_B0
noncomputable def f_internal_strconv_formatBase10_l0 (pg : Pg) (v0 v1 v4 : V) (H : List Obj) (lo : Nat) : Option (Ex × St) := exL pg f_internal_strconv_formatBase10_L0 ⟨[(0, v0), (1, v1), (4, v4)], H, lo⟩
theorem f_internal_strconv_formatBase10_l0_in {pg : Pg} {e : Env} {H : List Obj} {lo : Nat} : exL pg f_internal_strconv_formatBase10_L0 ⟨e, H, lo⟩ = f_internal_strconv_formatBase10_l0 pg (keepV (get 0 e)) (keepV (get 1 e)) (keepV (get 4 e)) H lo := loop_in
theorem f_internal_strconv_formatBase10_l0_eq {pg : Pg} {v0 v1 v4 : V} {H : List Obj} {lo : Nat} : f_internal_strconv_formatBase10_l0 pg v0 v1 v4 H lo = thenC pg (exL pg f_internal_strconv_formatBase10_B0 ⟨[(0, keepV v0), (1, keepV v1), (4, keepV v4)], H, lo⟩) f_internal_strconv_formatBase10_L0 := by
  unfold f_internal_strconv_formatBase10_l0 f_internal_strconv_formatBase10_L0; rw [exL_loop]; simp only [restrict_cons, restrict_nil, get_eq, get_ne, Nat.reduceEqDiff]
def f_internal_strconv_formatBase10_R1 : C :=
  (.seq (.ops [⟨(some 96), .mov (.t 1), none⟩,
    ⟨(some 97), .conv .u32 (.t 96), none⟩,
    ⟨(some 12), .mov (.mv 97), none⟩])
  ((.seq ((.seq (.ops [⟨(some 98), .mov (.t 4), none⟩,
    ⟨(some 99), .bin .geq .num (.t 98) (.c (.i .i64 4)), none⟩])
  ((.cond (.t 99) ((.seq (.ops [⟨(some 100), .mov (.t 12), none⟩,
     ⟨(some 101), .bin .rem .num (.t 100) (.c (.i .u32 10000)), none⟩,
     ⟨(some 13), .mov (.t 101), none⟩])
   ((.seq (.ops [⟨(some 102), .mov (.t 12), none⟩,
     ⟨(some 103), .bin .quo .num (.t 102) (.c (.i .u32 10000)), none⟩,
     ⟨(some 12), .mov (.t 103), none⟩])
   ((.seq (.ops [⟨(some 104), .mov (.t 13), none⟩,
     ⟨(some 105), .bin .quo .num (.t 104) (.c (.i .u32 100)), none⟩,
     ⟨(some 106), .bin .mul .num (.t 105) (.c (.i .u32 2)), none⟩,
     ⟨(some 107), .mov (.t 13), none⟩,
     ⟨(some 108), .bin .rem .num (.t 107) (.c (.i .u32 100)), none⟩,
     ⟨(some 109), .bin .mul .num (.t 108) (.c (.i .u32 2)), none⟩,
     ⟨(some 14), .mov (.t 106), none⟩,
     ⟨(some 15), .mov (.t 109), none⟩])
   ((.seq (.opsD [(⟨(some 110), .mov (.t 0), none⟩, false, []),
     (⟨(some 111), .mov (.t 4), none⟩, false, []),
     (⟨(some 112), .bin .sub .num (.t 111) (.c (.i .i64 1)), none⟩, false, []),
     (⟨(some 113), .mov (.t 0), none⟩, false, []),
     (⟨(some 114), .mov (.t 4), none⟩, false, []),
     (⟨(some 115), .bin .sub .num (.t 114) (.c (.i .i64 2)), none⟩, false, []),
     (⟨(some 116), .mov (.t 15), none⟩, false, []),
     (⟨(some 117), .bin .add .num (.t 116) (.c (.i .u32 1)), none⟩, false, []),
     (⟨(some 118), .index (.c (.s [48, 48, 48, 49, 48, 50, 48, 51, 48, 52, 48, 53, 48, 54, 48, 55, 48, 56, 48, 57, 49, 48, 49, 49, 49, 50, 49, 51, 49, 52, 49, 53, 49, 54, 49, 55, 49, 56, 49, 57, 50, 48, 50, 49, 50, 50, 50, 51, 50, 52, 50, 53, 50, 54, 50, 55, 50, 56, 50, 57, 51, 48, 51, 49, 51, 50, 51, 51, 51, 52, 51, 53, 51, 54, 51, 55, 51, 56, 51, 57, 52, 48, 52, 49, 52, 50, 52, 51, 52, 52, 52, 53, 52, 54, 52, 55, 52, 56, 52, 57, 53, 48, 53, 49, 53, 50, 53, 51, 53, 52, 53, 53, 53, 54, 53, 55, 53, 56, 53, 57, 54, 48, 54, 49, 54, 50, 54, 51, 54, 52, 54, 53, 54, 54, 54, 55, 54, 56, 54, 57, 55, 48, 55, 49, 55, 50, 55, 51, 55, 52, 55, 53, 55, 54, 55, 55, 55, 56, 55, 57, 56, 48, 56, 49, 56, 50, 56, 51, 56, 52, 56, 53, 56, 54, 56, 55, 56, 56, 56, 57, 57, 48, 57, 49, 57, 50, 57, 51, 57, 52, 57, 53, 57, 54, 57, 55, 57, 56, 57, 57])) (.t 117), none⟩, false, []),
     (⟨(some 119), .mov (.t 15), none⟩, false, []),
     (⟨(some 120), .index (.c (.s [48, 48, 48, 49, 48, 50, 48, 51, 48, 52, 48, 53, 48, 54, 48, 55, 48, 56, 48, 57, 49, 48, 49, 49, 49, 50, 49, 51, 49, 52, 49, 53, 49, 54, 49, 55, 49, 56, 49, 57, 50, 48, 50, 49, 50, 50, 50, 51, 50, 52, 50, 53, 50, 54, 50, 55, 50, 56, 50, 57, 51, 48, 51, 49, 51, 50, 51, 51, 51, 52, 51, 53, 51, 54, 51, 55, 51, 56, 51, 57, 52, 48, 52, 49, 52, 50, 52, 51, 52, 52, 52, 53, 52, 54, 52, 55, 52, 56, 52, 57, 53, 48, 53, 49, 53, 50, 53, 51, 53, 52, 53, 53, 53, 54, 53, 55, 53, 56, 53, 57, 54, 48, 54, 49, 54, 50, 54, 51, 54, 52, 54, 53, 54, 54, 54, 55, 54, 56, 54, 57, 55, 48, 55, 49, 55, 50, 55, 51, 55, 52, 55, 53, 55, 54, 55, 55, 55, 56, 55, 57, 56, 48, 56, 49, 56, 50, 56, 51, 56, 52, 56, 53, 56, 54, 56, 55, 56, 56, 56, 57, 57, 48, 57, 49, 57, 50, 57, 51, 57, 52, 57, 53, 57, 54, 57, 55, 57, 56, 57, 57])) (.t 119), none⟩, false, []),
     (⟨(some 121), .indexAddr (.t 110) (.t 112) 1 none, none⟩, false, []),
     (⟨none, .store none ⟨1, false⟩ (.t 121) (.t 118), none⟩, true, []),
     (⟨(some 122), .indexAddr (.t 113) (.t 115) 1 none, none⟩, true, []),
     (⟨none, .store none ⟨1, false⟩ (.t 122) (.t 120), none⟩, true, [])])
   ((.seq (.opsD [(⟨(some 123), .mov (.t 0), none⟩, false, []),
     (⟨(some 124), .mov (.t 4), none⟩, false, []),
     (⟨(some 125), .bin .sub .num (.t 124) (.c (.i .i64 3)), none⟩, false, []),
     (⟨(some 126), .mov (.t 0), none⟩, false, []),
     (⟨(some 127), .mov (.t 4), none⟩, false, []),
     (⟨(some 128), .bin .sub .num (.t 127) (.c (.i .i64 4)), none⟩, false, []),
     (⟨(some 129), .mov (.t 14), none⟩, false, []),
     (⟨(some 130), .bin .add .num (.t 129) (.c (.i .u32 1)), none⟩, false, []),
     (⟨(some 131), .index (.c (.s [48, 48, 48, 49, 48, 50, 48, 51, 48, 52, 48, 53, 48, 54, 48, 55, 48, 56, 48, 57, 49, 48, 49, 49, 49, 50, 49, 51, 49, 52, 49, 53, 49, 54, 49, 55, 49, 56, 49, 57, 50, 48, 50, 49, 50, 50, 50, 51, 50, 52, 50, 53, 50, 54, 50, 55, 50, 56, 50, 57, 51, 48, 51, 49, 51, 50, 51, 51, 51, 52, 51, 53, 51, 54, 51, 55, 51, 56, 51, 57, 52, 48, 52, 49, 52, 50, 52, 51, 52, 52, 52, 53, 52, 54, 52, 55, 52, 56, 52, 57, 53, 48, 53, 49, 53, 50, 53, 51, 53, 52, 53, 53, 53, 54, 53, 55, 53, 56, 53, 57, 54, 48, 54, 49, 54, 50, 54, 51, 54, 52, 54, 53, 54, 54, 54, 55, 54, 56, 54, 57, 55, 48, 55, 49, 55, 50, 55, 51, 55, 52, 55, 53, 55, 54, 55, 55, 55, 56, 55, 57, 56, 48, 56, 49, 56, 50, 56, 51, 56, 52, 56, 53, 56, 54, 56, 55, 56, 56, 56, 57, 57, 48, 57, 49, 57, 50, 57, 51, 57, 52, 57, 53, 57, 54, 57, 55, 57, 56, 57, 57])) (.t 130), none⟩, false, []),
     (⟨(some 132), .mov (.t 14), none⟩, false, []),
     (⟨(some 133), .index (.c (.s [48, 48, 48, 49, 48, 50, 48, 51, 48, 52, 48, 53, 48, 54, 48, 55, 48, 56, 48, 57, 49, 48, 49, 49, 49, 50, 49, 51, 49, 52, 49, 53, 49, 54, 49, 55, 49, 56, 49, 57, 50, 48, 50, 49, 50, 50, 50, 51, 50, 52, 50, 53, 50, 54, 50, 55, 50, 56, 50, 57, 51, 48, 51, 49, 51, 50, 51, 51, 51, 52, 51, 53, 51, 54, 51, 55, 51, 56, 51, 57, 52, 48, 52, 49, 52, 50, 52, 51, 52, 52, 52, 53, 52, 54, 52, 55, 52, 56, 52, 57, 53, 48, 53, 49, 53, 50, 53, 51, 53, 52, 53, 53, 53, 54, 53, 55, 53, 56, 53, 57, 54, 48, 54, 49, 54, 50, 54, 51, 54, 52, 54, 53, 54, 54, 54, 55, 54, 56, 54, 57, 55, 48, 55, 49, 55, 50, 55, 51, 55, 52, 55, 53, 55, 54, 55, 55, 55, 56, 55, 57, 56, 48, 56, 49, 56, 50, 56, 51, 56, 52, 56, 53, 56, 54, 56, 55, 56, 56, 56, 57, 57, 48, 57, 49, 57, 50, 57, 51, 57, 52, 57, 53, 57, 54, 57, 55, 57, 56, 57, 57])) (.t 132), none⟩, false, []),
     (⟨(some 134), .indexAddr (.t 123) (.t 125) 1 none, none⟩, false, []),
     (⟨none, .store none ⟨1, false⟩ (.t 134) (.t 131), none⟩, true, []),
     (⟨(some 135), .indexAddr (.t 126) (.t 128) 1 none, none⟩, true, []),
     (⟨none, .store none ⟨1, false⟩ (.t 135) (.t 133), none⟩, true, [])])
   (.ops [⟨(some 136), .mov (.t 4), none⟩,
     ⟨(some 137), .bin .sub .num (.t 136) (.c (.i .i64 4)), none⟩,
     ⟨(some 4), .mov (.t 137), none⟩])))))))))))
   (.skip)))))
  ((.seq ((.seq (.ops [⟨(some 138), .mov (.t 4), none⟩,
    ⟨(some 139), .bin .geq .num (.t 138) (.c (.i .i64 2)), none⟩])
  ((.cond (.t 139) ((.seq (.ops [⟨(some 140), .mov (.t 12), none⟩,
     ⟨(some 141), .bin .rem .num (.t 140) (.c (.i .u32 100)), none⟩,
     ⟨(some 142), .bin .mul .num (.t 141) (.c (.i .u32 2)), none⟩,
     ⟨(some 16), .mov (.t 142), none⟩])
   ((.seq (.ops [⟨(some 143), .mov (.t 12), none⟩,
     ⟨(some 144), .bin .quo .num (.t 143) (.c (.i .u32 100)), none⟩,
     ⟨(some 12), .mov (.t 144), none⟩])
   ((.seq (.opsD [(⟨(some 145), .mov (.t 0), none⟩, false, []),
     (⟨(some 146), .mov (.t 4), none⟩, false, []),
     (⟨(some 147), .bin .sub .num (.t 146) (.c (.i .i64 1)), none⟩, false, []),
     (⟨(some 148), .mov (.t 0), none⟩, false, []),
     (⟨(some 149), .mov (.t 4), none⟩, false, []),
     (⟨(some 150), .bin .sub .num (.t 149) (.c (.i .i64 2)), none⟩, false, []),
     (⟨(some 151), .mov (.t 16), none⟩, false, []),
     (⟨(some 152), .bin .add .num (.t 151) (.c (.i .u32 1)), none⟩, false, []),
     (⟨(some 153), .index (.c (.s [48, 48, 48, 49, 48, 50, 48, 51, 48, 52, 48, 53, 48, 54, 48, 55, 48, 56, 48, 57, 49, 48, 49, 49, 49, 50, 49, 51, 49, 52, 49, 53, 49, 54, 49, 55, 49, 56, 49, 57, 50, 48, 50, 49, 50, 50, 50, 51, 50, 52, 50, 53, 50, 54, 50, 55, 50, 56, 50, 57, 51, 48, 51, 49, 51, 50, 51, 51, 51, 52, 51, 53, 51, 54, 51, 55, 51, 56, 51, 57, 52, 48, 52, 49, 52, 50, 52, 51, 52, 52, 52, 53, 52, 54, 52, 55, 52, 56, 52, 57, 53, 48, 53, 49, 53, 50, 53, 51, 53, 52, 53, 53, 53, 54, 53, 55, 53, 56, 53, 57, 54, 48, 54, 49, 54, 50, 54, 51, 54, 52, 54, 53, 54, 54, 54, 55, 54, 56, 54, 57, 55, 48, 55, 49, 55, 50, 55, 51, 55, 52, 55, 53, 55, 54, 55, 55, 55, 56, 55, 57, 56, 48, 56, 49, 56, 50, 56, 51, 56, 52, 56, 53, 56, 54, 56, 55, 56, 56, 56, 57, 57, 48, 57, 49, 57, 50, 57, 51, 57, 52, 57, 53, 57, 54, 57, 55, 57, 56, 57, 57])) (.t 152), none⟩, false, []),
     (⟨(some 154), .mov (.t 16), none⟩, false, []),
     (⟨(some 155), .index (.c (.s [48, 48, 48, 49, 48, 50, 48, 51, 48, 52, 48, 53, 48, 54, 48, 55, 48, 56, 48, 57, 49, 48, 49, 49, 49, 50, 49, 51, 49, 52, 49, 53, 49, 54, 49, 55, 49, 56, 49, 57, 50, 48, 50, 49, 50, 50, 50, 51, 50, 52, 50, 53, 50, 54, 50, 55, 50, 56, 50, 57, 51, 48, 51, 49, 51, 50, 51, 51, 51, 52, 51, 53, 51, 54, 51, 55, 51, 56, 51, 57, 52, 48, 52, 49, 52, 50, 52, 51, 52, 52, 52, 53, 52, 54, 52, 55, 52, 56, 52, 57, 53, 48, 53, 49, 53, 50, 53, 51, 53, 52, 53, 53, 53, 54, 53, 55, 53, 56, 53, 57, 54, 48, 54, 49, 54, 50, 54, 51, 54, 52, 54, 53, 54, 54, 54, 55, 54, 56, 54, 57, 55, 48, 55, 49, 55, 50, 55, 51, 55, 52, 55, 53, 55, 54, 55, 55, 55, 56, 55, 57, 56, 48, 56, 49, 56, 50, 56, 51, 56, 52, 56, 53, 56, 54, 56, 55, 56, 56, 56, 57, 57, 48, 57, 49, 57, 50, 57, 51, 57, 52, 57, 53, 57, 54, 57, 55, 57, 56, 57, 57])) (.t 154), none⟩, false, []),
     (⟨(some 156), .indexAddr (.t 145) (.t 147) 1 none, none⟩, false, []),
     (⟨none, .store none ⟨1, false⟩ (.t 156) (.t 153), none⟩, true, []),
     (⟨(some 157), .indexAddr (.t 148) (.t 150) 1 none, none⟩, true, []),
     (⟨none, .store none ⟨1, false⟩ (.t 157) (.t 155), none⟩, true, [])])
   (.ops [⟨(some 158), .mov (.t 4), none⟩,
     ⟨(some 159), .bin .sub .num (.t 158) (.c (.i .i64 2)), none⟩,
     ⟨(some 4), .mov (.t 159), none⟩])))))))
   (.skip)))))
  ((.seq (.ops [⟨(some 160), .mov (.t 4), none⟩,
    ⟨(some 161), .bin .gtr .num (.t 160) (.c (.i .i64 0)), none⟩])
  ((.cond (.t 161) (.ops [⟨(some 162), .mov (.t 0), none⟩,
     ⟨(some 163), .mov (.t 12), none⟩,
     ⟨(some 164), .bin .add .num (.c (.i .u32 48)) (.t 163), none⟩,
     ⟨(some 165), .conv .u8 (.t 164), none⟩,
     ⟨(some 166), .indexAddr (.t 162) (.c (.i .i64 0)) 1 none, none⟩,
     ⟨none, .store none ⟨1, false⟩ (.t 166) (.mv 165), none⟩])
   (.skip))))))))))
def f_internal_strconv_formatBase10 : Fn := ⟨2, [], false,
  (.seq (.ops [⟨(some 17), .mov (.t 0), none⟩,
    ⟨(some 18), .bi .lenL [(.t 17)], none⟩,
    ⟨(some 4), .mov (.t 18), none⟩])
  ((.seq ((.block 0 [0, 1, 4] (f_internal_strconv_formatBase10_L0)))
  (f_internal_strconv_formatBase10_R1))))⟩
def f_internal_strconv_formatBits_B0 : C :=
  (.seq ((.seq (.ops [⟨(some 44), .mov (.t 1), none⟩,
    ⟨(some 45), .mov (.t 15), none⟩,
    ⟨(some 46), .bin .geq .num (.t 44) (.t 45), none⟩])
  ((.cond (.t 46) (.skip)
   (.exit 0)))))
  ((.block 1 [0, 1, 3, 4, 10, 11, 12, 13, 14, 15, 16] ((.seq (.ops [⟨(some 47), .mov (.t 13), none⟩,
     ⟨(some 48), .bin .sub .num (.t 47) (.c (.i .i64 1)), none⟩,
     ⟨(some 13), .mov (.t 48), none⟩])
   ((.seq (.ops [⟨(some 49), .mov (.t 13), none⟩,
     ⟨(some 50), .mov (.t 1), none⟩,
     ⟨(some 51), .mov (.t 16), none⟩,
     ⟨(some 52), .bin .and .num (.t 50) (.t 51), none⟩,
     ⟨(some 53), .index (.c (.s [48, 49, 50, 51, 52, 53, 54, 55, 56, 57, 97, 98, 99, 100, 101, 102, 103, 104, 105, 106, 107, 108, 109, 110, 111, 112, 113, 114, 115, 116, 117, 118, 119, 120, 121, 122])) (.t 52), none⟩,
     ⟨(some 54), .indexAddr (.t 12) (.t 49) 1 (some 65), none⟩,
     ⟨none, .store none ⟨1, false⟩ (.t 54) (.t 53), none⟩])
   (.ops [⟨(some 55), .mov (.t 1), none⟩,
     ⟨(some 56), .mov (.t 14), none⟩,
     ⟨(some 57), .bin .shr .num (.t 55) (.t 56), none⟩,
     ⟨(some 1), .mov (.t 57), none⟩]))))))))
def f_internal_strconv_formatBits_L0 : C := .loop [0, 1, 3, 4, 10, 11, 12, 13, 14, 15, 16] f_internal_strconv_formatBits_B0
noncomputable def f_internal_strconv_formatBits_l0 (pg : Pg) (v0 v1 v3 v4 v10 v11 v12 v13 v14 v15 v16 : V) (H : List Obj) (lo : Nat) : Option (Ex × St) := exL pg f_internal_strconv_formatBits_L0 ⟨[(0, v0), (1, v1), (3, v3), (4, v4), (10, v10), (11, v11), (12, v12), (13, v13), (14, v14), (15, v15), (16, v16)], H, lo⟩
theorem f_internal_strconv_formatBits_l0_in {pg : Pg} {e : Env} {H : List Obj} {lo : Nat} : exL pg f_internal_strconv_formatBits_L0 ⟨e, H, lo⟩ = f_internal_strconv_formatBits_l0 pg (keepV (get 0 e)) (keepV (get 1 e)) (keepV (get 3 e)) (keepV (get 4 e)) (keepV (get 10 e)) (keepV (get 11 e)) (keepV (get 12 e)) (keepV (get 13 e)) (keepV (get 14 e)) (keepV (get 15 e)) (keepV (get 16 e)) H lo := loop_in
theorem f_internal_strconv_formatBits_l0_eq {pg : Pg} {v0 v1 v3 v4 v10 v11 v12 v13 v14 v15 v16 : V} {H : List Obj} {lo : Nat} : f_internal_strconv_formatBits_l0 pg v0 v1 v3 v4 v10 v11 v12 v13 v14 v15 v16 H lo = thenC pg (exL pg f_internal_strconv_formatBits_B0 ⟨[(0, keepV v0), (1, keepV v1), (3, keepV v3), (4, keepV v4), (10, keepV v10), (11, keepV v11), (12, keepV v12), (13, keepV v13), (14, keepV v14), (15, keepV v15), (16, keepV v16)], H, lo⟩) f_internal_strconv_formatBits_L0 := by
  unfold f_internal_strconv_formatBits_l0 f_internal_strconv_formatBits_L0; rw [exL_loop]; simp only [restrict_cons, restrict_nil, get_eq, get_ne, Nat.reduceEqDiff]
def f_internal_strconv_formatBits_R1 : C :=
  (.seq (.ops [⟨(some 58), .mov (.t 13), none⟩,
     ⟨(some 59), .bin .sub .num (.t 58) (.c (.i .i64 1)), none⟩,
     ⟨(some 13), .mov (.t 59), none⟩])
   (.ops [⟨(some 60), .mov (.t 13), none⟩,
     ⟨(some 61), .mov (.t 1), none⟩,
     ⟨(some 62), .index (.c (.s [48, 49, 50, 51, 52, 53, 54, 55, 56, 57, 97, 98, 99, 100, 101, 102, 103, 104, 105, 106, 107, 108, 109, 110, 111, 112, 113, 114, 115, 116, 117, 118, 119, 120, 121, 122])) (.t 61), none⟩,
     ⟨(some 63), .indexAddr (.t 12) (.t 60) 1 (some 65), none⟩,
     ⟨none, .store none ⟨1, false⟩ (.t 63) (.t 62), none⟩]))
def f_internal_strconv_formatBits_B2 : C :=
  (.seq ((.seq (.ops [⟨(some 66), .mov (.t 1), none⟩,
    ⟨(some 67), .mov (.t 17), none⟩,
    ⟨(some 68), .bin .geq .num (.t 66) (.t 67), none⟩])
  ((.cond (.t 68) (.skip)
   (.exit 2)))))
  ((.block 3 [0, 1, 3, 4, 10, 11, 12, 13, 17] ((.seq (.ops [⟨(some 69), .mov (.t 13), none⟩,
     ⟨(some 70), .bin .sub .num (.t 69) (.c (.i .i64 1)), none⟩,
     ⟨(some 13), .mov (.t 70), none⟩])
   ((.seq (.ops [⟨(some 71), .mov (.t 1), none⟩,
     ⟨(some 72), .mov (.t 17), none⟩,
     ⟨(some 73), .bin .quo .num (.t 71) (.t 72), none⟩,
     ⟨(some 18), .mov (.t 73), none⟩])
   ((.seq (.ops [⟨(some 74), .mov (.t 13), none⟩,
     ⟨(some 75), .mov (.t 1), none⟩,
     ⟨(some 76), .mov (.t 18), none⟩,
     ⟨(some 77), .mov (.t 17), none⟩,
     ⟨(some 78), .bin .mul .num (.t 76) (.t 77), none⟩,
     ⟨(some 79), .bin .sub .num (.t 75) (.t 78), none⟩,
     ⟨(some 80), .index (.c (.s [48, 49, 50, 51, 52, 53, 54, 55, 56, 57, 97, 98, 99, 100, 101, 102, 103, 104, 105, 106, 107, 108, 109, 110, 111, 112, 113, 114, 115, 116, 117, 118, 119, 120, 121, 122])) (.t 79), none⟩,
     ⟨(some 81), .indexAddr (.t 12) (.t 74) 1 (some 65), none⟩,
     ⟨none, .store none ⟨1, false⟩ (.t 81) (.t 80), none⟩])
   (.ops [⟨(some 82), .mov (.t 18), none⟩,
     ⟨(some 1), .mov (.t 82), none⟩]))))))))))
def f_internal_strconv_formatBits_L2 : C := .loop [0, 1, 3, 4, 10, 11, 12, 13, 17] f_internal_strconv_formatBits_B2
noncomputable def f_internal_strconv_formatBits_l2 (pg : Pg) (v0 v1 v3 v4 v10 v11 v12 v13 v17 : V) (H : List Obj) (lo : Nat) : Option (Ex × St) := exL pg f_internal_strconv_formatBits_L2 ⟨[(0, v0), (1, v1), (3, v3), (4, v4), (10, v10), (11, v11), (12, v12), (13, v13), (17, v17)], H, lo⟩
theorem f_internal_strconv_formatBits_l2_in {pg : Pg} {e : Env} {H : List Obj} {lo : Nat} : exL pg f_internal_strconv_formatBits_L2 ⟨e, H, lo⟩ = f_internal_strconv_formatBits_l2 pg (keepV (get 0 e)) (keepV (get 1 e)) (keepV (get 3 e)) (keepV (get 4 e)) (keepV (get 10 e)) (keepV (get 11 e)) (keepV (get 12 e)) (keepV (get 13 e)) (keepV (get 17 e)) H lo := loop_in
theorem f_internal_strconv_formatBits_l2_eq {pg : Pg} {v0 v1 v3 v4 v10 v11 v12 v13 v17 : V} {H : List Obj} {lo : Nat} : f_internal_strconv_formatBits_l2 pg v0 v1 v3 v4 v10 v11 v12 v13 v17 H lo = thenC pg (exL pg f_internal_strconv_formatBits_B2 ⟨[(0, keepV v0), (1, keepV v1), (3, keepV v3), (4, keepV v4), (10, keepV v10), (11, keepV v11), (12, keepV v12), (13, keepV v13), (17, keepV v17)], H, lo⟩) f_internal_strconv_formatBits_L2 := by
  unfold f_internal_strconv_formatBits_l2 f_internal_strconv_formatBits_L2; rw [exL_loop]; simp only [restrict_cons, restrict_nil, get_eq, get_ne, Nat.reduceEqDiff]
def f_internal_strconv_formatBits_R3 : C :=
  (.seq (.ops [⟨(some 83), .mov (.t 13), none⟩,
     ⟨(some 84), .bin .sub .num (.t 83) (.c (.i .i64 1)), none⟩,
     ⟨(some 13), .mov (.t 84), none⟩])
   (.ops [⟨(some 85), .mov (.t 13), none⟩,
     ⟨(some 86), .mov (.t 1), none⟩,
     ⟨(some 87), .index (.c (.s [48, 49, 50, 51, 52, 53, 54, 55, 56, 57, 97, 98, 99, 100, 101, 102, 103, 104, 105, 106, 107, 108, 109, 110, 111, 112, 113, 114, 115, 116, 117, 118, 119, 120, 121, 122])) (.t 86), none⟩,
     ⟨(some 88), .indexAddr (.t 12) (.t 85) 1 (some 65), none⟩,
     ⟨none, .store none ⟨1, false⟩ (.t 88) (.t 87), none⟩]))
def f_internal_strconv_formatBits_R4 : C :=
  (.seq ((.seq (.ops [⟨(some 89), .mov (.t 3), none⟩])
  ((.cond (.t 89) ((.seq (.ops [⟨(some 90), .mov (.t 13), none⟩,
     ⟨(some 91), .bin .sub .num (.t 90) (.c (.i .i64 1)), none⟩,
     ⟨(some 13), .mov (.t 91), none⟩])
   (.ops [⟨(some 92), .mov (.t 13), none⟩,
     ⟨(some 93), .indexAddr (.t 12) (.t 92) 1 (some 65), none⟩,
     ⟨none, .store none ⟨1, false⟩ (.t 93) (.c (.i .u8 45)), none⟩])))
   (.skip)))))
  ((.seq ((.seq (.ops [⟨(some 94), .mov (.t 4), none⟩])
  ((.cond (.t 94) ((.seq (.ops [⟨(some 95), .mov (.mv 0), none⟩,
     ⟨(some 96), .mov (.t 13), none⟩,
     ⟨(some 97), .sliceA 65 (.t 12) (some (.t 96)) none, none⟩,
     ⟨(some 98), .bi (.append 1 1) [(.mv 95), (.t 97)], none⟩,
     ⟨(some 10), .mov (.mv 98), none⟩])
   (.ret)))
   (.skip)))))
  ((.seq (.ops [⟨(some 99), .mov (.t 13), none⟩,
    ⟨(some 100), .sliceA 65 (.t 12) (some (.t 99)) none, none⟩,
    ⟨(some 101), .text (.t 100), none⟩,
    ⟨(some 11), .mov (.mv 101), none⟩])
  (.ret))))))
def f_internal_strconv_formatBits : Fn := ⟨5, [(.t 10), (.t 11)], false,
  (.seq (.ops [⟨(some 10), .mov (.c .nil), none⟩,
    ⟨(some 11), .mov (.c (.s [])), none⟩])
  ((.seq ((.seq (.ops [⟨(some 19), .mov (.t 2), none⟩,
    ⟨(some 20), .bin .lss .num (.t 19) (.c (.i .i64 2)), none⟩,
    ⟨(some 21), .mov (.t 20), none⟩,
    ⟨(some 22), .mov (.t 2), some (21, false)⟩,
    ⟨(some 23), .bin .eql .num (.t 22) (.c (.i .i64 10)), some (21, false)⟩,
    ⟨(some 24), .pick (.t 21) (.c (.b true)) (.t 23), none⟩,
    ⟨(some 25), .mov (.t 24), none⟩,
    ⟨(some 26), .mov (.t 2), some (25, false)⟩,
    ⟨(some 27), .bin .gtr .num (.t 26) (.c (.i .i64 36)), some (25, false)⟩,
    ⟨(some 28), .pick (.t 25) (.c (.b true)) (.t 27), none⟩])
  ((.cond (.t 28) (.ops [⟨(some 29), .mkIfc 9 (.c (.s [115, 116, 114, 99, 111, 110, 118, 58, 32, 105, 108, 108, 101, 103, 97, 108, 32, 65, 112, 112, 101, 110, 100, 73, 110, 116, 47, 70, 111, 114, 109, 97, 116, 73, 110, 116, 32, 98, 97, 115, 101])), none⟩,
     ⟨none, .panic (.t 29), none⟩])
   (.skip)))))
  ((.seq (.ops [⟨(some 12), .alloc false [(.i .u8 0), (.i .u8 0), (.i .u8 0), (.i .u8 0), (.i .u8 0), (.i .u8 0), (.i .u8 0), (.i .u8 0), (.i .u8 0), (.i .u8 0), (.i .u8 0), (.i .u8 0), (.i .u8 0), (.i .u8 0), (.i .u8 0), (.i .u8 0), (.i .u8 0), (.i .u8 0), (.i .u8 0), (.i .u8 0), (.i .u8 0), (.i .u8 0), (.i .u8 0), (.i .u8 0), (.i .u8 0), (.i .u8 0), (.i .u8 0), (.i .u8 0), (.i .u8 0), (.i .u8 0), (.i .u8 0), (.i .u8 0), (.i .u8 0), (.i .u8 0), (.i .u8 0), (.i .u8 0), (.i .u8 0), (.i .u8 0), (.i .u8 0), (.i .u8 0), (.i .u8 0), (.i .u8 0), (.i .u8 0), (.i .u8 0), (.i .u8 0), (.i .u8 0), (.i .u8 0), (.i .u8 0), (.i .u8 0), (.i .u8 0), (.i .u8 0), (.i .u8 0), (.i .u8 0), (.i .u8 0), (.i .u8 0), (.i .u8 0), (.i .u8 0), (.i .u8 0), (.i .u8 0), (.i .u8 0), (.i .u8 0), (.i .u8 0), (.i .u8 0), (.i .u8 0), (.i .u8 0)], none⟩])
  ((.seq (.ops [⟨(some 13), .mov (.c (.i .i64 65)), none⟩])
  ((.seq ((.seq (.ops [⟨(some 30), .mov (.t 3), none⟩])
  ((.cond (.t 30) (.ops [⟨(some 31), .mov (.t 1), none⟩,
     ⟨(some 32), .un .neg (.t 31), none⟩,
     ⟨(some 1), .mov (.t 32), none⟩])
   (.skip)))))
  ((.seq ((.seq (.ops [⟨(some 33), .mov (.t 2), none⟩,
    ⟨(some 34), .call (.f 46) [(.t 33)], none⟩])
  ((.cond (.t 34) ((.seq (.ops [⟨(some 35), .mov (.t 2), none⟩,
     ⟨(some 36), .conv .u64 (.t 35), none⟩,
     ⟨(some 37), .call (.f 47) [(.t 36)], none⟩,
     ⟨(some 38), .conv .u64 (.t 37), none⟩,
     ⟨(some 14), .mov (.mv 38), none⟩])
   ((.seq (.ops [⟨(some 39), .mov (.t 2), none⟩,
     ⟨(some 40), .conv .u64 (.t 39), none⟩,
     ⟨(some 15), .mov (.mv 40), none⟩])
   ((.seq (.ops [⟨(some 41), .mov (.t 2), none⟩,
     ⟨(some 42), .conv .u64 (.t 41), none⟩,
     ⟨(some 43), .bin .sub .num (.t 42) (.c (.i .u64 1)), none⟩,
     ⟨(some 16), .mov (.t 43), none⟩])
   ((.seq ((.block 0 [0, 1, 3, 4, 10, 11, 12, 13] (f_internal_strconv_formatBits_L0)))
   (f_internal_strconv_formatBits_R1)))))))))
   ((.seq (.ops [⟨(some 64), .mov (.t 2), none⟩,
     ⟨(some 65), .conv .u64 (.t 64), none⟩,
     ⟨(some 17), .mov (.mv 65), none⟩])
   ((.seq ((.block 2 [0, 1, 3, 4, 10, 11, 12, 13] (f_internal_strconv_formatBits_L2)))
   (f_internal_strconv_formatBits_R3)))))))))
  (f_internal_strconv_formatBits_R4))))))))))))⟩
def f_unicode_utf8_decodeRuneInStringSlow : Fn := ⟨1, [(.t 2), (.t 3)], false,
  (.seq (.ops [⟨(some 2), .mov (.c (.i .i32 0)), none⟩,
    ⟨(some 3), .mov (.c (.i .i64 0)), none⟩])
  ((.seq (.ops [⟨(some 13), .mov (.t 0), none⟩,
    ⟨(some 14), .bi .lenS [(.t 13)], none⟩,
    ⟨(some 4), .mov (.t 14), none⟩])
  ((.seq ((.seq (.ops [⟨(some 15), .mov (.t 4), none⟩,
    ⟨(some 16), .bin .lss .num (.t 15) (.c (.i .i64 1)), none⟩])
  ((.cond (.t 16) ((.seq (.ops [⟨(some 2), .mov (.c (.i .i32 65533)), none⟩,
     ⟨(some 3), .mov (.c (.i .i64 0)), none⟩])
   (.ret)))
   (.skip)))))
  ((.seq (.ops [⟨(some 17), .mov (.t 0), none⟩,
    ⟨(some 18), .index (.t 17) (.c (.i .i64 0)), none⟩,
    ⟨(some 5), .mov (.t 18), none⟩])
  ((.seq (.ops [⟨(some 19), .mov (.t 5), none⟩,
    ⟨(some 20), .stuck, none⟩,
    ⟨(some 21), .load false none ⟨1, false⟩ (.t 20), none⟩,
    ⟨(some 6), .mov (.t 21), none⟩])
  ((.seq ((.seq (.ops [⟨(some 22), .mov (.t 6), none⟩,
    ⟨(some 23), .bin .geq .num (.t 22) (.c (.i .u8 240)), none⟩])
  ((.cond (.t 23) ((.seq (.ops [⟨(some 24), .mov (.t 6), none⟩,
     ⟨(some 25), .conv .i32 (.t 24), none⟩,
     ⟨(some 26), .bin .shl .num (.t 25) (.c (.i .u64 31)), none⟩,
     ⟨(some 27), .bin .shr .num (.t 26) (.c (.i .u64 31)), none⟩,
     ⟨(some 7), .mov (.t 27), none⟩])
   ((.seq (.ops [⟨(some 28), .mov (.t 0), none⟩,
     ⟨(some 29), .index (.t 28) (.c (.i .i64 0)), none⟩,
     ⟨(some 30), .conv .i32 (.t 29), none⟩,
     ⟨(some 31), .mov (.t 7), none⟩,
     ⟨(some 32), .bin .andNot .num (.t 30) (.t 31), none⟩,
     ⟨(some 33), .mov (.t 7), none⟩,
     ⟨(some 34), .bin .and .num (.c (.i .i32 65533)) (.t 33), none⟩,
     ⟨(some 35), .bin .or .num (.t 32) (.t 34), none⟩,
     ⟨(some 2), .mov (.t 35), none⟩,
     ⟨(some 3), .mov (.c (.i .i64 1)), none⟩])
   (.ret)))))
   (.skip)))))
  ((.seq (.ops [⟨(some 36), .mov (.t 6), none⟩,
    ⟨(some 37), .bin .and .num (.t 36) (.c (.i .u8 7)), none⟩,
    ⟨(some 38), .conv .i64 (.t 37), none⟩,
    ⟨(some 8), .mov (.mv 38), none⟩])
  ((.seq (.ops [⟨(some 39), .mov (.t 6), none⟩,
    ⟨(some 40), .bin .shr .num (.t 39) (.c (.i .u64 4)), none⟩,
    ⟨(some 41), .stuck, none⟩,
    ⟨(some 42), .load false none ⟨2, true⟩ (.t 41), none⟩,
    ⟨(some 9), .alloc true [(.i .u8 0), (.i .u8 0)], none⟩,
    ⟨none, .store (some 9) ⟨2, true⟩ (.t 9) (.t 42), none⟩])
  ((.seq ((.seq (.ops [⟨(some 43), .mov (.t 4), none⟩,
    ⟨(some 44), .mov (.t 8), none⟩,
    ⟨(some 45), .bin .lss .num (.t 43) (.t 44), none⟩])
  ((.cond (.t 45) ((.seq (.ops [⟨(some 2), .mov (.c (.i .i32 65533)), none⟩,
     ⟨(some 3), .mov (.c (.i .i64 1)), none⟩])
   (.ret)))
   (.skip)))))
  ((.seq (.ops [⟨(some 46), .mov (.t 0), none⟩,
    ⟨(some 47), .index (.t 46) (.c (.i .i64 1)), none⟩,
    ⟨(some 10), .mov (.t 47), none⟩])
  ((.seq ((.seq (.ops [⟨(some 48), .mov (.t 10), none⟩,
    ⟨(some 49), .fieldAddr (.t 9) 0 ⟨1, false⟩, none⟩,
    ⟨(some 50), .load false (some 9) ⟨1, false⟩ (.t 49), none⟩,
    ⟨(some 51), .bin .lss .num (.t 48) (.t 50), none⟩,
    ⟨(some 52), .mov (.t 51), none⟩,
    ⟨(some 53), .fieldAddr (.t 9) 1 ⟨1, false⟩, some (52, false)⟩,
    ⟨(some 54), .load false (some 9) ⟨1, false⟩ (.t 53), some (52, false)⟩,
    ⟨(some 55), .mov (.t 10), some (52, false)⟩,
    ⟨(some 56), .bin .lss .num (.t 54) (.t 55), some (52, false)⟩,
    ⟨(some 57), .pick (.t 52) (.c (.b true)) (.t 56), none⟩])
  ((.cond (.t 57) ((.seq (.ops [⟨(some 2), .mov (.c (.i .i32 65533)), none⟩,
     ⟨(some 3), .mov (.c (.i .i64 1)), none⟩])
   (.ret)))
   (.skip)))))
  ((.seq ((.seq (.ops [⟨(some 58), .mov (.t 8), none⟩,
    ⟨(some 59), .bin .leq .num (.t 58) (.c (.i .i64 2)), none⟩])
  ((.cond (.t 59) ((.seq (.ops [⟨(some 60), .mov (.t 5), none⟩,
     ⟨(some 61), .bin .and .num (.t 60) (.c (.i .u8 31)), none⟩,
     ⟨(some 62), .conv .i32 (.t 61), none⟩,
     ⟨(some 63), .bin .shl .num (.t 62) (.c (.i .u64 6)), none⟩,
     ⟨(some 64), .mov (.t 10), none⟩,
     ⟨(some 65), .bin .and .num (.t 64) (.c (.i .u8 63)), none⟩,
     ⟨(some 66), .conv .i32 (.t 65), none⟩,
     ⟨(some 67), .bin .or .num (.t 63) (.t 66), none⟩,
     ⟨(some 2), .mov (.t 67), none⟩,
     ⟨(some 3), .mov (.c (.i .i64 2)), none⟩])
   (.ret)))
   (.skip)))))
  ((.seq (.ops [⟨(some 68), .mov (.t 0), none⟩,
    ⟨(some 69), .index (.t 68) (.c (.i .i64 2)), none⟩,
    ⟨(some 11), .mov (.t 69), none⟩])
  ((.seq ((.seq (.ops [⟨(some 70), .mov (.t 11), none⟩,
    ⟨(some 71), .bin .lss .num (.t 70) (.c (.i .u8 128)), none⟩,
    ⟨(some 72), .mov (.t 71), none⟩,
    ⟨(some 73), .mov (.t 11), some (72, false)⟩,
    ⟨(some 74), .bin .lss .num (.c (.i .u8 191)) (.t 73), some (72, false)⟩,
    ⟨(some 75), .pick (.t 72) (.c (.b true)) (.t 74), none⟩])
  ((.cond (.t 75) ((.seq (.ops [⟨(some 2), .mov (.c (.i .i32 65533)), none⟩,
     ⟨(some 3), .mov (.c (.i .i64 1)), none⟩])
   (.ret)))
   (.skip)))))
  ((.seq ((.seq (.ops [⟨(some 76), .mov (.t 8), none⟩,
    ⟨(some 77), .bin .leq .num (.t 76) (.c (.i .i64 3)), none⟩])
  ((.cond (.t 77) ((.seq (.ops [⟨(some 78), .mov (.t 5), none⟩,
     ⟨(some 79), .bin .and .num (.t 78) (.c (.i .u8 15)), none⟩,
     ⟨(some 80), .conv .i32 (.t 79), none⟩,
     ⟨(some 81), .bin .shl .num (.t 80) (.c (.i .u64 12)), none⟩,
     ⟨(some 82), .mov (.t 10), none⟩,
     ⟨(some 83), .bin .and .num (.t 82) (.c (.i .u8 63)), none⟩,
     ⟨(some 84), .conv .i32 (.t 83), none⟩,
     ⟨(some 85), .bin .shl .num (.t 84) (.c (.i .u64 6)), none⟩,
     ⟨(some 86), .bin .or .num (.t 81) (.t 85), none⟩,
     ⟨(some 87), .mov (.t 11), none⟩,
     ⟨(some 88), .bin .and .num (.t 87) (.c (.i .u8 63)), none⟩,
     ⟨(some 89), .conv .i32 (.t 88), none⟩,
     ⟨(some 90), .bin .or .num (.t 86) (.t 89), none⟩,
     ⟨(some 2), .mov (.t 90), none⟩,
     ⟨(some 3), .mov (.c (.i .i64 3)), none⟩])
   (.ret)))
   (.skip)))))
  ((.seq (.ops [⟨(some 91), .mov (.t 0), none⟩,
    ⟨(some 92), .index (.t 91) (.c (.i .i64 3)), none⟩,
    ⟨(some 12), .mov (.t 92), none⟩])
  ((.seq ((.seq (.ops [⟨(some 93), .mov (.t 12), none⟩,
    ⟨(some 94), .bin .lss .num (.t 93) (.c (.i .u8 128)), none⟩,
    ⟨(some 95), .mov (.t 94), none⟩,
    ⟨(some 96), .mov (.t 12), some (95, false)⟩,
    ⟨(some 97), .bin .lss .num (.c (.i .u8 191)) (.t 96), some (95, false)⟩,
    ⟨(some 98), .pick (.t 95) (.c (.b true)) (.t 97), none⟩])
  ((.cond (.t 98) ((.seq (.ops [⟨(some 2), .mov (.c (.i .i32 65533)), none⟩,
     ⟨(some 3), .mov (.c (.i .i64 1)), none⟩])
   (.ret)))
   (.skip)))))
  ((.seq (.ops [⟨(some 99), .mov (.t 5), none⟩,
    ⟨(some 100), .bin .and .num (.t 99) (.c (.i .u8 7)), none⟩,
    ⟨(some 101), .conv .i32 (.t 100), none⟩,
    ⟨(some 102), .bin .shl .num (.t 101) (.c (.i .u64 18)), none⟩,
    ⟨(some 103), .mov (.t 10), none⟩,
    ⟨(some 104), .bin .and .num (.t 103) (.c (.i .u8 63)), none⟩,
    ⟨(some 105), .conv .i32 (.t 104), none⟩,
    ⟨(some 106), .bin .shl .num (.t 105) (.c (.i .u64 12)), none⟩,
    ⟨(some 107), .bin .or .num (.t 102) (.t 106), none⟩,
    ⟨(some 108), .mov (.t 11), none⟩,
    ⟨(some 109), .bin .and .num (.t 108) (.c (.i .u8 63)), none⟩,
    ⟨(some 110), .conv .i32 (.t 109), none⟩,
    ⟨(some 111), .bin .shl .num (.t 110) (.c (.i .u64 6)), none⟩,
    ⟨(some 112), .bin .or .num (.t 107) (.t 111), none⟩,
    ⟨(some 113), .mov (.t 12), none⟩,
    ⟨(some 114), .bin .and .num (.t 113) (.c (.i .u8 63)), none⟩,
    ⟨(some 115), .conv .i32 (.t 114), none⟩,
    ⟨(some 116), .bin .or .num (.t 112) (.t 115), none⟩,
    ⟨(some 2), .mov (.t 116), none⟩,
    ⟨(some 3), .mov (.c (.i .i64 4)), none⟩])
  (.ret))))))))))))))))))))))))))))))))))))⟩
def f_strconv_IsPrint : Fn := ⟨1, [(.t 2)], true,
  (.seq (.ops [⟨(some 2), .mov (.c (.b false)), none⟩])
  ((.seq ((.seq (.ops [⟨(some 17), .mov (.t 0), none⟩,
    ⟨(some 18), .bin .leq .num (.t 17) (.c (.i .i32 255)), none⟩])
  ((.cond (.t 18) ((.seq ((.seq (.ops [⟨(some 19), .mov (.t 0), none⟩,
     ⟨(some 20), .bin .leq .num (.c (.i .i32 32)) (.t 19), none⟩,
     ⟨(some 21), .mov (.t 20), none⟩,
     ⟨(some 22), .mov (.t 0), some (21, true)⟩,
     ⟨(some 23), .bin .leq .num (.t 22) (.c (.i .i32 126)), some (21, true)⟩,
     ⟨(some 24), .pick (.t 21) (.t 23) (.c (.b false)), none⟩])
   ((.cond (.t 24) ((.seq (.ops [⟨(some 2), .mov (.c (.b true)), none⟩])
    (.ret)))
    (.skip)))))
   ((.seq ((.seq (.ops [⟨(some 25), .mov (.t 0), none⟩,
     ⟨(some 26), .bin .leq .num (.c (.i .i32 161)) (.t 25), none⟩,
     ⟨(some 27), .mov (.t 26), none⟩,
     ⟨(some 28), .mov (.t 0), some (27, true)⟩,
     ⟨(some 29), .bin .leq .num (.t 28) (.c (.i .i32 255)), some (27, true)⟩,
     ⟨(some 30), .pick (.t 27) (.t 29) (.c (.b false)), none⟩])
   ((.cond (.t 30) ((.seq (.ops [⟨(some 31), .mov (.t 0), none⟩,
      ⟨(some 32), .bin .neq .num (.t 31) (.c (.i .i32 173)), none⟩,
      ⟨(some 2), .mov (.t 32), none⟩])
    (.ret)))
    (.skip)))))
   ((.seq (.ops [⟨(some 2), .mov (.c (.b false)), none⟩])
   (.ret)))))))
   (.skip)))))
  ((.seq ((.seq (.ops [⟨(some 33), .mov (.t 0), none⟩,
    ⟨(some 34), .bin .leq .num (.c (.i .i32 0)) (.t 33), none⟩,
    ⟨(some 35), .mov (.t 34), none⟩,
    ⟨(some 36), .mov (.t 0), some (35, true)⟩,
    ⟨(some 37), .bin .lss .num (.t 36) (.c (.i .i32 65536)), some (35, true)⟩,
    ⟨(some 38), .pick (.t 35) (.t 37) (.c (.b false)), none⟩])
  ((.cond (.t 38) ((.seq (.opsD [(⟨(some 39), .mov (.t 0), none⟩, false, []),
     (⟨(some 40), .conv .u16 (.t 39), none⟩, false, []),
     (⟨(some 41), .stuck, none⟩, false, []),
     (⟨(some 42), .stuck, none⟩, false, []),
     (⟨(some 3), .mov (.mv 40), none⟩, false, []),
     (⟨(some 4), .mov (.t 41), none⟩, false, []),
     (⟨(some 5), .mov (.t 42), none⟩, true, [])])
   ((.seq (.ops [⟨(some 44), .mov (.t 4), none⟩,
     ⟨(some 45), .mov (.t 3), none⟩,
     ⟨(some 46), .call (.f 48) [(.t 44), (.t 45)], none⟩,
     ⟨(some 43), .mov (.t 46), none⟩,
     ⟨(some 47), .extract (.t 43) 0, none⟩,
     ⟨(some 48), .extract (.t 43) 1, none⟩,
     ⟨(some 6), .mov (.t 47), none⟩,
     ⟨(some 7), .mov (.t 48), none⟩])
   ((.seq ((.seq (.ops [⟨(some 49), .mov (.t 6), none⟩,
     ⟨(some 50), .mov (.t 4), none⟩,
     ⟨(some 51), .bi .lenL [(.t 50)], none⟩,
     ⟨(some 52), .bin .geq .num (.t 49) (.t 51), none⟩,
     ⟨(some 53), .mov (.t 52), none⟩,
     ⟨(some 54), .mov (.t 3), some (53, false)⟩,
     ⟨(some 55), .mov (.t 4), some (53, false)⟩,
     ⟨(some 56), .mov (.t 6), some (53, false)⟩,
     ⟨(some 57), .bin .andNot .num (.t 56) (.c (.i .i64 1)), some (53, false)⟩,
     ⟨(some 58), .indexAddr (.t 55) (.t 57) 1 none, some (53, false)⟩,
     ⟨(some 59), .load false none ⟨1, false⟩ (.t 58), some (53, false)⟩,
     ⟨(some 60), .bin .lss .num (.t 54) (.t 59), some (53, false)⟩,
     ⟨(some 61), .pick (.t 53) (.c (.b true)) (.t 60), none⟩,
     ⟨(some 62), .mov (.t 61), none⟩,
     ⟨(some 63), .mov (.t 4), some (62, false)⟩,
     ⟨(some 64), .mov (.t 6), some (62, false)⟩,
     ⟨(some 65), .bin .or .num (.t 64) (.c (.i .i64 1)), some (62, false)⟩,
     ⟨(some 66), .indexAddr (.t 63) (.t 65) 1 none, some (62, false)⟩,
     ⟨(some 67), .load false none ⟨1, false⟩ (.t 66), some (62, false)⟩,
     ⟨(some 68), .mov (.t 3), some (62, false)⟩,
     ⟨(some 69), .bin .lss .num (.t 67) (.t 68), some (62, false)⟩,
     ⟨(some 70), .pick (.t 62) (.c (.b true)) (.t 69), none⟩])
   ((.cond (.t 70) ((.seq (.ops [⟨(some 2), .mov (.c (.b false)), none⟩])
    (.ret)))
    (.skip)))))
   ((.seq (.ops [⟨(some 72), .mov (.mv 5), none⟩,
     ⟨(some 73), .mov (.mv 3), none⟩,
     ⟨(some 74), .call (.f 48) [(.mv 72), (.mv 73)], none⟩,
     ⟨(some 71), .mov (.t 74), none⟩,
     ⟨(some 75), .extract (.t 71) 0, none⟩,
     ⟨(some 76), .extract (.t 71) 1, none⟩,
     ⟨(some 8), .mov (.t 75), none⟩,
     ⟨(some 9), .mov (.t 76), none⟩])
   ((.seq (.ops [⟨(some 77), .mov (.t 9), none⟩,
     ⟨(some 78), .un .not (.t 77), none⟩,
     ⟨(some 2), .mov (.t 78), none⟩])
   (.ret)))))))))))
   (.skip)))))
  ((.seq (.opsD [(⟨(some 79), .mov (.t 0), none⟩, false, []),
    (⟨(some 80), .conv .u32 (.t 79), none⟩, false, []),
    (⟨(some 81), .stuck, none⟩, false, []),
    (⟨(some 82), .stuck, none⟩, false, []),
    (⟨(some 10), .mov (.mv 80), none⟩, false, []),
    (⟨(some 11), .mov (.t 81), none⟩, false, []),
    (⟨(some 12), .mov (.t 82), none⟩, true, [])])
  ((.seq (.ops [⟨(some 84), .mov (.t 11), none⟩,
    ⟨(some 85), .mov (.t 10), none⟩,
    ⟨(some 86), .call (.f 49) [(.t 84), (.t 85)], none⟩,
    ⟨(some 83), .mov (.t 86), none⟩,
    ⟨(some 87), .extract (.t 83) 0, none⟩,
    ⟨(some 88), .extract (.t 83) 1, none⟩,
    ⟨(some 13), .mov (.t 87), none⟩,
    ⟨(some 14), .mov (.t 88), none⟩])
  ((.seq ((.seq (.ops [⟨(some 89), .mov (.t 13), none⟩,
    ⟨(some 90), .mov (.t 11), none⟩,
    ⟨(some 91), .bi .lenL [(.t 90)], none⟩,
    ⟨(some 92), .bin .geq .num (.t 89) (.t 91), none⟩,
    ⟨(some 93), .mov (.t 92), none⟩,
    ⟨(some 94), .mov (.t 10), some (93, false)⟩,
    ⟨(some 95), .mov (.t 11), some (93, false)⟩,
    ⟨(some 96), .mov (.t 13), some (93, false)⟩,
    ⟨(some 97), .bin .andNot .num (.t 96) (.c (.i .i64 1)), some (93, false)⟩,
    ⟨(some 98), .indexAddr (.t 95) (.t 97) 1 none, some (93, false)⟩,
    ⟨(some 99), .load false none ⟨1, false⟩ (.t 98), some (93, false)⟩,
    ⟨(some 100), .bin .lss .num (.t 94) (.t 99), some (93, false)⟩,
    ⟨(some 101), .pick (.t 93) (.c (.b true)) (.t 100), none⟩,
    ⟨(some 102), .mov (.t 101), none⟩,
    ⟨(some 103), .mov (.t 11), some (102, false)⟩,
    ⟨(some 104), .mov (.t 13), some (102, false)⟩,
    ⟨(some 105), .bin .or .num (.t 104) (.c (.i .i64 1)), some (102, false)⟩,
    ⟨(some 106), .indexAddr (.t 103) (.t 105) 1 none, some (102, false)⟩,
    ⟨(some 107), .load false none ⟨1, false⟩ (.t 106), some (102, false)⟩,
    ⟨(some 108), .mov (.t 10), some (102, false)⟩,
    ⟨(some 109), .bin .lss .num (.t 107) (.t 108), some (102, false)⟩,
    ⟨(some 110), .pick (.t 102) (.c (.b true)) (.t 109), none⟩])
  ((.cond (.t 110) ((.seq (.ops [⟨(some 2), .mov (.c (.b false)), none⟩])
   (.ret)))
   (.skip)))))
  ((.seq ((.seq (.ops [⟨(some 111), .mov (.t 0), none⟩,
    ⟨(some 112), .bin .geq .num (.t 111) (.c (.i .i32 131072)), none⟩])
  ((.cond (.t 112) ((.seq (.ops [⟨(some 2), .mov (.c (.b true)), none⟩])
   (.ret)))
   (.skip)))))
  ((.seq (.ops [⟨(some 113), .mov (.t 0), none⟩,
    ⟨(some 114), .bin .sub .num (.t 113) (.c (.i .i32 65536)), none⟩,
    ⟨(some 0), .mov (.t 114), none⟩])
  ((.seq (.ops [⟨(some 116), .mov (.mv 12), none⟩,
    ⟨(some 117), .mov (.t 0), none⟩,
    ⟨(some 118), .conv .u16 (.t 117), none⟩,
    ⟨(some 119), .call (.f 48) [(.mv 116), (.t 118)], none⟩,
    ⟨(some 115), .mov (.t 119), none⟩,
    ⟨(some 120), .extract (.t 115) 0, none⟩,
    ⟨(some 121), .extract (.t 115) 1, none⟩,
    ⟨(some 15), .mov (.t 120), none⟩,
    ⟨(some 16), .mov (.t 121), none⟩])
  ((.seq (.ops [⟨(some 122), .mov (.t 16), none⟩,
    ⟨(some 123), .un .not (.t 122), none⟩,
    ⟨(some 2), .mov (.t 123), none⟩])
  (.ret))))))))))))))))))))⟩
def f_strconv_isInGraphicList : Fn := ⟨1, [(.t 2)], true,
  (.seq (.ops [⟨(some 2), .mov (.c (.b false)), none⟩])
  ((.seq ((.seq (.ops [⟨(some 5), .mov (.t 0), none⟩,
    ⟨(some 6), .bin .gtr .num (.t 5) (.c (.i .i32 65535)), none⟩])
  ((.cond (.t 6) ((.seq (.ops [⟨(some 2), .mov (.c (.b false)), none⟩])
   (.ret)))
   (.skip)))))
  ((.seq (.ops [⟨(some 8), .stuck, none⟩,
    ⟨(some 9), .mov (.t 0), none⟩,
    ⟨(some 10), .conv .u16 (.t 9), none⟩,
    ⟨(some 11), .call (.f 48) [(.t 8), (.t 10)], none⟩,
    ⟨(some 7), .mov (.t 11), none⟩,
    ⟨(some 12), .extract (.t 7) 0, none⟩,
    ⟨(some 13), .extract (.t 7) 1, none⟩,
    ⟨(some 3), .mov (.t 12), none⟩,
    ⟨(some 4), .mov (.t 13), none⟩])
  ((.seq (.ops [⟨(some 14), .mov (.t 4), none⟩,
    ⟨(some 2), .mov (.t 14), none⟩])
  (.ret))))))))⟩
def f_unicode_utf8_AppendRune : Fn := ⟨2, [(.t 4)], true,
  (.seq (.ops [⟨(some 4), .mov (.c .nil), none⟩])
  ((.seq ((.seq (.ops [⟨(some 5), .mov (.t 1), none⟩,
    ⟨(some 6), .conv .u32 (.t 5), none⟩,
    ⟨(some 7), .bin .leq .num (.t 6) (.c (.i .u32 127)), none⟩])
  ((.cond (.t 7) ((.seq (.ops [⟨(some 8), .mov (.mv 0), none⟩,
     ⟨(some 9), .mov (.t 1), none⟩,
     ⟨(some 10), .conv .u8 (.t 9), none⟩,
     ⟨(some 11), .buildSlice (.i .u8 0) 1 [(0, (.t 10))], none⟩,
     ⟨(some 12), .bi (.append 1 1) [(.mv 8), (.t 11)], none⟩,
     ⟨(some 4), .mov (.mv 12), none⟩])
   (.ret)))
   (.skip)))))
  ((.seq (.ops [⟨(some 13), .mov (.mv 0), none⟩,
    ⟨(some 14), .mov (.mv 1), none⟩,
    ⟨(some 15), .call (.f 50) [(.mv 13), (.mv 14)], none⟩,
    ⟨(some 4), .mov (.mv 15), none⟩])
  (.ret))))))⟩
def f_unicode_utf8_ValidRune : Fn := ⟨1, [(.t 2)], true,
  (.seq (.ops [⟨(some 2), .mov (.c (.b false)), none⟩])
  ((.seq ((.block 0 [] ((.seq (.ops [⟨(some 4), .mov (.t 0), none⟩,
     ⟨(some 5), .bin .leq .num (.c (.i .i32 0)) (.t 4), none⟩,
     ⟨(some 6), .mov (.t 5), none⟩,
     ⟨(some 7), .mov (.t 0), some (6, true)⟩,
     ⟨(some 8), .bin .lss .num (.t 7) (.c (.i .i32 55296)), some (6, true)⟩,
     ⟨(some 9), .pick (.t 6) (.t 8) (.c (.b false)), none⟩,
     ⟨(some 3), .mov (.t 9), none⟩])
   ((.cond (.t 3) ((.seq (.ops [⟨(some 2), .mov (.c (.b true)), none⟩])
    (.ret)))
    ((.seq (.ops [⟨(some 11), .mov (.t 0), none⟩,
      ⟨(some 12), .bin .lss .num (.c (.i .i32 57343)) (.t 11), none⟩,
      ⟨(some 13), .mov (.t 12), none⟩,
      ⟨(some 14), .mov (.t 0), some (13, true)⟩,
      ⟨(some 15), .bin .leq .num (.t 14) (.c (.i .i32 1114111)), some (13, true)⟩,
      ⟨(some 16), .pick (.t 13) (.t 15) (.c (.b false)), none⟩,
      ⟨(some 10), .mov (.t 16), none⟩])
    ((.cond (.t 10) ((.seq (.ops [⟨(some 2), .mov (.c (.b true)), none⟩])
     (.ret)))
     (.skip)))))))))))
  ((.seq (.ops [⟨(some 2), .mov (.c (.b false)), none⟩])
  (.ret))))))⟩
def f_internal_strconv_log10Pow2 : Fn := ⟨1, [(.t 2)], true,
  (.seq (.ops [⟨(some 2), .mov (.c (.i .i64 0)), none⟩])
  ((.seq (.ops [⟨(some 3), .mov (.t 0), none⟩,
    ⟨(some 4), .bin .mul .num (.t 3) (.c (.i .i64 78913)), none⟩,
    ⟨(some 5), .bin .shr .num (.t 4) (.c (.i .u64 18)), none⟩,
    ⟨(some 2), .mov (.t 5), none⟩])
  (.ret))))⟩
def f_math_bits_Len64 : Fn := ⟨1, [(.t 2)], true,
  (.seq (.ops [⟨(some 2), .mov (.c (.i .i64 0)), none⟩])
  ((.seq ((.seq (.ops [⟨(some 3), .mov (.t 0), none⟩,
    ⟨(some 4), .bin .geq .num (.t 3) (.c (.i .u64 4294967296)), none⟩])
  ((.cond (.t 4) ((.seq (.ops [⟨(some 5), .mov (.t 0), none⟩,
     ⟨(some 6), .bin .shr .num (.t 5) (.c (.i .u64 32)), none⟩,
     ⟨(some 0), .mov (.t 6), none⟩])
   (.ops [⟨(some 2), .mov (.c (.i .i64 32)), none⟩])))
   (.skip)))))
  ((.seq ((.seq (.ops [⟨(some 7), .mov (.t 0), none⟩,
    ⟨(some 8), .bin .geq .num (.t 7) (.c (.i .u64 65536)), none⟩])
  ((.cond (.t 8) ((.seq (.ops [⟨(some 9), .mov (.t 0), none⟩,
     ⟨(some 10), .bin .shr .num (.t 9) (.c (.i .u64 16)), none⟩,
     ⟨(some 0), .mov (.t 10), none⟩])
   (.ops [⟨(some 11), .mov (.t 2), none⟩,
     ⟨(some 12), .bin .add .num (.t 11) (.c (.i .i64 16)), none⟩,
     ⟨(some 2), .mov (.t 12), none⟩])))
   (.skip)))))
  ((.seq ((.seq (.ops [⟨(some 13), .mov (.t 0), none⟩,
    ⟨(some 14), .bin .geq .num (.t 13) (.c (.i .u64 256)), none⟩])
  ((.cond (.t 14) ((.seq (.ops [⟨(some 15), .mov (.t 0), none⟩,
     ⟨(some 16), .bin .shr .num (.t 15) (.c (.i .u64 8)), none⟩,
     ⟨(some 0), .mov (.t 16), none⟩])
   (.ops [⟨(some 17), .mov (.t 2), none⟩,
     ⟨(some 18), .bin .add .num (.t 17) (.c (.i .i64 8)), none⟩,
     ⟨(some 2), .mov (.t 18), none⟩])))
   (.skip)))))
  ((.seq (.ops [⟨(some 19), .mov (.t 2), none⟩,
    ⟨(some 20), .mov (.t 0), none⟩,
    ⟨(some 21), .conv .u8 (.t 20), none⟩,
    ⟨(some 22), .index (.c (.s [0, 1, 2, 2, 3, 3, 3, 3, 4, 4, 4, 4, 4, 4, 4, 4, 5, 5, 5, 5, 5, 5, 5, 5, 5, 5, 5, 5, 5, 5, 5, 5, 6, 6, 6, 6, 6, 6, 6, 6, 6, 6, 6, 6, 6, 6, 6, 6, 6, 6, 6, 6, 6, 6, 6, 6, 6, 6, 6, 6, 6, 6, 6, 6, 7, 7, 7, 7, 7, 7, 7, 7, 7, 7, 7, 7, 7, 7, 7, 7, 7, 7, 7, 7, 7, 7, 7, 7, 7, 7, 7, 7, 7, 7, 7, 7, 7, 7, 7, 7, 7, 7, 7, 7, 7, 7, 7, 7, 7, 7, 7, 7, 7, 7, 7, 7, 7, 7, 7, 7, 7, 7, 7, 7, 7, 7, 7, 7, 8, 8, 8, 8, 8, 8, 8, 8, 8, 8, 8, 8, 8, 8, 8, 8, 8, 8, 8, 8, 8, 8, 8, 8, 8, 8, 8, 8, 8, 8, 8, 8, 8, 8, 8, 8, 8, 8, 8, 8, 8, 8, 8, 8, 8, 8, 8, 8, 8, 8, 8, 8, 8, 8, 8, 8, 8, 8, 8, 8, 8, 8, 8, 8, 8, 8, 8, 8, 8, 8, 8, 8, 8, 8, 8, 8, 8, 8, 8, 8, 8, 8, 8, 8, 8, 8, 8, 8, 8, 8, 8, 8, 8, 8, 8, 8, 8, 8, 8, 8, 8, 8, 8, 8, 8, 8, 8, 8, 8, 8, 8, 8, 8, 8, 8, 8, 8, 8, 8, 8, 8, 8, 8, 8, 8, 8, 8, 8])) (.t 21), none⟩,
    ⟨(some 23), .conv .i64 (.t 22), none⟩,
    ⟨(some 24), .bin .add .num (.t 19) (.t 23), none⟩,
    ⟨(some 2), .mov (.t 24), none⟩])
  (.ret))))))))))⟩
def f_internal_strconv_bool2_int_ : Fn := ⟨1, [(.t 2)], true,
  (.seq (.ops [⟨(some 2), .mov (.c (.i .i64 0)), none⟩])
  ((.seq ((.seq (.ops [⟨(some 3), .mov (.t 0), none⟩])
  ((.cond (.t 3) ((.seq (.ops [⟨(some 2), .mov (.c (.i .i64 1)), none⟩])
   (.ret)))
   (.skip)))))
  ((.seq (.ops [⟨(some 2), .mov (.c (.i .i64 0)), none⟩])
  (.ret))))))⟩
def f_internal_strconv_isPowerOfTwo : Fn := ⟨1, [(.t 2)], true,
  (.seq (.ops [⟨(some 2), .mov (.c (.b false)), none⟩])
  ((.seq (.ops [⟨(some 3), .mov (.t 0), none⟩,
    ⟨(some 4), .mov (.t 0), none⟩,
    ⟨(some 5), .bin .sub .num (.t 4) (.c (.i .i64 1)), none⟩,
    ⟨(some 6), .bin .and .num (.t 3) (.t 5), none⟩,
    ⟨(some 7), .bin .eql .num (.t 6) (.c (.i .i64 0)), none⟩,
    ⟨(some 2), .mov (.t 7), none⟩])
  (.ret))))⟩
def f_math_bits_TrailingZeros : Fn := ⟨1, [(.t 2)], true,
  (.seq (.ops [⟨(some 2), .mov (.c (.i .i64 0)), none⟩])
  ((.seq ((.cond (.c (.b false)) ((.seq (.ops [⟨(some 3), .mov (.t 0), none⟩,
     ⟨(some 4), .conv .u32 (.t 3), none⟩,
     ⟨(some 5), .call (.f 51) [(.t 4)], none⟩,
     ⟨(some 2), .mov (.mv 5), none⟩])
   (.ret)))
   (.skip)))
  ((.seq (.ops [⟨(some 6), .mov (.mv 0), none⟩,
    ⟨(some 7), .call (.f 52) [(.mv 6)], none⟩,
    ⟨(some 2), .mov (.mv 7), none⟩])
  (.ret))))))⟩
def f_strconv_bsearch___uint16_uint16__B0 : C :=
  (.seq ((.seq (.ops [⟨(some 13), .mov (.t 7), none⟩,
    ⟨(some 14), .mov (.t 8), none⟩,
    ⟨(some 15), .bin .lss .num (.t 13) (.t 14), none⟩])
  ((.cond (.t 15) (.skip)
   (.exit 0)))))
  ((.block 1 [0, 1, 6, 7, 8] ((.seq (.ops [⟨(some 16), .mov (.t 7), none⟩,
     ⟨(some 17), .mov (.t 8), none⟩,
     ⟨(some 18), .mov (.t 7), none⟩,
     ⟨(some 19), .bin .sub .num (.t 17) (.t 18), none⟩,
     ⟨(some 20), .bin .shr .num (.t 19) (.c (.i .u64 1)), none⟩,
     ⟨(some 21), .bin .add .num (.t 16) (.t 20), none⟩,
     ⟨(some 9), .mov (.t 21), none⟩])
   ((.seq (.ops [⟨(some 22), .mov (.t 0), none⟩,
     ⟨(some 23), .mov (.t 9), none⟩,
     ⟨(some 24), .indexAddr (.t 22) (.t 23) 1 none, none⟩,
     ⟨(some 25), .load false none ⟨1, false⟩ (.t 24), none⟩,
     ⟨(some 26), .mov (.t 1), none⟩,
     ⟨(some 27), .bin .lss .num (.t 25) (.t 26), none⟩])
   ((.cond (.t 27) (.ops [⟨(some 28), .mov (.t 9), none⟩,
      ⟨(some 29), .bin .add .num (.t 28) (.c (.i .i64 1)), none⟩,
      ⟨(some 7), .mov (.t 29), none⟩])
    (.ops [⟨(some 30), .mov (.t 9), none⟩,
      ⟨(some 8), .mov (.t 30), none⟩]))))))))))
def f_strconv_bsearch___uint16_uint16__L0 : C := .loop [0, 1, 6, 7, 8] f_strconv_bsearch___uint16_uint16__B0
noncomputable def f_strconv_bsearch___uint16_uint16__l0 (pg : Pg) (v0 v1 v6 v7 v8 : V) (H : List Obj) (lo : Nat) : Option (Ex × St) := exL pg f_strconv_bsearch___uint16_uint16__L0 ⟨[(0, v0), (1, v1), (6, v6), (7, v7), (8, v8)], H, lo⟩
theorem f_strconv_bsearch___uint16_uint16__l0_in {pg : Pg} {e : Env} {H : List Obj} {lo : Nat} : exL pg f_strconv_bsearch___uint16_uint16__L0 ⟨e, H, lo⟩ = f_strconv_bsearch___uint16_uint16__l0 pg (keepV (get 0 e)) (keepV (get 1 e)) (keepV (get 6 e)) (keepV (get 7 e)) (keepV (get 8 e)) H lo := loop_in
theorem f_strconv_bsearch___uint16_uint16__l0_eq {pg : Pg} {v0 v1 v6 v7 v8 : V} {H : List Obj} {lo : Nat} : f_strconv_bsearch___uint16_uint16__l0 pg v0 v1 v6 v7 v8 H lo = thenC pg (exL pg f_strconv_bsearch___uint16_uint16__B0 ⟨[(0, keepV v0), (1, keepV v1), (6, keepV v6), (7, keepV v7), (8, keepV v8)], H, lo⟩) f_strconv_bsearch___uint16_uint16__L0 := by
  unfold f_strconv_bsearch___uint16_uint16__l0 f_strconv_bsearch___uint16_uint16__L0; rw [exL_loop]; simp only [restrict_cons, restrict_nil, get_eq, get_ne, Nat.reduceEqDiff]
def f_strconv_bsearch___uint16_uint16__R1 : C :=
  (.seq (.opsD [(⟨(some 31), .mov (.t 7), none⟩, false, []),
    (⟨(some 32), .mov (.t 7), none⟩, false, []),
    (⟨(some 33), .mov (.t 6), none⟩, false, []),
    (⟨(some 34), .bin .lss .num (.t 32) (.t 33), none⟩, false, []),
    (⟨(some 35), .mov (.t 34), none⟩, false, []),
    (⟨(some 36), .mov (.t 0), some (35, true)⟩, false, []),
    (⟨(some 37), .mov (.t 7), some (35, true)⟩, false, []),
    (⟨(some 38), .indexAddr (.t 36) (.t 37) 1 none, some (35, true)⟩, false, []),
    (⟨(some 39), .load false none ⟨1, false⟩ (.t 38), some (35, true)⟩, false, []),
    (⟨(some 40), .mov (.t 1), some (35, true)⟩, false, []),
    (⟨(some 41), .bin .eql .num (.t 39) (.t 40), some (35, true)⟩, false, []),
    (⟨(some 42), .pick (.t 35) (.t 41) (.c (.b false)), none⟩, false, []),
    (⟨(some 4), .mov (.t 31), none⟩, false, []),
    (⟨(some 5), .mov (.t 42), none⟩, true, [])])
  (.ret))
def f_strconv_bsearch___uint16_uint16_ : Fn := ⟨2, [(.t 4), (.t 5)], false,
  (.seq (.ops [⟨(some 4), .mov (.c (.i .i64 0)), none⟩,
    ⟨(some 5), .mov (.c (.b false)), none⟩])
  ((.seq (.ops [⟨(some 10), .mov (.t 0), none⟩,
    ⟨(some 11), .bi .lenL [(.t 10)], none⟩,
    ⟨(some 6), .mov (.t 11), none⟩])
  ((.seq (.ops [⟨(some 12), .mov (.t 6), none⟩,
    ⟨(some 7), .mov (.c (.i .i64 0)), none⟩,
    ⟨(some 8), .mov (.t 12), none⟩])
  ((.seq ((.block 0 [0, 1, 6, 7] (f_strconv_bsearch___uint16_uint16__L0)))
  (f_strconv_bsearch___uint16_uint16__R1))))))))⟩
def f_strconv_bsearch___uint32_uint32__B0 : C :=
  (.seq ((.seq (.ops [⟨(some 13), .mov (.t 7), none⟩,
    ⟨(some 14), .mov (.t 8), none⟩,
    ⟨(some 15), .bin .lss .num (.t 13) (.t 14), none⟩])
  ((.cond (.t 15) (.skip)
   (.exit 0)))))
  ((.block 1 [0, 1, 6, 7, 8] ((.seq (.ops [⟨(some 16), .mov (.t 7), none⟩,
     ⟨(some 17), .mov (.t 8), none⟩,
     ⟨(some 18), .mov (.t 7), none⟩,
     ⟨(some 19), .bin .sub .num (.t 17) (.t 18), none⟩,
     ⟨(some 20), .bin .shr .num (.t 19) (.c (.i .u64 1)), none⟩,
     ⟨(some 21), .bin .add .num (.t 16) (.t 20), none⟩,
     ⟨(some 9), .mov (.t 21), none⟩])
   ((.seq (.ops [⟨(some 22), .mov (.t 0), none⟩,
     ⟨(some 23), .mov (.t 9), none⟩,
     ⟨(some 24), .indexAddr (.t 22) (.t 23) 1 none, none⟩,
     ⟨(some 25), .load false none ⟨1, false⟩ (.t 24), none⟩,
     ⟨(some 26), .mov (.t 1), none⟩,
     ⟨(some 27), .bin .lss .num (.t 25) (.t 26), none⟩])
   ((.cond (.t 27) (.ops [⟨(some 28), .mov (.t 9), none⟩,
      ⟨(some 29), .bin .add .num (.t 28) (.c (.i .i64 1)), none⟩,
      ⟨(some 7), .mov (.t 29), none⟩])
    (.ops [⟨(some 30), .mov (.t 9), none⟩,
      ⟨(some 8), .mov (.t 30), none⟩]))))))))))
def f_strconv_bsearch___uint32_uint32__L0 : C := .loop [0, 1, 6, 7, 8] f_strconv_bsearch___uint32_uint32__B0
noncomputable def f_strconv_bsearch___uint32_uint32__l0 (pg : Pg) (v0 v1 v6 v7 v8 : V) (H : List Obj) (lo : Nat) : Option (Ex × St) := exL pg f_strconv_bsearch___uint32_uint32__L0 ⟨[(0, v0), (1, v1), (6, v6), (7, v7), (8, v8)], H, lo⟩
theorem f_strconv_bsearch___uint32_uint32__l0_in {pg : Pg} {e : Env} {H : List Obj} {lo : Nat} : exL pg f_strconv_bsearch___uint32_uint32__L0 ⟨e, H, lo⟩ = f_strconv_bsearch___uint32_uint32__l0 pg (keepV (get 0 e)) (keepV (get 1 e)) (keepV (get 6 e)) (keepV (get 7 e)) (keepV (get 8 e)) H lo := loop_in
theorem f_strconv_bsearch___uint32_uint32__l0_eq {pg : Pg} {v0 v1 v6 v7 v8 : V} {H : List Obj} {lo : Nat} : f_strconv_bsearch___uint32_uint32__l0 pg v0 v1 v6 v7 v8 H lo = thenC pg (exL pg f_strconv_bsearch___uint32_uint32__B0 ⟨[(0, keepV v0), (1, keepV v1), (6, keepV v6), (7, keepV v7), (8, keepV v8)], H, lo⟩) f_strconv_bsearch___uint32_uint32__L0 := by
  unfold f_strconv_bsearch___uint32_uint32__l0 f_strconv_bsearch___uint32_uint32__L0; rw [exL_loop]; simp only [restrict_cons, restrict_nil, get_eq, get_ne, Nat.reduceEqDiff]
def f_strconv_bsearch___uint32_uint32__R1 : C :=
  (.seq (.opsD [(⟨(some 31), .mov (.t 7), none⟩, false, []),
    (⟨(some 32), .mov (.t 7), none⟩, false, []),
    (⟨(some 33), .mov (.t 6), none⟩, false, []),
    (⟨(some 34), .bin .lss .num (.t 32) (.t 33), none⟩, false, []),
    (⟨(some 35), .mov (.t 34), none⟩, false, []),
    (⟨(some 36), .mov (.t 0), some (35, true)⟩, false, []),
    (⟨(some 37), .mov (.t 7), some (35, true)⟩, false, []),
    (⟨(some 38), .indexAddr (.t 36) (.t 37) 1 none, some (35, true)⟩, false, []),
    (⟨(some 39), .load false none ⟨1, false⟩ (.t 38), some (35, true)⟩, false, []),
    (⟨(some 40), .mov (.t 1), some (35, true)⟩, false, []),
    (⟨(some 41), .bin .eql .num (.t 39) (.t 40), some (35, true)⟩, false, []),
    (⟨(some 42), .pick (.t 35) (.t 41) (.c (.b false)), none⟩, false, []),
    (⟨(some 4), .mov (.t 31), none⟩, false, []),
    (⟨(some 5), .mov (.t 42), none⟩, true, [])])
  (.ret))
def f_strconv_bsearch___uint32_uint32_ : Fn := ⟨2, [(.t 4), (.t 5)], false,
  (.seq (.ops [⟨(some 4), .mov (.c (.i .i64 0)), none⟩,
    ⟨(some 5), .mov (.c (.b false)), none⟩])
  ((.seq (.ops [⟨(some 10), .mov (.t 0), none⟩,
    ⟨(some 11), .bi .lenL [(.t 10)], none⟩,
    ⟨(some 6), .mov (.t 11), none⟩])
  ((.seq (.ops [⟨(some 12), .mov (.t 6), none⟩,
    ⟨(some 7), .mov (.c (.i .i64 0)), none⟩,
    ⟨(some 8), .mov (.t 12), none⟩])
  ((.seq ((.block 0 [0, 1, 6, 7] (f_strconv_bsearch___uint32_uint32__L0)))
  (f_strconv_bsearch___uint32_uint32__R1))))))))⟩
def f_unicode_utf8_appendRuneNonASCII : Fn := ⟨2, [(.t 4)], true,
  (.seq (.ops [⟨(some 4), .mov (.c .nil), none⟩])
  ((.seq (.ops [⟨(some 6), .mov (.t 1), none⟩,
    ⟨(some 7), .conv .u32 (.t 6), none⟩,
    ⟨(some 5), .mov (.mv 7), none⟩])
  ((.block 0 [4] ((.seq (.ops [⟨(some 12), .mov (.t 5), none⟩,
     ⟨(some 13), .bin .leq .num (.t 12) (.c (.i .u32 2047)), none⟩,
     ⟨(some 11), .mov (.t 13), none⟩])
   ((.cond (.t 11) ((.seq (.ops [⟨(some 14), .mov (.mv 0), none⟩,
      ⟨(some 15), .mov (.t 1), none⟩,
      ⟨(some 16), .bin .shr .num (.t 15) (.c (.i .u64 6)), none⟩,
      ⟨(some 17), .conv .u8 (.t 16), none⟩,
      ⟨(some 18), .bin .or .num (.c (.i .u8 192)) (.t 17), none⟩,
      ⟨(some 19), .mov (.t 1), none⟩,
      ⟨(some 20), .conv .u8 (.t 19), none⟩,
      ⟨(some 21), .bin .and .num (.t 20) (.c (.i .u8 63)), none⟩,
      ⟨(some 22), .bin .or .num (.c (.i .u8 128)) (.t 21), none⟩,
      ⟨(some 23), .buildSlice (.i .u8 0) 2 [(0, (.t 18)), (1, (.t 22))], none⟩,
      ⟨(some 24), .bi (.append 1 1) [(.mv 14), (.t 23)], none⟩,
      ⟨(some 4), .mov (.mv 24), none⟩])
    (.ret)))
    ((.seq ((.seq (.ops [⟨(some 26), .mov (.t 5), none⟩,
      ⟨(some 27), .bin .lss .num (.t 26) (.c (.i .u32 55296)), none⟩,
      ⟨(some 25), .mov (.t 27), none⟩])
    ((.cond (.t 25) (.skip)
     (.ops [⟨(some 28), .mov (.t 5), none⟩,
       ⟨(some 29), .bin .lss .num (.c (.i .u32 57343)) (.t 28), none⟩,
       ⟨(some 30), .mov (.t 29), none⟩,
       ⟨(some 31), .mov (.t 5), some (30, true)⟩,
       ⟨(some 32), .bin .leq .num (.t 31) (.c (.i .u32 65535)), some (30, true)⟩,
       ⟨(some 33), .pick (.t 30) (.t 32) (.c (.b false)), none⟩,
       ⟨(some 25), .mov (.t 33), none⟩])))))
    ((.cond (.t 25) ((.seq (.ops [⟨(some 34), .mov (.mv 0), none⟩,
       ⟨(some 35), .mov (.t 1), none⟩,
       ⟨(some 36), .bin .shr .num (.t 35) (.c (.i .u64 12)), none⟩,
       ⟨(some 37), .conv .u8 (.t 36), none⟩,
       ⟨(some 38), .bin .or .num (.c (.i .u8 224)) (.t 37), none⟩,
       ⟨(some 39), .mov (.t 1), none⟩,
       ⟨(some 40), .bin .shr .num (.t 39) (.c (.i .u64 6)), none⟩,
       ⟨(some 41), .conv .u8 (.t 40), none⟩,
       ⟨(some 42), .bin .and .num (.t 41) (.c (.i .u8 63)), none⟩,
       ⟨(some 43), .bin .or .num (.c (.i .u8 128)) (.t 42), none⟩,
       ⟨(some 44), .mov (.t 1), none⟩,
       ⟨(some 45), .conv .u8 (.t 44), none⟩,
       ⟨(some 46), .bin .and .num (.t 45) (.c (.i .u8 63)), none⟩,
       ⟨(some 47), .bin .or .num (.c (.i .u8 128)) (.t 46), none⟩,
       ⟨(some 48), .buildSlice (.i .u8 0) 3 [(0, (.t 38)), (1, (.t 43)), (2, (.t 47))], none⟩,
       ⟨(some 49), .bi (.append 1 1) [(.mv 34), (.t 48)], none⟩,
       ⟨(some 4), .mov (.mv 49), none⟩])
     (.ret)))
     ((.seq (.ops [⟨(some 51), .mov (.t 5), none⟩,
       ⟨(some 52), .bin .gtr .num (.t 51) (.c (.i .u32 65535)), none⟩,
       ⟨(some 53), .mov (.t 52), none⟩,
       ⟨(some 54), .mov (.t 5), some (53, true)⟩,
       ⟨(some 55), .bin .leq .num (.t 54) (.c (.i .u32 1114111)), some (53, true)⟩,
       ⟨(some 56), .pick (.t 53) (.t 55) (.c (.b false)), none⟩,
       ⟨(some 50), .mov (.t 56), none⟩])
     ((.cond (.t 50) ((.seq (.ops [⟨(some 57), .mov (.mv 0), none⟩,
        ⟨(some 58), .mov (.t 1), none⟩,
        ⟨(some 59), .bin .shr .num (.t 58) (.c (.i .u64 18)), none⟩,
        ⟨(some 60), .conv .u8 (.t 59), none⟩,
        ⟨(some 61), .bin .or .num (.c (.i .u8 240)) (.t 60), none⟩,
        ⟨(some 62), .mov (.t 1), none⟩,
        ⟨(some 63), .bin .shr .num (.t 62) (.c (.i .u64 12)), none⟩,
        ⟨(some 64), .conv .u8 (.t 63), none⟩,
        ⟨(some 65), .bin .and .num (.t 64) (.c (.i .u8 63)), none⟩,
        ⟨(some 66), .bin .or .num (.c (.i .u8 128)) (.t 65), none⟩,
        ⟨(some 67), .mov (.t 1), none⟩,
        ⟨(some 68), .bin .shr .num (.t 67) (.c (.i .u64 6)), none⟩,
        ⟨(some 69), .conv .u8 (.t 68), none⟩,
        ⟨(some 70), .bin .and .num (.t 69) (.c (.i .u8 63)), none⟩,
        ⟨(some 71), .bin .or .num (.c (.i .u8 128)) (.t 70), none⟩,
        ⟨(some 72), .mov (.t 1), none⟩,
        ⟨(some 73), .conv .u8 (.t 72), none⟩,
        ⟨(some 74), .bin .and .num (.t 73) (.c (.i .u8 63)), none⟩,
        ⟨(some 75), .bin .or .num (.c (.i .u8 128)) (.t 74), none⟩,
        ⟨(some 76), .buildSlice (.i .u8 0) 4 [(0, (.t 61)), (1, (.t 66)), (2, (.t 71)), (3, (.t 75))], none⟩,
        ⟨(some 77), .bi (.append 1 1) [(.mv 57), (.t 76)], none⟩,
        ⟨(some 4), .mov (.mv 77), none⟩])
      (.ret)))
      ((.seq (.ops [⟨(some 8), .mov (.mv 0), none⟩,
        ⟨(some 9), .buildSlice (.i .u8 0) 3 [(0, (.c (.i .u8 239))), (1, (.c (.i .u8 191))), (2, (.c (.i .u8 189)))], none⟩,
        ⟨(some 10), .bi (.append 1 1) [(.mv 8), (.t 9)], none⟩,
        ⟨(some 4), .mov (.mv 10), none⟩])
      (.ret))))))))))))))))))))⟩
def f_math_bits_TrailingZeros32 : Fn := ⟨1, [(.t 2)], true,
  (.seq (.ops [⟨(some 2), .mov (.c (.i .i64 0)), none⟩])
  ((.seq ((.seq (.ops [⟨(some 3), .mov (.t 0), none⟩,
    ⟨(some 4), .bin .eql .num (.t 3) (.c (.i .u32 0)), none⟩])
  ((.cond (.t 4) ((.seq (.ops [⟨(some 2), .mov (.c (.i .i64 32)), none⟩])
   (.ret)))
   (.skip)))))
  ((.seq (.ops [⟨(some 5), .mov (.t 0), none⟩,
    ⟨(some 6), .mov (.t 0), none⟩,
    ⟨(some 7), .un .neg (.t 6), none⟩,
    ⟨(some 8), .bin .and .num (.t 5) (.t 7), none⟩,
    ⟨(some 9), .bin .mul .num (.t 8) (.c (.i .u32 125613361)), none⟩,
    ⟨(some 10), .bin .shr .num (.t 9) (.c (.i .u64 27)), none⟩,
    ⟨(some 11), .indexAddr (.g 9 (glD 9)) (.t 10) 1 (some 32), none⟩,
    ⟨(some 12), .load false none ⟨1, false⟩ (.t 11), none⟩,
    ⟨(some 13), .conv .i64 (.t 12), none⟩,
    ⟨(some 2), .mov (.mv 13), none⟩])
  (.ret))))))⟩
def f_math_bits_TrailingZeros64 : Fn := ⟨1, [(.t 2)], true,
  (.seq (.ops [⟨(some 2), .mov (.c (.i .i64 0)), none⟩])
  ((.seq ((.seq (.ops [⟨(some 3), .mov (.t 0), none⟩,
    ⟨(some 4), .bin .eql .num (.t 3) (.c (.i .u64 0)), none⟩])
  ((.cond (.t 4) ((.seq (.ops [⟨(some 2), .mov (.c (.i .i64 64)), none⟩])
   (.ret)))
   (.skip)))))
  ((.seq (.ops [⟨(some 5), .mov (.t 0), none⟩,
    ⟨(some 6), .mov (.t 0), none⟩,
    ⟨(some 7), .un .neg (.t 6), none⟩,
    ⟨(some 8), .bin .and .num (.t 5) (.t 7), none⟩,
    ⟨(some 9), .bin .mul .num (.t 8) (.c (.i .u64 285870213051353865)), none⟩,
    ⟨(some 10), .bin .shr .num (.t 9) (.c (.i .u64 58)), none⟩,
    ⟨(some 11), .indexAddr (.g 10 (glD 10)) (.t 10) 1 (some 64), none⟩,
    ⟨(some 12), .load false none ⟨1, false⟩ (.t 11), none⟩,
    ⟨(some 13), .conv .i64 (.t 12), none⟩,
    ⟨(some 2), .mov (.mv 13), none⟩])
  (.ret))))))⟩
def f_gosem_cut_vars : Fn := ⟨0, [], false,
  (.seq (.ops [⟨(some 0), .build [(.i .u8 0), (.i .u8 0), (.i .u8 0), (.i .u8 0), (.i .u8 0), (.i .u8 0), (.i .u8 0), (.i .u8 0), (.i .u8 0), (.i .u8 0), (.i .u8 0), (.i .u8 0), (.i .u8 0), (.i .u8 0), (.i .u8 0), (.i .u8 0), (.i .u8 0), (.i .u8 0), (.i .u8 0), (.i .u8 0), (.i .u8 0), (.i .u8 0), (.i .u8 0), (.i .u8 0), (.i .u8 0), (.i .u8 0), (.i .u8 0), (.i .u8 0), (.i .u8 0), (.i .u8 0), (.i .u8 0), (.i .u8 0)] [(0, 1, (.c (.i .u8 0))), (1, 1, (.c (.i .u8 1))), (2, 1, (.c (.i .u8 28))), (3, 1, (.c (.i .u8 2))), (4, 1, (.c (.i .u8 29))), (5, 1, (.c (.i .u8 14))), (6, 1, (.c (.i .u8 24))), (7, 1, (.c (.i .u8 3))), (8, 1, (.c (.i .u8 30))), (9, 1, (.c (.i .u8 22))), (10, 1, (.c (.i .u8 20))), (11, 1, (.c (.i .u8 15))), (12, 1, (.c (.i .u8 25))), (13, 1, (.c (.i .u8 17))), (14, 1, (.c (.i .u8 4))), (15, 1, (.c (.i .u8 8))), (16, 1, (.c (.i .u8 31))), (17, 1, (.c (.i .u8 27))), (18, 1, (.c (.i .u8 13))), (19, 1, (.c (.i .u8 23))), (20, 1, (.c (.i .u8 21))), (21, 1, (.c (.i .u8 19))), (22, 1, (.c (.i .u8 16))), (23, 1, (.c (.i .u8 7))), (24, 1, (.c (.i .u8 26))), (25, 1, (.c (.i .u8 12))), (26, 1, (.c (.i .u8 18))), (27, 1, (.c (.i .u8 6))), (28, 1, (.c (.i .u8 11))), (29, 1, (.c (.i .u8 5))), (30, 1, (.c (.i .u8 10))), (31, 1, (.c (.i .u8 9)))], none⟩,
    ⟨none, .store none ⟨32, true⟩ (.g 9 (glD 9)) (.t 0), none⟩])
  ((.seq (.ops [⟨(some 1), .build [(.i .u8 0), (.i .u8 0), (.i .u8 0), (.i .u8 0), (.i .u8 0), (.i .u8 0), (.i .u8 0), (.i .u8 0), (.i .u8 0), (.i .u8 0), (.i .u8 0), (.i .u8 0), (.i .u8 0), (.i .u8 0), (.i .u8 0), (.i .u8 0), (.i .u8 0), (.i .u8 0), (.i .u8 0), (.i .u8 0), (.i .u8 0), (.i .u8 0), (.i .u8 0), (.i .u8 0), (.i .u8 0), (.i .u8 0), (.i .u8 0), (.i .u8 0), (.i .u8 0), (.i .u8 0), (.i .u8 0), (.i .u8 0), (.i .u8 0), (.i .u8 0), (.i .u8 0), (.i .u8 0), (.i .u8 0), (.i .u8 0), (.i .u8 0), (.i .u8 0), (.i .u8 0), (.i .u8 0), (.i .u8 0), (.i .u8 0), (.i .u8 0), (.i .u8 0), (.i .u8 0), (.i .u8 0), (.i .u8 0), (.i .u8 0), (.i .u8 0), (.i .u8 0), (.i .u8 0), (.i .u8 0), (.i .u8 0), (.i .u8 0), (.i .u8 0), (.i .u8 0), (.i .u8 0), (.i .u8 0), (.i .u8 0), (.i .u8 0), (.i .u8 0), (.i .u8 0)] [(0, 1, (.c (.i .u8 0))), (1, 1, (.c (.i .u8 1))), (2, 1, (.c (.i .u8 56))), (3, 1, (.c (.i .u8 2))), (4, 1, (.c (.i .u8 57))), (5, 1, (.c (.i .u8 49))), (6, 1, (.c (.i .u8 28))), (7, 1, (.c (.i .u8 3))), (8, 1, (.c (.i .u8 61))), (9, 1, (.c (.i .u8 58))), (10, 1, (.c (.i .u8 42))), (11, 1, (.c (.i .u8 50))), (12, 1, (.c (.i .u8 38))), (13, 1, (.c (.i .u8 29))), (14, 1, (.c (.i .u8 17))), (15, 1, (.c (.i .u8 4))), (16, 1, (.c (.i .u8 62))), (17, 1, (.c (.i .u8 47))), (18, 1, (.c (.i .u8 59))), (19, 1, (.c (.i .u8 36))), (20, 1, (.c (.i .u8 45))), (21, 1, (.c (.i .u8 43))), (22, 1, (.c (.i .u8 51))), (23, 1, (.c (.i .u8 22))), (24, 1, (.c (.i .u8 53))), (25, 1, (.c (.i .u8 39))), (26, 1, (.c (.i .u8 33))), (27, 1, (.c (.i .u8 30))), (28, 1, (.c (.i .u8 24))), (29, 1, (.c (.i .u8 18))), (30, 1, (.c (.i .u8 12))), (31, 1, (.c (.i .u8 5))), (32, 1, (.c (.i .u8 63))), (33, 1, (.c (.i .u8 55))), (34, 1, (.c (.i .u8 48))), (35, 1, (.c (.i .u8 27))), (36, 1, (.c (.i .u8 60))), (37, 1, (.c (.i .u8 41))), (38, 1, (.c (.i .u8 37))), (39, 1, (.c (.i .u8 16))), (40, 1, (.c (.i .u8 46))), (41, 1, (.c (.i .u8 35))), (42, 1, (.c (.i .u8 44))), (43, 1, (.c (.i .u8 21))), (44, 1, (.c (.i .u8 52))), (45, 1, (.c (.i .u8 32))), (46, 1, (.c (.i .u8 23))), (47, 1, (.c (.i .u8 11))), (48, 1, (.c (.i .u8 54))), (49, 1, (.c (.i .u8 26))), (50, 1, (.c (.i .u8 40))), (51, 1, (.c (.i .u8 15))), (52, 1, (.c (.i .u8 34))), (53, 1, (.c (.i .u8 20))), (54, 1, (.c (.i .u8 31))), (55, 1, (.c (.i .u8 10))), (56, 1, (.c (.i .u8 25))), (57, 1, (.c (.i .u8 14))), (58, 1, (.c (.i .u8 19))), (59, 1, (.c (.i .u8 9))), (60, 1, (.c (.i .u8 13))), (61, 1, (.c (.i .u8 8))), (62, 1, (.c (.i .u8 7))), (63, 1, (.c (.i .u8 6)))], none⟩,
    ⟨none, .store none ⟨64, true⟩ (.g 10 (glD 10)) (.t 1), none⟩])
  ((.seq (.ops [⟨(some 2), .build [(.i .u64 0), (.i .u64 0), (.i .u64 0), (.i .u64 0), (.i .u64 0), (.i .u64 0), (.i .u64 0), (.i .u64 0), (.i .u64 0), (.i .u64 0), (.i .u64 0), (.i .u64 0), (.i .u64 0), (.i .u64 0), (.i .u64 0), (.i .u64 0), (.i .u64 0), (.i .u64 0), (.i .u64 0), (.i .u64 0)] [(0, 1, (.c (.i .u64 1))), (1, 1, (.c (.i .u64 10))), (2, 1, (.c (.i .u64 100))), (3, 1, (.c (.i .u64 1000))), (4, 1, (.c (.i .u64 10000))), (5, 1, (.c (.i .u64 100000))), (6, 1, (.c (.i .u64 1000000))), (7, 1, (.c (.i .u64 10000000))), (8, 1, (.c (.i .u64 100000000))), (9, 1, (.c (.i .u64 1000000000))), (10, 1, (.c (.i .u64 10000000000))), (11, 1, (.c (.i .u64 100000000000))), (12, 1, (.c (.i .u64 1000000000000))), (13, 1, (.c (.i .u64 10000000000000))), (14, 1, (.c (.i .u64 100000000000000))), (15, 1, (.c (.i .u64 1000000000000000))), (16, 1, (.c (.i .u64 10000000000000000))), (17, 1, (.c (.i .u64 100000000000000000))), (18, 1, (.c (.i .u64 1000000000000000000))), (19, 1, (.c (.i .u64 10000000000000000000)))], none⟩,
    ⟨none, .store none ⟨20, true⟩ (.g 1 (glD 1)) (.t 2), none⟩])
  (.ops [⟨(some 3), .build [(.i .u8 0), (.i .u8 0)] [(0, 1, (.c (.i .u8 128))), (1, 1, (.c (.i .u8 191)))], none⟩,
    ⟨(some 4), .build [(.i .u8 0), (.i .u8 0)] [(0, 1, (.c (.i .u8 160))), (1, 1, (.c (.i .u8 191)))], none⟩,
    ⟨(some 5), .build [(.i .u8 0), (.i .u8 0)] [(0, 1, (.c (.i .u8 128))), (1, 1, (.c (.i .u8 159)))], none⟩,
    ⟨(some 6), .build [(.i .u8 0), (.i .u8 0)] [(0, 1, (.c (.i .u8 144))), (1, 1, (.c (.i .u8 191)))], none⟩,
    ⟨(some 7), .build [(.i .u8 0), (.i .u8 0)] [(0, 1, (.c (.i .u8 128))), (1, 1, (.c (.i .u8 143)))], none⟩,
    ⟨(some 8), .build [(.i .u8 0), (.i .u8 0), (.i .u8 0), (.i .u8 0), (.i .u8 0), (.i .u8 0), (.i .u8 0), (.i .u8 0), (.i .u8 0), (.i .u8 0), (.i .u8 0), (.i .u8 0), (.i .u8 0), (.i .u8 0), (.i .u8 0), (.i .u8 0), (.i .u8 0), (.i .u8 0), (.i .u8 0), (.i .u8 0), (.i .u8 0), (.i .u8 0), (.i .u8 0), (.i .u8 0), (.i .u8 0), (.i .u8 0), (.i .u8 0), (.i .u8 0), (.i .u8 0), (.i .u8 0), (.i .u8 0), (.i .u8 0)] [(0, 2, (.t 3)), (2, 2, (.t 4)), (4, 2, (.t 5)), (6, 2, (.t 6)), (8, 2, (.t 7))], none⟩,
    ⟨none, .stuck, none⟩]))))))⟩
def prog (n : Nat) : Option Fn :=
  bif Nat.beq n 2 then some f_gosem_cut_init else
  bif Nat.beq n 3 then some f_waferlaw18_FingerParts else
  bif Nat.beq n 4 then some f_waferlaw18_known else
  bif Nat.beq n 5 then some f_waferref11_Basic else
  bif Nat.beq n 6 then some f_waferref11_Arr else
  bif Nat.beq n 7 then some f_finger_Text else
  bif Nat.beq n 8 then some f_waferlaw18_part else
  bif Nat.beq n 9 then some f_finger_Sum else
  bif Nat.beq n 10 then some f_finger_Of else
  bif Nat.beq n 11 then some f_finger_Text_1 else
  bif Nat.beq n 12 then some f_finger_constant else
  bif Nat.beq n 13 then some f_types_Text else
  bif Nat.beq n 14 then some f_finger_record else
  bif Nat.beq n 15 then some f_finger_procedure else
  bif Nat.beq n 16 then some f_strings_Join else
  bif Nat.beq n 17 then some f_waferref11_Num else
  bif Nat.beq n 18 then some f_strconv_Quote else
  bif Nat.beq n 19 then some f_strconv_Itoa else
  bif Nat.beq n 20 then some f_finger_params else
  bif Nat.beq n 21 then some f_strings_Builder_Grow else
  bif Nat.beq n 22 then some f_strings_Builder_WriteString else
  bif Nat.beq n 23 then some f_strings_Builder_String else
  bif Nat.beq n 24 then some f_strconv_quoteWith else
  bif Nat.beq n 25 then some f_internal_strconv_Itoa else
  bif Nat.beq n 26 then some f_strings_Builder_copyCheck else
  bif Nat.beq n 27 then some f_strings_Builder_grow else
  bif Nat.beq n 28 then some f_strconv_appendQuotedWith else
  bif Nat.beq n 29 then some f_internal_strconv_FormatInt else
  bif Nat.beq n 32 then some f_unicode_utf8_DecodeRuneInString else
  bif Nat.beq n 33 then some f_strconv_appendEscapedRune else
  bif Nat.beq n 34 then some f_internal_strconv_small else
  bif Nat.beq n 35 then some f_internal_strconv_numDigits else
  bif Nat.beq n 36 then some f_internal_strconv_formatBase10 else
  bif Nat.beq n 37 then some f_internal_strconv_formatBits else
  bif Nat.beq n 38 then some f_unicode_utf8_decodeRuneInStringSlow else
  bif Nat.beq n 39 then some f_strconv_IsPrint else
  bif Nat.beq n 40 then some f_strconv_isInGraphicList else
  bif Nat.beq n 41 then some f_unicode_utf8_AppendRune else
  bif Nat.beq n 42 then some f_unicode_utf8_ValidRune else
  bif Nat.beq n 43 then some f_internal_strconv_log10Pow2 else
  bif Nat.beq n 44 then some f_math_bits_Len64 else
  bif Nat.beq n 45 then some f_internal_strconv_bool2_int_ else
  bif Nat.beq n 46 then some f_internal_strconv_isPowerOfTwo else
  bif Nat.beq n 47 then some f_math_bits_TrailingZeros else
  bif Nat.beq n 48 then some f_strconv_bsearch___uint16_uint16_ else
  bif Nat.beq n 49 then some f_strconv_bsearch___uint32_uint32_ else
  bif Nat.beq n 50 then some f_unicode_utf8_appendRuneNonASCII else
  bif Nat.beq n 51 then some f_math_bits_TrailingZeros32 else
  bif Nat.beq n 52 then some f_math_bits_TrailingZeros64 else
  bif Nat.beq n 82 then some f_gosem_cut_vars else none
end W

/-
  More equations: nil slices, shifts, bits, bytes.
-/
set_option linter.unusedSimpArgs false
set_option linter.unusedVariables false
namespace W
open Go (IntKind BinOp UnOp)

theorem ownV_oslT {xs : List D} : ownV true (.osl xs) = some (.osl xs) := (rfl)
theorem ownV_tup {own : Bool} {xs : List V} (h : own = true) : ownV own (.tup xs) = some (.tup xs) := by subst h; rfl
theorem isC_t {n : Nat} : isC (.t n) = false := (rfl)
theorem isC_c {x : D} : isC (.c x) = true := (rfl)
theorem isC_mv {n : Nat} : isC (.mv n) = false := (rfl)
theorem isC_f {n : Nat} : isC (.f n) = false := (rfl)
theorem eql_nil_nil : binV .eql .slice true (.d .nil) (.d .nil) = some (.d (.b true)) := (rfl)
theorem eql_nil_sl {xs : List D} : binV .eql .slice true (.d (.sl xs)) (.d .nil) = some (.d (.b false)) := (rfl)
theorem neq_nil_nil : binV .neq .slice true (.d .nil) (.d .nil) = some (.d (.b false)) := (rfl)
theorem neq_nil_sl {xs : List D} : binV .neq .slice true (.d (.sl xs)) (.d .nil) = some (.d (.b true)) := (rfl)
theorem eql_nm {i : Nat} : binV .eql .map true (.map i) (.d .nm) = some (.d (.b false)) := (rfl)
theorem bin_shl {c : Bool} {k k' : IntKind} {m n : Int} (h : (0 ≤ n) = True) : binV .shl .num c (.d (.i k m)) (.d (.i k' n)) = some (.d (.i k (wr k (m * 2 ^ (min n.toNat k.bits))))) := by
  have h : 0 ≤ n := by rw [h]; trivial
  simp [binV, isShift, shiftInt, leI_d, h]
theorem bin_shr {c : Bool} {k k' : IntKind} {m n : Int} (h : (0 ≤ n) = True) : binV .shr .num c (.d (.i k m)) (.d (.i k' n)) = some (.d (.i k (m.fdiv (2 ^ (min n.toNat k.bits))))) := by
  have h : 0 ≤ n := by rw [h]; trivial
  simp [binV, isShift, shiftInt, leI_d, h]
def orI (k : IntKind) (a b : Int) : Int := k.wrap ((BitVec.ofInt k.bits a) ||| (BitVec.ofInt k.bits b)).toNat
def andI (k : IntKind) (a b : Int) : Int := k.wrap ((BitVec.ofInt k.bits a) &&& (BitVec.ofInt k.bits b)).toNat
def xorI (k : IntKind) (a b : Int) : Int := k.wrap ((BitVec.ofInt k.bits a) ^^^ (BitVec.ofInt k.bits b)).toNat
theorem bin_or {c : Bool} {k : IntKind} {m n : Int} : binV .or .num c (.d (.i k m)) (.d (.i k n)) = some (.d (.i k (orI k m n))) := by rw [bin_i rfl]; rfl
theorem bin_and {c : Bool} {k : IntKind} {m n : Int} : binV .and .num c (.d (.i k m)) (.d (.i k n)) = some (.d (.i k (andI k m n))) := by rw [bin_i rfl]; rfl
theorem bin_xor {c : Bool} {k : IntKind} {m n : Int} : binV .xor .num c (.d (.i k m)) (.d (.i k n)) = some (.d (.i k (xorI k m n))) := by rw [bin_i rfl]; rfl

def killV (s : Nat) (v : V) : V := match v with | .lp t o => bif Nat.beq t s then .undef else .lp t o | v => v
theorem killLp_nil {s : Nat} : killLp s [] = [] := (rfl)
theorem killLp_cons {s n : Nat} {v : V} {e : Env} : killLp s ((n, v) :: e) = (n, killV s v) :: killLp s e := (rfl)
theorem killV_d {s : Nat} {x : D} : killV s (.d x) = .d x := (rfl)
theorem killV_osl {s : Nat} {x : List D} : killV s (.osl x) = .osl x := (rfl)
theorem killV_ptr {s i o : Nat} : killV s (.ptr i o) = .ptr i o := (rfl)
theorem killV_map {s i : Nat} : killV s (.map i) = .map i := (rfl)
theorem killV_box {s : Nat} {x : List V} : killV s (.box x) = .box x := (rfl)
theorem killV_cp {s : Nat} {x : D} : killV s (.cp x) = .cp x := (rfl)
theorem killV_agg {s : Nat} {x : List V} : killV s (.agg x) = .agg x := (rfl)
theorem killV_tup {s : Nat} {x : List V} : killV s (.tup x) = .tup x := (rfl)
theorem killV_fn {s i : Nat} {x y : List V} : killV s (.fn i x y) = .fn i x y := (rfl)
theorem killV_ifc {s i : Nat} {x : V} : killV s (.ifc i x) = .ifc i x := (rfl)
theorem killV_undef {s : Nat} : killV s .undef = .undef := (rfl)
theorem killV_lp {s t o : Nat} : killV s (.lp t o) = bif Nat.beq t s then .undef else .lp t o := (rfl)
theorem killV_rs {s a b c d : Nat} : killV s (.rs a b c d) = .rs a b c d := (rfl)
theorem killV_slV {α : Type} {s : Nat} {e : α → D} {L : List α} : killV s (slV e L) = slV e L := by cases L <;> rfl
theorem setCells_all {cs vs : List V} (h : (vs.length = cs.length) = True) : setCells cs 0 vs = some vs := by
  have h : vs.length = cs.length := by rw [h]; trivial
  simp [setCells, h]
theorem setCells_2 {cs : List V} {o : Nat} {v w : V} (h : (o + 1 < cs.length) = True) : setCells cs o [v, w] = some ((cs.set o v).set (o + 1) w) := by
  have h : o + 1 < cs.length := by rw [h]; trivial
  have : o + [v, w].length ≤ cs.length := by simp; omega
  rw [setCells, if_pos this]
  congr 1
  apply List.ext_getElem?
  intro j
  simp only [List.getElem?_append, List.length_append, List.length_take, List.length_cons, List.length_nil, List.getElem?_drop, List.getElem?_set, List.length_set, List.getElem?_take]
  rcases Nat.lt_trichotomy j o with hj | hj | hj
  · rw [if_pos (by omega), if_pos (by omega), if_pos (by omega), if_neg (by omega), if_neg (by omega)]
  · subst hj
    rw [if_pos (by omega), if_neg (by omega), if_neg (by omega), if_pos rfl, if_pos (by omega)]
    have : j - min j cs.length = 0 := by omega
    simp [this]
  · by_cases hj2 : j = o + 1
    · subst hj2
      rw [if_pos (by omega), if_neg (by omega), if_pos rfl, if_pos (by omega)]
      have : o + 1 - min o cs.length = 1 := by omega
      simp [this]
    · rw [if_neg (by omega), if_neg (by omega), if_neg (by omega)]
      congr 1; omega
def cpV (r : Option D) : Option V := match r with | some y => bif y.one then some (.cp y) else none | none => none
theorem faV_cpc {cs : List D} {off : Nat} : faV (.cp (.agg cs)) off ⟨1, false⟩ = cpV (cs[off]?) := by
  simp only [faV, D.part, cpV]
  cases h : cs[off]? with
  | none => simp [h]
  | some y => cases hy : y.one <;> simp [h, hy]
theorem cpV_i {k : IntKind} {n : Int} : cpV (some (.i k n)) = some (.cp (.i k n)) := (rfl)
theorem cpV_s {x : List Nat} : cpV (some (.s x)) = some (.cp (.s x)) := (rfl)
theorem cpV_b {x : Bool} : cpV (some (.b x)) = some (.cp (.b x)) := (rfl)
theorem cpV_sl {x : List D} : cpV (some (.sl x)) = some (.cp (.sl x)) := (rfl)
theorem cpV_nil : cpV (some .nil) = some (.cp .nil) := (rfl)
theorem cpV_slD {α : Type} {e : α → D} {L : List α} : cpV (some (slD e L)) = some (.cp (slD e L)) := by cases L <;> rfl
theorem resultV_cell {own : Bool} {st : St} {n : Nat} {l : L} : resultV own st (.cell n l) = boxV l 0 (get n st.env) := (rfl)
theorem boxK_alloc {b : Bool} {cs : List D} : boxK (.alloc b cs) = b := (rfl)
theorem boxK_box {b : Bool} {x : O} : boxK (.box b x) = b := (rfl)
def boxD (r : Bool) (n : Nat) (cs : List V) (st : St) : Option St := bif r then some { st with env := (n, .box cs) :: st.env } else none
theorem putD_bx {no : List Nat} {n : Nat} {cs : List V} {st : St} : putD true no (some n) (.box cs) st = boxD (noLp n st.env) n cs st := by
  simp only [putD, boxD, Bool.true_and]
theorem boxD_t {n : Nat} {cs : List V} {st : St} : boxD true n cs st = some ⟨(n, .box cs) :: st.env, st.H, st.lo⟩ := (rfl)
def lpD (r : Bool) (n m o : Nat) (st : St) : Option St := bif r then none else some { st with env := (n, .lp m o) :: st.env }
theorem putD_lp {bx : Bool} {no : List Nat} {n m o : Nat} {st : St} : putD bx no (some n) (.lp m o) st = lpD (hasNat m no) n m o st := (rfl)
theorem lpD_f {n m o : Nat} {st : St} : lpD false n m o st = some ⟨(n, .lp m o) :: st.env, st.H, st.lo⟩ := (rfl)
theorem hasNat_nil {n : Nat} : hasNat n [] = false := (rfl)
theorem hasNat_cons {n m : Nat} {l : List Nat} : hasNat n (m :: l) = (Nat.beq n m || hasNat n l) := (rfl)
theorem takeV_rs {i o n c : Nat} : takeV (.rs i o n c) = .rs i o n c := (rfl)
theorem takeV_ptr {i o : Nat} : takeV (.ptr i o) = .ptr i o := (rfl)
theorem takeV_map {i : Nat} : takeV (.map i) = .map i := (rfl)
theorem takeV_cp {x : D} : takeV (.cp x) = .cp x := (rfl)
theorem takeV_lp {i o : Nat} : takeV (.lp i o) = .lp i o := (rfl)
theorem takeV_fn {i : Nat} {u w : List V} : takeV (.fn i u w) = .fn i u w := (rfl)
theorem takeV_ifc {t : Nat} {w : V} : takeV (.ifc t w) = .ifc t w := (rfl)
theorem takeV_agg {w : List V} : takeV (.agg w) = .agg w := (rfl)
theorem takeV_tup {w : List V} : takeV (.tup w) = .tup w := (rfl)
theorem putD_rs {bx : Bool} {no : List Nat} {n a b c d : Nat} {st : St} : putD bx no (some n) (.rs a b c d) st = some ⟨(n, .rs a b c d) :: st.env, st.H, st.lo⟩ := by cases bx <;> rfl
theorem putD_slV {α : Type} {bx : Bool} {no : List Nat} {n : Nat} {e : α → D} {L : List α} {st : St} : putD bx no (some n) (slV e L) st = some ⟨(n, slV e L) :: st.env, st.H, st.lo⟩ := by cases L <;> rfl
def noL (n : Nat) (v : V) : Bool := match v with | .lp m _ => !Nat.beq m n | _ => true
theorem noLp_nil {n : Nat} : noLp n [] = true := (rfl)
theorem noLp_c {n k : Nat} {v : V} {e : Env} : noLp n ((k, v) :: e) = (noL n v && noLp n e) := by cases v <;> rfl
theorem noL_d {n : Nat} {x : D} : noL n (.d x) = true := (rfl)
theorem noL_osl {n : Nat} {x : List D} : noL n (.osl x) = true := (rfl)
theorem noL_ptr {n i o : Nat} : noL n (.ptr i o) = true := (rfl)
theorem noL_map {n i : Nat} : noL n (.map i) = true := (rfl)
theorem noL_box {n : Nat} {x : List V} : noL n (.box x) = true := (rfl)
theorem noL_cp {n : Nat} {x : D} : noL n (.cp x) = true := (rfl)
theorem noL_agg {n : Nat} {x : List V} : noL n (.agg x) = true := (rfl)
theorem noL_tup {n : Nat} {x : List V} : noL n (.tup x) = true := (rfl)
theorem noL_fn {n i : Nat} {x y : List V} : noL n (.fn i x y) = true := (rfl)
theorem noL_ifc {n i : Nat} {x : V} : noL n (.ifc i x) = true := (rfl)
theorem noL_undef {n : Nat} : noL n .undef = true := (rfl)
theorem noL_rs {n a b c d : Nat} : noL n (.rs a b c d) = true := (rfl)
theorem noL_lp {n m o : Nat} : noL n (.lp m o) = !Nat.beq m n := (rfl)
theorem noL_slV {α : Type} {n : Nat} {e : α → D} {L : List α} : noL n (slV e L) = true := by cases L <;> rfl
/-- A byte. -/
def e8 (n : Nat) : D := .i .u8 (n : Int)
theorem e8_cells (n : Nat) : (e8 n).cells.length = 1 := rfl

theorem wrap_u8 (n : Nat) (h : n < 256) : IntKind.wrap .u8 (n : Int) = (n : Int) := by
  simp [IntKind.wrap, IntKind.bits, IntKind.signed]; omega
theorem or_more {n : Nat} (h : n < 128) : orI .u8 (n : Int) 128 = ((n + 128 : Nat) : Int) := by
  have key : ∀ m : Fin 128, orI .u8 ((m.val : Nat) : Int) 128 = ((m.val + 128 : Nat) : Int) := by decide +kernel
  exact key ⟨n, h⟩
theorem conv_u8 (n : Nat) : wr .u8 (n : Int) = ((n % 256 : Nat) : Int) := by
  by_cases h : n ≤ 255
  · rw [wr_u8 (by omega) (by omega), Nat.mod_eq_of_lt (by omega)]
  · show (bif Nat.ble n 255 then (Int.ofNat n) else IntKind.wrap .u8 (Int.ofNat n)) = _
    have : Nat.ble n 255 = false := by rw [ble_d]; simp; omega
    rw [this]
    simp [IntKind.wrap, IntKind.bits, IntKind.signed]
theorem or_more' {n : Nat} : orI .u8 ((n % 256 : Nat) : Int) 128 = ((n % 128 + 128 : Nat) : Int) := by
  have key : ∀ m : Fin 256, orI .u8 ((m.val : Nat) : Int) 128 = ((m.val % 128 + 128 : Nat) : Int) := by decide +kernel
  have := key ⟨n % 256, Nat.mod_lt _ (by omega)⟩
  simp only at this
  rw [this]
  omega
theorem shr7 (n : Nat) : Int.fdiv (n : Int) (2 ^ (min (7 : Int).toNat (IntKind.bits .u64))) = ((n / 128 : Nat) : Int) := by
  show Int.fdiv (n : Int) (2 ^ 7) = _
  rw [Int.fdiv_eq_ediv_of_nonneg _ (by omega)]
  omega
end W

/-
  What a value of the small semantics stands for in the model's memory; that this stays as memory grows.
-/
namespace W
open Go (World Value Addr IntKind Program TypeId FuncId)

/-- Who alone may write a block (or its unpublished part). -/
inductive Loc where
  | slot (n : Nat)
  | bblk (n : Nat)
  | bcell (n i : Nat)
  | oblk (id : Nat)
  | ocell (id i : Nat)
  | out
  deriving DecidableEq

structure Gh where
  n : Nat
  φ : Nat → Nat
  pub : Nat → Nat
  own : Nat → Option Loc

mutual
inductive RepD (pub : Nat → Nat) (w : World) : D → Value → Prop
  | b (x : Bool) : RepD pub w (.b x) (.bool x)
  | i (k : IntKind) (n : Int) : RepD pub w (.i k n) (.int k n)
  | s (t : List Nat) (x : ByteArray) (h : x.data.toList.map (·.toNat) = t) : RepD pub w (.s t) (.string x)
  | nil : RepD pub w .nil (.slice none 0 0)
  | sl0 (a : Addr) (cap : Nat) : RepD pub w (.sl []) (.slice (some a) 0 cap)
  | sl (xs : List D) (b off cap sz : Nat) (vs : List Value) (hne : xs ≠ []) (hsz : ∀ x ∈ xs, x.cells.length = sz)
      (hr : RepDL pub w (xs.flatMap D.cells) vs) (hc : ∀ j v, vs[j]? = some v → w.cell? ⟨b, off + j, none⟩ = some v)
      (hp : off + vs.length ≤ pub b) (hcap : xs.length ≤ cap) (hone : ∀ u ∈ vs, u.oneCell' = true) : RepD pub w (.sl xs) (.slice (some ⟨b, off, none⟩) xs.length cap)
  | agg (cs : List D) (vs : Array Value) (h : RepDL pub w cs vs.toList) : RepD pub w (.agg cs) (.agg vs)
  | np : RepD pub w .np (.pointer none)
  | nf : RepD pub w .nf .nilFunc
  | ni : RepD pub w .ni .nilIface
  | nm : RepD pub w .nm (.map none)
inductive RepDL (pub : Nat → Nat) (w : World) : List D → List Value → Prop
  | nil : RepDL pub w [] []
  | cons (x : D) (v : Value) (l : List D) (vs : List Value) (h : RepD pub w x v) (hl : RepDL pub w l vs) : RepDL pub w (x :: l) (v :: vs)
end

mutual
theorem RepD.mono {pub pub' : Nat → Nat} {w w' : World} (hp : ∀ b, pub b ≤ pub' b) (hc : ∀ b o, o < pub b → w'.cell? ⟨b, o, none⟩ = w.cell? ⟨b, o, none⟩) :
    ∀ {x : D} {v : Value}, RepD pub w x v → RepD pub' w' x v
  | _, _, .b x => .b x
  | _, _, .i k n => .i k n
  | _, _, .s t x h => .s t x h
  | _, _, .nil => .nil
  | _, _, .sl0 a cap => .sl0 a cap
  | _, _, .sl xs b off cap sz vs hne hsz hr hcc hpp hcap hone => .sl xs b off cap sz vs hne hsz (RepDL.mono hp hc hr)
      (fun j v hj => by
        have hlt : j < vs.length := (List.getElem?_eq_some_iff.1 hj).1
        rw [hc b (off + j) (by omega)]; exact hcc j v hj) (Nat.le_trans hpp (hp b)) hcap hone
  | _, _, .agg cs vs h => .agg cs vs (RepDL.mono hp hc h)
  | _, _, .np => .np
  | _, _, .nf => .nf
  | _, _, .ni => .ni
  | _, _, .nm => .nm
theorem RepDL.mono {pub pub' : Nat → Nat} {w w' : World} (hp : ∀ b, pub b ≤ pub' b) (hc : ∀ b o, o < pub b → w'.cell? ⟨b, o, none⟩ = w.cell? ⟨b, o, none⟩) :
    ∀ {l : List D} {vs : List Value}, RepDL pub w l vs → RepDL pub' w' l vs
  | _, _, .nil => .nil
  | _, _, .cons x v l vs h hl => .cons x v l vs (RepD.mono hp hc h) (RepDL.mono hp hc hl)
end

theorem RepDL.length {pub : Nat → Nat} {w : World} : ∀ {l : List D} {vs : List Value}, RepDL pub w l vs → l.length = vs.length
  | _, _, .nil => rfl
  | _, _, .cons _ _ _ _ _ hl => by simp [RepDL.length hl]

theorem RepDL.append {pub : Nat → Nat} {w : World} : ∀ {l : List D} {vs : List Value} {l' : List D} {vs' : List Value}, RepDL pub w l vs → RepDL pub w l' vs' → RepDL pub w (l ++ l') (vs ++ vs')
  | _, _, _, _, .nil, h' => h'
  | _, _, _, _, .cons x v l vs h hl, h' => .cons x v _ _ h (RepDL.append hl h')

theorem RepDL.get {pub : Nat → Nat} {w : World} : ∀ {l : List D} {vs : List Value}, RepDL pub w l vs → ∀ (i : Nat) (x : D), l[i]? = some x → ∃ v, vs[i]? = some v ∧ RepD pub w x v
  | _, _, .nil, i, x, h => by simp at h
  | _, _, .cons y v l vs hy hl, 0, x, h => ⟨v, rfl, by simp at h; exact h ▸ hy⟩
  | _, _, .cons y v l vs hy hl, i + 1, x, h => by simpa using RepDL.get hl i x (by simpa using h)

theorem RepDL.take {pub : Nat → Nat} {w : World} : ∀ {l : List D} {vs : List Value}, RepDL pub w l vs → ∀ n, RepDL pub w (l.take n) (vs.take n)
  | _, _, .nil, n => by simpa using RepDL.nil
  | _, _, .cons x v l vs h hl, 0 => RepDL.nil
  | _, _, .cons x v l vs h hl, n + 1 => .cons x v _ _ h (RepDL.take hl n)
theorem RepDL.drop {pub : Nat → Nat} {w : World} : ∀ {l : List D} {vs : List Value}, RepDL pub w l vs → ∀ n, RepDL pub w (l.drop n) (vs.drop n)
  | _, _, .nil, n => by simpa using RepDL.nil
  | _, _, .cons x v l vs h hl, 0 => .cons x v _ _ h hl
  | _, _, .cons x v l vs h hl, n + 1 => RepDL.drop hl n

/-- The value's cells stand for the datum's. -/
theorem RepD.cells {pub : Nat → Nat} {w : World} {x : D} {v : Value} (h : RepD pub w x v) : RepDL pub w x.cells v.cells.toList := by
  cases h with
  | agg cs vs h => exact h
  | b x => exact .cons _ _ _ _ (.b x) .nil
  | i k n => exact .cons _ _ _ _ (.i k n) .nil
  | s t x h => exact .cons _ _ _ _ (.s t x h) .nil
  | nil => exact .cons _ _ _ _ .nil .nil
  | sl0 a cap => exact .cons _ _ _ _ (.sl0 a cap) .nil
  | sl xs b off cap sz vs hne hsz hr hc hp hcap hone => exact .cons _ _ _ _ (.sl xs b off cap sz vs hne hsz hr hc hp hcap hone) .nil
  | np => exact .cons _ _ _ _ .np .nil
  | nf => exact .cons _ _ _ _ .nf .nil
  | ni => exact .cons _ _ _ _ .ni .nil
  | nm => exact .cons _ _ _ _ .nm .nil

mutual
inductive RepS (M : Maps) (g : Gh) (w : World) : V → Value → Prop
  | d (x : D) (c : Value) (h : RepD g.pub w x c) : RepS M g w (.d x) c
  | ptr (id off : Nat) (h : id < g.n) : RepS M g w (.ptr id off) (.pointer (some ⟨g.φ id, off, none⟩))
  | rs (id off len cap : Nat) (h : id < g.n) (hc : len ≤ cap) : RepS M g w (.rs id off len cap) (.slice (some ⟨g.φ id, off, none⟩) len cap)
  | map (id : Nat) (h : id < g.n) : RepS M g w (.map id) (.map (some (g.φ id)))
  | fn (f f' : Nat) (first cap : List V) (fv cv : Array Value) (h : look M.fm f' = some f) (h1 : RepSL M g w first fv.toList) (h2 : RepSL M g w cap cv.toList) :
      RepS M g w (.fn f first cap) (.func (.func f') fv cv)
  | ifc (t t' : Nat) (x : V) (c : Value) (h : look M.tm t' = some t) (hx : RepS M g w x c) : RepS M g w (.ifc t x) (.iface t' c)
  | agg (cs : List V) (vs : Array Value) (h : RepSL M g w cs vs.toList) : RepS M g w (.agg cs) (.agg vs)
  | tup (cs : List V) (vs : Array Value) (h : RepSL M g w cs vs.toList) : RepS M g w (.tup cs) (.tuple vs)
  | undef (c : Value) : RepS M g w .undef c
inductive RepSL (M : Maps) (g : Gh) (w : World) : List V → List Value → Prop
  | nil : RepSL M g w [] []
  | cons (x : V) (v : Value) (l : List V) (vs : List Value) (h : RepS M g w x v) (hl : RepSL M g w l vs) : RepSL M g w (x :: l) (v :: vs)
end

/-- Memory has grown: what is published is as it was. -/
structure Grow (g : Gh) (w : World) (g' : Gh) (w' : World) : Prop where
  size : w.heap.size ≤ w'.heap.size
  pub : ∀ b, g.pub b ≤ g'.pub b
  cell : ∀ b o, o < g.pub b → w'.cell? ⟨b, o, none⟩ = w.cell? ⟨b, o, none⟩

theorem Grow.refl (g : Gh) (w : World) : Grow g w g w := ⟨Nat.le_refl _, fun _ => Nat.le_refl _, fun _ _ _ => rfl⟩
theorem Grow.trans {g g' g'' : Gh} {w w' w'' : World} (h : Grow g w g' w') (h' : Grow g' w' g'' w'') : Grow g w g'' w'' :=
  ⟨Nat.le_trans h.size h'.size, fun b => Nat.le_trans (h.pub b) (h'.pub b), fun b o ho => (h'.cell b o (Nat.lt_of_lt_of_le ho (h.pub b))).trans (h.cell b o ho)⟩

mutual
/-- A value that names objects below n alone stays, where these stay. -/
theorem RepS.mono {M : Maps} {g g' : Gh} {w w' : World} (hg : Grow g w g' w') {n : Nat} (hn : n ≤ g'.n) (hφ : ∀ id, id < n → g'.φ id = g.φ id) :
    ∀ {x : V} {v : Value}, RepS M g w x v → x.ref ≤ n → RepS M g' w' x v
  | _, _, .d x c h, _ => .d x c (h.mono hg.pub hg.cell)
  | _, _, .ptr id off h, hr => by
      simp only [V.ref] at hr
      rw [← hφ id (by omega)]; exact .ptr id off (by omega)
  | _, _, .rs id off len cap h hc, hr => by
      simp only [V.ref] at hr
      rw [← hφ id (by omega)]; exact .rs id off len cap (by omega) hc
  | _, _, .map id h, hr => by
      simp only [V.ref] at hr
      rw [← hφ id (by omega)]; exact .map id (by omega)
  | _, _, .fn f f' first cap fv cv h h1 h2, hr => by
      simp only [V.ref] at hr
      exact .fn f f' first cap fv cv h (RepSL.mono hg hn hφ h1 (by omega)) (RepSL.mono hg hn hφ h2 (by omega))
  | _, _, .ifc t t' x c h hx, hr => .ifc t t' x c h (RepS.mono hg hn hφ hx (by simpa [V.ref] using hr))
  | _, _, .agg cs vs h, hr => .agg cs vs (RepSL.mono hg hn hφ h (by simpa [V.ref] using hr))
  | _, _, .tup cs vs h, hr => .tup cs vs (RepSL.mono hg hn hφ h (by simpa [V.ref] using hr))
  | _, _, .undef c, _ => .undef c
theorem RepSL.mono {M : Maps} {g g' : Gh} {w w' : World} (hg : Grow g w g' w') {n : Nat} (hn : n ≤ g'.n) (hφ : ∀ id, id < n → g'.φ id = g.φ id) :
    ∀ {l : List V} {vs : List Value}, RepSL M g w l vs → V.ref.refs l ≤ n → RepSL M g' w' l vs
  | _, _, .nil, _ => .nil
  | _, _, .cons x v l vs h hl, hr => by
      simp only [V.ref.refs] at hr
      exact .cons x v l vs (RepS.mono hg hn hφ h (by omega)) (RepSL.mono hg hn hφ hl (by omega))
end

mutual
theorem RepS.ref {M : Maps} {g : Gh} {w : World} : ∀ {x : V} {v : Value}, RepS M g w x v → x.ref ≤ g.n
  | _, _, .d x c h => by simp [V.ref]
  | _, _, .ptr id off h => by simp only [V.ref]; omega
  | _, _, .rs id off len cap h hc => by simp only [V.ref]; omega
  | _, _, .map id h => by simp only [V.ref]; omega
  | _, _, .fn f f' first cap fv cv h h1 h2 => by
      simp only [V.ref]; have := RepSL.ref h1; have := RepSL.ref h2; omega
  | _, _, .ifc t t' x c h hx => by simp only [V.ref]; exact RepS.ref hx
  | _, _, .agg cs vs h => by simp only [V.ref]; exact RepSL.ref h
  | _, _, .tup cs vs h => by simp only [V.ref]; exact RepSL.ref h
  | _, _, .undef c => by simp [V.ref]
theorem RepSL.ref {M : Maps} {g : Gh} {w : World} : ∀ {l : List V} {vs : List Value}, RepSL M g w l vs → V.ref.refs l ≤ g.n
  | _, _, .nil => by simp [V.ref.refs]
  | _, _, .cons x v l vs h hl => by simp only [V.ref.refs]; have := RepS.ref h; have := RepSL.ref hl; omega
end

theorem RepSL.length {M : Maps} {g : Gh} {w : World} : ∀ {l : List V} {vs : List Value}, RepSL M g w l vs → l.length = vs.length
  | _, _, .nil => rfl
  | _, _, .cons _ _ _ _ _ hl => by simp [RepSL.length hl]
theorem RepSL.append {M : Maps} {g : Gh} {w : World} : ∀ {l : List V} {vs : List Value} {l' : List V} {vs' : List Value}, RepSL M g w l vs → RepSL M g w l' vs' → RepSL M g w (l ++ l') (vs ++ vs')
  | _, _, _, _, .nil, h' => h'
  | _, _, _, _, .cons x v l vs h hl, h' => .cons x v _ _ h (RepSL.append hl h')
theorem RepSL.get {M : Maps} {g : Gh} {w : World} : ∀ {l : List V} {vs : List Value}, RepSL M g w l vs → ∀ (i : Nat) (x : V), l[i]? = some x → ∃ v, vs[i]? = some v ∧ RepS M g w x v
  | _, _, .nil, i, x, h => by simp at h
  | _, _, .cons y v l vs hy hl, 0, x, h => ⟨v, rfl, by simp at h; exact h ▸ hy⟩
  | _, _, .cons y v l vs hy hl, i + 1, x, h => by simpa using RepSL.get hl i x (by simpa using h)
theorem RepSL.ofD {M : Maps} {g : Gh} {w : World} : ∀ {l : List D} {vs : List Value}, RepDL g.pub w l vs → RepSL M g w (l.map .d) vs
  | _, _, .nil => .nil
  | _, _, .cons x v l vs h hl => .cons _ _ _ _ (.d x v h) (RepSL.ofD hl)

end W

/-
  A frame's slots and the objects, and what they stand for; reading an operand; laying a value into a slot.
-/
namespace W
open Go (World Value Addr IntKind Program TypeId FuncId Operand)

/-- A slice that one place alone may grow: what lies behind its cells is free. -/
inductive OwnSl (g : Gh) (w : World) (ℓ : Loc) : List D → Value → Prop
  | mk (xs : List D) (b off cap sz : Nat) (vs : List Value) (arr : Array Value) (T : TypeId) (fz : Nat × Nat) (hne : xs ≠ []) (hsz : ∀ x ∈ xs, x.cells.length = sz)
      (hr : RepDL g.pub w (xs.flatMap D.cells) vs) (hc : ∀ j v, vs[j]? = some v → w.cell? ⟨b, off + j, none⟩ = some v)
      (hp : g.pub b = off + vs.length) (hcap : xs.length ≤ cap) (hone : ∀ u ∈ vs, u.oneCell' = true) (ho : g.own b = some ℓ) (hb : w.heap[b]? = some (.cells arr T fz)) (ha : off + cap * sz ≤ arr.size)
      (hf : ∀ o, off + vs.length ≤ o → o < off + cap * sz → w.frozen? ⟨b, o, none⟩ = false) : OwnSl g w ℓ xs (.slice (some ⟨b, off, none⟩) xs.length cap)
  | full (xs : List D) (ad : Addr) (h : RepD g.pub w (.sl xs) (.slice (some ad) xs.length xs.length)) : OwnSl g w ℓ xs (.slice (some ad) xs.length xs.length)

/-- A slice without room. -/
theorem full_of {g : Gh} {w : World} {ys : List D} {o : Option Addr} {n k : Nat} (h : RepD g.pub w (.sl ys) (.slice o n k)) (hnk : n = k) (ℓ : Loc) : OwnSl g w ℓ ys (.slice o n k) := by
  generalize hc : Value.slice o n k = c at h
  cases h with
  | sl0 a cap =>
    injection hc with h1 h2 h3
    subst h1; subst h2; subst h3
    subst hnk
    exact .full [] a (.sl0 a 0)
  | sl _ b off cap sz vs h1 h2 h3 h4 h5 h6 h7 =>
    injection hc with e1 e2 e3
    subst e1; subst e2; subst e3
    subst hnk
    exact .full ys _ (.sl ys b off _ sz vs h1 h2 h3 h4 h5 h6 h7)

inductive RepC (M : Maps) (g : Gh) (w : World) (ℓ : Loc) : V → Value → Prop
  | s {v : V} {c : Value} (h : RepS M g w v c) : RepC M g w ℓ v c
  | osl {xs : List D} {c : Value} (h : OwnSl g w ℓ xs c) : RepC M g w ℓ (.osl xs) c

inductive RepT (M : Maps) (g : Gh) (w : World) (β : Nat → Nat) (k : Nat) : V → Value → Prop
  | s {v : V} {c : Value} (h : RepS M g w v c) : RepT M g w β k v c
  | osl {xs : List D} {c : Value} (h : OwnSl g w (.slot k) xs c) : RepT M g w β k (.osl xs) c
  | lp (s off : Nat) : RepT M g w β k (.lp s off) (.pointer (some ⟨β s, off, none⟩))
  | cp (x : D) (b off : Nat) (vs : List Value) (hr : RepDL g.pub w x.cells vs) (hc : ∀ j v, vs[j]? = some v → w.cell? ⟨b, off + j, none⟩ = some v)
      (hp : off + vs.length ≤ g.pub b) : RepT M g w β k (.cp x) (.pointer (some ⟨b, off, none⟩))
  | box (cs : List V) (arr : Array Value) (T : TypeId) (hb : w.heap[β k]? = some (.cells arr T (0, 0))) (ho : g.own (β k) = some (.bblk k)) (hp : g.pub (β k) = 0) (hl : cs.length = arr.size)
      (hr : ∀ (i : Nat) x v, cs[i]? = some x → arr[i]? = some v → RepC M g w (.bcell k i) x v) : RepT M g w β k (.box cs) (.pointer (some ⟨β k, 0, none⟩))

inductive RepEs (M : Maps) (g : Gh) (w : World) : List (D × V) → List Go.MapEntry → Prop
  | nil : RepEs M g w [] []
  | cons (k : D) (x : V) (e : Go.MapEntry) (es : List (D × V)) (ents : List Go.MapEntry) (hk : RepD g.pub w k e.key) (hg : ∃ kk, goodKey kk k = true) (hx : RepS M g w x e.val)
      (hl : RepEs M g w es ents) : RepEs M g w ((k, x) :: es) (e :: ents)

theorem RepEs.mono {M : Maps} {g g' : Gh} {w w' : World} (hg : Grow g w g' w') (hn : g.n ≤ g'.n) (hφ : ∀ id, id < g.n → g'.φ id = g.φ id) :
    ∀ {es : List (D × V)} {ents : List Go.MapEntry}, RepEs M g w es ents → RepEs M g' w' es ents
  | _, _, .nil => .nil
  | _, _, .cons k x e es ents hk hgk hx hl => .cons k x e es ents (hk.mono hg.pub hg.cell) hgk (hx.mono hg hn hφ hx.ref) (RepEs.mono hg hn hφ hl)

theorem RepEs.length {M : Maps} {g : Gh} {w : World} : ∀ {es : List (D × V)} {ents : List Go.MapEntry}, RepEs M g w es ents → es.length = ents.length
  | _, _, .nil => rfl
  | _, _, .cons _ _ _ _ _ _ _ _ hl => by simp [RepEs.length hl]

inductive RepO (M : Maps) (g : Gh) (w : World) (id : Nat) : Obj → Prop
  | cells (cs : List V) (arr : Array Value) (T : TypeId) (hb : w.heap[g.φ id]? = some (.cells arr T (0, 0))) (ho : g.own (g.φ id) = some (.oblk id)) (hp : g.pub (g.φ id) = 0) (hl : cs.length = arr.size)
      (hr : ∀ (i : Nat) x v, cs[i]? = some x → arr[i]? = some v → RepC M g w (.ocell id i) x v) : RepO M g w id (.cells cs)
  | map (es : List (D × V)) (ents : Array Go.MapEntry) (clock : Nat) (hb : w.heap[g.φ id]? = some (.map ents clock)) (ho : g.own (g.φ id) = some (.oblk id))
      (hr : RepEs M g w es ents.toList) : RepO M g w id (.map es)

/-- What is never written, of the whole program. -/
def GlOk (M : Maps) (g : Gh) (w : World) : Prop := ∀ n x, look M.gl n = some x →
  ∃ vs, RepDL g.pub w x.cells vs ∧ (∀ (j : Nat) v, vs[j]? = some v → w.cell? ⟨n, 0 + j, none⟩ = some v) ∧ 0 + vs.length ≤ g.pub n

theorem GlOk.mono {M : Maps} {g g' : Gh} {w w' : World} (h : GlOk M g w) (hg : Grow g w g' w') : GlOk M g' w' := fun n x hn => by
  obtain ⟨vs, h1, h2, h3⟩ := h n x hn
  refine ⟨vs, h1.mono hg.pub hg.cell, fun j v hj => ?_, Nat.le_trans h3 (hg.pub n)⟩
  have hlt : j < vs.length := (List.getElem?_eq_some_iff.1 hj).1
  rw [hg.cell n (0 + j) (by omega)]
  exact h2 j v hj

structure Rel (M : Maps) (g : Gh) (w : World) (β : Nat → Nat) (st : St) (tmps : Array Value) : Prop where
  n : g.n = st.H.length
  e : ∀ k, RepT M g w β k (get k st.env) (tmps.getD k Go.undef)
  h : ∀ id o, st.H[id]? = some o → RepO M g w id o
  fresh : ∀ b, w.heap.size ≤ b → g.own b = none ∧ g.pub b = 0
  gl : GlOk M g w

/-- What a stretch of a run leaves: memory has grown; what nobody here owns is as it was. -/
structure Evo (g : Gh) (w : World) (g' : Gh) (w' : World) : Prop extends Grow g w g' w' where
  n : g.n ≤ g'.n
  φ : ∀ id, id < g.n → g'.φ id = g.φ id
  keep : ∀ b, b < w.heap.size → g.own b = none ∨ g.own b = some .out → g'.own b = g.own b ∧ w'.heap[b]? = w.heap[b]? ∧ g'.pub b = g.pub b
  io : w'.os = w.os ∧ w'.output = w.output

theorem Evo.refl (g : Gh) (w : World) : Evo g w g w := ⟨Grow.refl g w, Nat.le_refl _, fun _ _ => rfl, fun _ _ _ => ⟨rfl, rfl, rfl⟩, ⟨rfl, rfl⟩⟩
theorem Evo.trans {g g' g'' : Gh} {w w' w'' : World} (h : Evo g w g' w') (h' : Evo g' w' g'' w'') : Evo g w g'' w'' :=
  ⟨h.toGrow.trans h'.toGrow, Nat.le_trans h.n h'.n, fun id hi => (h'.φ id (Nat.lt_of_lt_of_le hi h.n)).trans (h.φ id hi), fun b hb ho => by
    obtain ⟨h1, h2, h3⟩ := h.keep b hb ho
    obtain ⟨k1, k2, k3⟩ := h'.keep b (Nat.lt_of_lt_of_le hb h.size) (h1 ▸ ho)
    exact ⟨k1.trans h1, k2.trans h2, k3.trans h3⟩, h'.io.1.trans h.io.1, h'.io.2.trans h.io.2⟩

/-- What one owner has is as it was. -/
structure Kept (g : Gh) (w : World) (g' : Gh) (w' : World) (ℓ : Loc) : Prop where
  k : ∀ b, g.own b = some ℓ → g'.own b = some ℓ ∧ w'.heap[b]? = w.heap[b]? ∧ g'.pub b = g.pub b

theorem Kept.refl (g : Gh) (w : World) (ℓ : Loc) : Kept g w g w ℓ := ⟨fun _ h => ⟨h, rfl, rfl⟩⟩

theorem frozen_of_heap {w w' : World} {b : Nat} (h : w'.heap[b]? = w.heap[b]?) (o : Nat) : w'.frozen? ⟨b, o, none⟩ = w.frozen? ⟨b, o, none⟩ := by
  simp only [World.frozen?, h]
theorem cell_of_heap {w w' : World} {b : Nat} (h : w'.heap[b]? = w.heap[b]?) (o : Nat) : w'.cell? ⟨b, o, none⟩ = w.cell? ⟨b, o, none⟩ := by
  simp only [World.cell?, h]

theorem OwnSl.mono {g g' : Gh} {w w' : World} (hg : Grow g w g' w') {ℓ : Loc} (hk : Kept g w g' w' ℓ) {xs : List D} {c : Value} (h : OwnSl g w ℓ xs c) : OwnSl g' w' ℓ xs c := by
  cases h with
  | mk b off cap sz vs arr T fz hne hsz hr hc hp hcap hone ho hb ha hf =>
    obtain ⟨h1, h2, h3⟩ := hk.k b ho
    exact .mk xs b off cap sz vs arr T fz hne hsz (hr.mono hg.pub hg.cell) (fun j v hj => by rw [cell_of_heap h2]; exact hc j v hj) (h3.trans hp) hcap hone h1 (h2.trans hb) ha
      (fun o h0 h1 => by rw [frozen_of_heap h2]; exact hf o h0 h1)
  | full ad h => exact .full xs ad (h.mono hg.pub hg.cell)

theorem OwnSl.rep {g : Gh} {w : World} {ℓ : Loc} {xs : List D} {c : Value} (h : OwnSl g w ℓ xs c) : RepD g.pub w (.sl xs) c := by
  cases h with
  | mk b off cap sz vs arr T fz hne hsz hr hc hp hcap hone ho hb ha hf => exact .sl xs b off cap sz vs hne hsz hr hc (by omega) hcap hone
  | full ad h => exact h

theorem RepC.mono {M : Maps} {g g' : Gh} {w w' : World} (hg : Grow g w g' w') (hn : g.n ≤ g'.n) (hφ : ∀ id, id < g.n → g'.φ id = g.φ id) {ℓ : Loc} (hk : Kept g w g' w' ℓ) {v : V} {c : Value}
    (h : RepC M g w ℓ v c) : RepC M g' w' ℓ v c := by
  cases h with
  | s h => exact .s (h.mono hg hn hφ h.ref)
  | osl h => exact .osl (h.mono hg hk)

theorem RepT.mono {M : Maps} {g g' : Gh} {w w' : World} (hg : Grow g w g' w') (hn : g.n ≤ g'.n) (hφ : ∀ id, id < g.n → g'.φ id = g.φ id) {β : Nat → Nat} {k : Nat}
    (h1 : Kept g w g' w' (.slot k)) (h2 : Kept g w g' w' (.bblk k)) (h3 : ∀ i, Kept g w g' w' (.bcell k i)) {v : V} {c : Value} (h : RepT M g w β k v c) : RepT M g' w' β k v c := by
  cases h with
  | s h => exact .s (h.mono hg hn hφ h.ref)
  | osl h => exact .osl (h.mono hg h1)
  | lp s off => exact .lp s off
  | cp x b off vs hr hc hp =>
    refine .cp x b off vs (hr.mono hg.pub hg.cell) (fun j v hj => ?_) (Nat.le_trans hp (hg.pub b))
    have hlt : j < vs.length := (List.getElem?_eq_some_iff.1 hj).1
    rw [hg.cell b (off + j) (by omega)]
    exact hc j v hj
  | box cs arr T hb ho hp hl hr =>
    obtain ⟨k1, k2, k3⟩ := h2.k _ ho
    exact .box cs arr T (k2.trans hb) k1 (k3.trans hp) hl (fun i x v hx hv => (hr i x v hx hv).mono hg hn hφ (h3 i))

theorem RepO.mono {M : Maps} {g g' : Gh} {w w' : World} (hg : Grow g w g' w') (hn : g.n ≤ g'.n) (hφ : ∀ id, id < g.n → g'.φ id = g.φ id) {id : Nat} (hid : id < g.n)
    (h1 : Kept g w g' w' (.oblk id)) (h3 : ∀ i, Kept g w g' w' (.ocell id i)) {o : Obj} (h : RepO M g w id o) : RepO M g' w' id o := by
  have e := hφ id hid
  cases h with
  | cells cs arr T hb ho hp hl hr =>
    obtain ⟨k1, k2, k3⟩ := h1.k _ ho
    exact .cells cs arr T (by rw [e]; exact k2.trans hb) (by rw [e]; exact k1) (by rw [e]; exact k3.trans hp) hl (fun i x v hx hv => (hr i x v hx hv).mono hg hn hφ (h3 i))
  | map es ents clock hb ho hr =>
    obtain ⟨k1, k2, k3⟩ := h1.k _ ho
    exact .map es ents clock (by rw [e]; exact k2.trans hb) (by rw [e]; exact k1) (hr.mono hg hn hφ)

theorem get_cons (k n : Nat) (v : V) (e : Env) : get k ((n, v) :: e) = if k = n then v else get k e := by
  simp only [get]
  by_cases h : k = n
  · subst h; simp
  · have : Nat.beq k n = false := by rw [Bool.eq_false_iff]; intro hb; exact h (Nat.eq_of_beq_eq_true hb)
    simp [this, h]

theorem getD_set (tmps : Array Value) (n k : Nat) (c : Value) (hn : n < tmps.size) : (tmps.setIfInBounds n c).getD k Go.undef = if k = n then c else tmps.getD k Go.undef := by
  by_cases h : k = n
  · subst h; simp [hn]
  · have h' : n ≠ k := fun e => h e.symm
    simp [Array.getD_eq_getD_getElem?, Array.getElem?_setIfInBounds_ne h', h]

/-- A value that owns nothing is laid into a slot. -/
theorem Rel.lay {M : Maps} {g : Gh} {w : World} {β : Nat → Nat} {st : St} {tmps : Array Value} (h : Rel M g w β st tmps) {n : Nat} (hn : n < tmps.size) {v : V} {c : Value} (hv : RepT M g w β n v c) :
    Rel M g w β { st with env := (n, v) :: st.env } (tmps.setIfInBounds n c) :=
  ⟨h.n, fun k => by
    show RepT M g w β k (get k ((n, v) :: st.env)) _
    rw [get_cons, getD_set _ _ _ _ hn]
    split
    · rename_i e; subst e; exact hv
    · exact h.e k, h.h, h.fresh, h.gl⟩

/-- What a slot has may be forgotten. -/
theorem Rel.drop {M : Maps} {g : Gh} {w : World} {β : Nat → Nat} {st : St} {tmps : Array Value} (h : Rel M g w β st tmps) (n : Nat) :
    Rel M g w β { st with env := (n, .undef) :: st.env } tmps :=
  ⟨h.n, fun k => by
    show RepT M g w β k (get k ((n, .undef) :: st.env)) _
    rw [get_cons]
    split
    · exact .s (.undef _)
    · exact h.e k, h.h, h.fresh, h.gl⟩

theorem Rel.spent {M : Maps} {g : Gh} {w : World} {β : Nat → Nat} {st : St} {tmps : Array Value} (h : Rel M g w β st tmps) (o : O) :
    Rel M g w β { st with env := W.spent o st.env } tmps := by
  cases o <;> first | exact h | exact h.drop _

theorem Rel.spentAll {M : Maps} {g : Gh} {w : World} {β : Nat → Nat} {tmps : Array Value} : ∀ (os : List O) {st : St}, Rel M g w β st tmps →
    Rel M g w β { st with env := W.spentAll os st.env } tmps
  | [], _, h => h
  | o :: l, _, h => Rel.spentAll l (h.spent o)

/-- A world that differs by draws alone. -/
structure SameMem (w w' : World) : Prop where
  heap : w'.heap = w.heap
  io : w'.os = w.os ∧ w'.output = w.output

theorem SameMem.refl (w : World) : SameMem w w := ⟨rfl, rfl, rfl⟩
theorem SameMem.grow {w w' : World} (h : SameMem w w') (g : Gh) : Grow g w g w' :=
  ⟨by rw [h.heap]; exact Nat.le_refl _, fun _ => Nat.le_refl _, fun b o _ => by simp only [World.cell?, h.heap]⟩
theorem SameMem.kept {w w' : World} (h : SameMem w w') (g : Gh) (ℓ : Loc) : Kept g w g w' ℓ := ⟨fun b hb => ⟨hb, by rw [h.heap], rfl⟩⟩
theorem SameMem.evo {w w' : World} (h : SameMem w w') (g : Gh) : Evo g w g w' := ⟨h.grow g, Nat.le_refl _, fun _ _ => rfl, fun b _ _ => ⟨rfl, by rw [h.heap], rfl⟩, h.io⟩
theorem Rel.sameMem {M : Maps} {g : Gh} {w w' : World} {β : Nat → Nat} {st : St} {tmps : Array Value} (hs : SameMem w w') (h : Rel M g w β st tmps) : Rel M g w' β st tmps :=
  ⟨h.n, fun k => (h.e k).mono (hs.grow g) (Nat.le_refl _) (fun _ _ => rfl) (hs.kept g _) (hs.kept g _) (fun _ => hs.kept g _),
    fun id o ho => (h.h id o ho).mono (hs.grow g) (Nat.le_refl _) (fun _ _ => rfl) (by rw [h.n]; exact (List.getElem?_eq_some_iff.1 ho).1) (hs.kept g _) (fun _ => hs.kept g _),
    fun b hb => h.fresh b (by rw [← hs.heap]; exact hb), h.gl.mono (hs.grow g)⟩

end W

/-
  Operands: what is read stands for what the model reads.
-/
namespace W
open Go (World Value Addr IntKind Program TypeId FuncId Operand Act)

mutual
theorem toD_rep (pub : Nat → Nat) (w : World) : ∀ (v : Value) (x : D), toD v = some x → RepD pub w x v
  | .bool z, x, h => by simp only [toD, Option.some.injEq] at h; subst h; exact .b z
  | .int k n, x, h => by simp only [toD, Option.some.injEq] at h; subst h; exact .i k n
  | .string s, x, h => by simp only [toD, Option.some.injEq] at h; subst h; exact .s _ s rfl
  | .pointer none, x, h => by simp only [toD, Option.some.injEq] at h; subst h; exact .np
  | .pointer (some _), x, h => by simp [toD] at h
  | .slice none 0 0, x, h => by simp only [toD, Option.some.injEq] at h; subst h; exact .nil
  | .slice none (n + 1) c, x, h => by simp [toD] at h
  | .slice none 0 (c + 1), x, h => by simp [toD] at h
  | .slice (some _) n c, x, h => by simp [toD] at h
  | .map none, x, h => by simp only [toD, Option.some.injEq] at h; subst h; exact .nm
  | .map (some _), x, h => by simp [toD] at h
  | .nilFunc, x, h => by simp only [toD, Option.some.injEq] at h; subst h; exact .nf
  | .nilIface, x, h => by simp only [toD, Option.some.injEq] at h; subst h; exact .ni
  | .agg cs, x, h => by
      simp only [toD] at h
      cases hl : toDs cs.toList with
      | none => simp [hl] at h
      | some l =>
        simp only [hl, Option.some.injEq] at h
        subst h
        exact .agg l cs (toDs_rep pub w cs.toList l hl)
  | .float _ _, x, h => by simp [toD] at h
  | .complex _ _ _, x, h => by simp [toD] at h
  | .chan _, x, h => by simp [toD] at h
  | .func _ _ _, x, h => by simp [toD] at h
  | .iface _ _, x, h => by simp [toD] at h
  | .tuple _, x, h => by simp [toD] at h
theorem toDs_rep (pub : Nat → Nat) (w : World) : ∀ (l : List Value) (xs : List D), toDs l = some xs → RepDL pub w xs l
  | [], xs, h => by simp only [toDs, Option.some.injEq] at h; subst h; exact .nil
  | v :: l, xs, h => by
      simp only [toDs] at h
      cases h1 : toD v with
      | none => simp [h1] at h
      | some x => cases h2 : toDs l with
        | none => simp [h1, h2] at h
        | some r =>
          simp only [h1, h2, Option.some.injEq] at h
          subst h
          exact .cons x v r l (toD_rep pub w v x h1) (toDs_rep pub w l r h2)
end

theorem allD_rep {M : Maps} {g : Gh} {w : World} : ∀ {cs : List V} {vs : List Value} {ds : List D}, RepSL M g w cs vs → allD cs = some ds → RepDL g.pub w ds vs
  | _, _, ds, .nil, h => by simp only [allD, Option.some.injEq] at h; subst h; exact .nil
  | _, _, ds, .cons x v l vs hx hl, h => by
      cases hx with
      | d y c hy =>
        simp only [allD] at h
        cases h2 : allD l with
        | none => simp [h2] at h
        | some r =>
          simp only [h2, Option.some.injEq] at h
          subst h
          exact .cons y v r vs hy (allD_rep hl h2)
      | ptr | rs | map | fn | ifc | agg | tup | undef => simp [allD] at h

theorem copy1_rep {M : Maps} {g : Gh} {w : World} : ∀ {cs : List V} {vs : List Value}, RepSL M g w cs vs → cs.map copy1 = cs
  | _, _, .nil => rfl
  | _, _, .cons x v l vs hx hl => by
      have h1 : copy1 x = x := by cases hx <;> rfl
      simp [h1, copy1_rep hl]

theorem mkAgg_rep {M : Maps} {g : Gh} {w : World} {cs : List V} {vs : Array Value} (h : RepSL M g w cs vs.toList) : RepS M g w (mkAgg cs) (.agg vs) := by
  unfold mkAgg
  cases hd : allD cs with
  | some ds => exact .d _ _ (.agg ds vs (allD_rep h hd))
  | none => exact .agg cs vs h

theorem copy_rep {M : Maps} {g : Gh} {w : World} {x : V} {v : Value} (h : RepS M g w x v) : RepS M g w (copy x) v := by
  cases h with
  | agg cs vs h => simp only [copy]; rw [copy1_rep h]; exact mkAgg_rep h
  | d x _ h => exact .d x _ h
  | ptr id off h => exact .ptr id off h
  | rs id off len cap h hc => exact .rs id off len cap h hc
  | map id h => exact .map id h
  | fn f f' first cap fv cv h h1 h2 => exact .fn f f' first cap fv cv h h1 h2
  | ifc t t' x c h hx => exact .ifc t t' x c h hx
  | tup cs vs h => exact .tup cs vs h
  | undef => exact .undef _

/-- Values without owner or place: the same in every slot. -/
inductive RepV (M : Maps) (g : Gh) (w : World) (β : Nat → Nat) : V → Value → Prop
  | s {v : V} {c : Value} (h : RepS M g w v c) : RepV M g w β v c
  | lp (s off : Nat) : RepV M g w β (.lp s off) (.pointer (some ⟨β s, off, none⟩))
  | cp (x : D) (b off : Nat) (vs : List Value) (hr : RepDL g.pub w x.cells vs) (hc : ∀ j v, vs[j]? = some v → w.cell? ⟨b, off + j, none⟩ = some v)
      (hp : off + vs.length ≤ g.pub b) : RepV M g w β (.cp x) (.pointer (some ⟨b, off, none⟩))

theorem RepV.at {M : Maps} {g : Gh} {w : World} {β : Nat → Nat} {v : V} {c : Value} (h : RepV M g w β v c) (k : Nat) : RepT M g w β k v c := by
  cases h with
  | s h => exact .s h
  | lp s off => exact .lp s off
  | cp x b off vs hr hc hp => exact .cp x b off vs hr hc hp

/-- How a slot reads by copy. -/
theorem RepT.read {M : Maps} {g : Gh} {w : World} {β : Nat → Nat} {k : Nat} {v : V} {c : Value} (h : RepT M g w β k v c) :
    RepV M g w β (readV k v) c := by
  cases h with
  | s h => 
    cases h with
    | d x _ h => exact .s (.d x _ h)
    | ptr id off h => exact .s (.ptr id off h)
    | rs id off len cap h hc => exact .s (.rs id off len cap h hc)
    | map id h => exact .s (.map id h)
    | fn f f' first cap fv cv h h1 h2 => exact .s (.fn f f' first cap fv cv h h1 h2)
    | ifc t t' x c h hx => exact .s (.ifc t t' x c h hx)
    | agg cs vs h => exact .s (copy_rep (.agg cs vs h))
    | tup cs vs h => exact .s (.tup cs vs h)
    | undef => exact .s (.undef _)
  | osl h => exact .s (.d _ _ h.rep)
  | lp s off => exact .lp s off
  | cp x b off vs hr hc hp => exact .cp x b off vs hr hc hp
  | box cs arr T hb ho hp hl hr => exact .lp k 0

theorem eval_tmp (a : Act) (t : Nat) : a.eval (.tmp t) = a.tmps.getD t Go.undef := rfl

/-- An operand that is read by copy. -/
theorem rd_rep {M : Maps} {g : Gh} {w : World} {β : Nat → Nat} {st : St} {a : Act} (hR : Rel M g w β st a.tmps) {x : Operand} {o : O} (h : opnd M false x = some o) :
    RepV M g w β (rd st.env o) (a.eval x) := by
  cases x with
  | tmp t =>
    simp only [opnd, Bool.false_eq_true, if_false, Option.some.injEq] at h
    subst h
    have := (hR.e t).read
    exact this
  | const v =>
    simp only [opnd] at h
    cases hd : toD v with
    | none => simp [hd] at h
    | some y =>
      simp only [hd, Option.map_some, Option.some.injEq] at h
      subst h
      exact .s (.d y v (toD_rep g.pub w v y hd))
  | func f =>
    simp only [opnd] at h
    cases hd : look M.fm f with
    | none => simp [hd] at h
    | some y =>
      simp only [hd, Option.map_some, Option.some.injEq] at h
      subst h
      exact .s (.fn y f [] [] #[] #[] hd .nil .nil)
  | global n =>
    simp only [opnd] at h
    cases hd : look M.gl n with
    | none => simp [hd] at h
    | some y =>
      simp only [hd, Option.map_some, Option.some.injEq] at h
      subst h
      obtain ⟨vs, h1, h2, h3⟩ := hR.gl n y hd
      exact .cp y n 0 vs h1 h2 h3

/-- An operand read either way: what it stands for, and, where it takes the slice along, whose that was. -/
inductive RepO' (M : Maps) (g : Gh) (w : World) (β : Nat → Nat) : O → V → Value → Prop
  | v {o : O} {v : V} {c : Value} (h : RepV M g w β v c) : RepO' M g w β o v c
  | own {n : Nat} {xs : List D} {c : Value} (h : OwnSl g w (.slot n) xs c) : RepO' M g w β (.mv n) (.osl xs) c

theorem rdm_rep {M : Maps} {g : Gh} {w : World} {β : Nat → Nat} {st : St} {a : Act} (hR : Rel M g w β st a.tmps) {m : Bool} {x : Operand} {o : O} (h : opnd M m x = some o) :
    RepO' M g w β o (rd st.env o) (a.eval x) := by
  cases m with
  | false => exact .v (rd_rep hR h)
  | true =>
    cases x with
    | tmp t =>
      simp only [opnd, if_true, Option.some.injEq] at h
      subst h
      have := hR.e t
      show RepO' M g w β (.mv t) (takeV (get t st.env)) (a.tmps.getD t Go.undef)
      generalize get t st.env = v at this
      generalize a.tmps.getD t Go.undef = c at this
      cases this with
      | s h => cases h <;> exact .v (.s (by constructor <;> assumption))
      | osl h => exact .own h
      | lp s off => exact .v (.lp s off)
      | cp x b off vs hr hc hp => exact .v (.cp x b off vs hr hc hp)
      | box cs arr T hb ho hp hl hr => exact .v (.s (.undef _))
    | const v => exact .v (rd_rep (x := .const v) hR (by simpa [opnd] using h))
    | func f => exact .v (rd_rep (x := .func f) hR (by simpa [opnd] using h))
    | global n => exact .v (rd_rep (x := .global n) hR (by simpa [opnd] using h))

end W

/-
  Operations that change no object, one by one: what the model does is what the small semantics does.
-/
namespace W
open Go (World Value Addr IntKind Program TypeId FuncId Operand Act Oper Next Result Sem)

def Gh.setOwn (g : Gh) (b : Nat) (ℓ : Option Loc) : Gh := { g with own := fun x => if x = b then ℓ else g.own x }

theorem setOwn_grow (g : Gh) (w : World) (b : Nat) (ℓ : Option Loc) : Grow g w (g.setOwn b ℓ) w := ⟨Nat.le_refl _, fun _ => Nat.le_refl _, fun _ _ _ => rfl⟩
theorem setOwn_kept {g : Gh} {w : World} {b : Nat} {ℓ₀ : Loc} (ℓ : Option Loc) (hb : g.own b = some ℓ₀) {ℓ₁ : Loc} (hne : ℓ₁ ≠ ℓ₀) : Kept g w (g.setOwn b ℓ) w ℓ₁ :=
  ⟨fun x hx => ⟨by
    have : x ≠ b := fun e => by subst e; rw [hb] at hx; exact hne (Option.some.inj hx).symm
    simp [Gh.setOwn, this, hx], rfl, rfl⟩⟩
theorem setOwn_evo {g : Gh} {w : World} {b : Nat} {ℓ₀ : Loc} (ℓ : Option Loc) (hb : g.own b = some ℓ₀) (h0 : ℓ₀ ≠ .out) : Evo g w (g.setOwn b ℓ) w :=
  ⟨setOwn_grow g w b ℓ, Nat.le_refl _, fun _ _ => rfl, fun x _ ho => ⟨by
    have : x ≠ b := fun e => by
      subst e; rw [hb] at ho
      rcases ho with h | h
      · cases h
      · exact h0 (Option.some.inj h)
    simp [Gh.setOwn, this], rfl, rfl⟩, ⟨rfl, rfl⟩⟩

/-- A slot that says nothing: what it owned may be given away. -/
theorem Rel.reown {M : Maps} {g : Gh} {w : World} {β : Nat → Nat} {st : St} {tmps : Array Value} (h : Rel M g w β st tmps) {n b : Nat} (hn : get n st.env = .undef) (hb : g.own b = some (.slot n)) (hlt : b < w.heap.size)
    (ℓ : Option Loc) : Rel M (g.setOwn b ℓ) w β st tmps := by
  have hg := setOwn_grow g w b ℓ
  refine ⟨h.n, fun k => ?_, fun id o ho => ?_, fun x hx => ?_, h.gl.mono hg⟩
  · by_cases hk : k = n
    · subst hk; rw [hn]; exact .s (.undef _)
    · exact (h.e k).mono hg (Nat.le_refl _) (fun _ _ => rfl) (setOwn_kept ℓ hb (by simp [hk])) (setOwn_kept ℓ hb (by simp)) (fun i => setOwn_kept ℓ hb (by simp))
  · exact (h.h id o ho).mono hg (Nat.le_refl _) (fun _ _ => rfl) (by rw [h.n]; exact (List.getElem?_eq_some_iff.1 ho).1) (setOwn_kept ℓ hb (by simp)) (fun i => setOwn_kept ℓ hb (by simp))
  · have : x ≠ b := by omega
    simpa [Gh.setOwn, this] using h.fresh x hx

theorem OwnSl.setOwn {g : Gh} {w : World} {ℓ : Loc} {xs : List D} {c : Value} (h : OwnSl g w ℓ xs c) :
    (∃ b, g.own b = some ℓ ∧ b < w.heap.size ∧ ∀ ℓ', OwnSl (g.setOwn b (some ℓ')) w ℓ' xs c) ∨ ∀ ℓ', OwnSl g w ℓ' xs c := by
  cases h with
  | full ad h => exact .inr fun ℓ' => .full xs ad h
  | mk b off cap sz vs arr T fz hne hsz hr hc hp hcap hone ho hb ha hf =>
    exact .inl ⟨b, ho, (Array.getElem?_eq_some_iff.1 hb).1, fun ℓ' => .mk xs b off cap sz vs arr T fz hne hsz hr hc hp hcap hone (by simp [Gh.setOwn]) hb ha hf⟩

/-- An operation's plain results. -/
inductive Yields (P : Program) (o : Oper) (a : Act) (w : World) : Value → World → Prop
  | value {c : Value} {w' : World} (h : (Go.execOp a.eval o).run P w = .ok (.value c) w') : Yields P o a w c w'
  | skip {w' : World} (h : (Go.execOp a.eval o).run P w = .ok .skip w') : Yields P o a w Go.undef w'

theorem Yields.wp {P : Program} {o : Oper} {a : Act} {w : World} {c : Value} {w' : World} (h : Yields P o a w c w') {next : Act → World → Prop} {Q : Go.Exit → Act → World → Prop} (hn : next (a.put o.dst c) w') :
    o.wp P a w next Q := by
  unfold Oper.wp
  cases h with
  | value h => rw [h]; exact hn
  | skip h => rw [h]; exact hn

/-- What an operation is to leave. -/
def Left1 (P : Program) (M : Maps) (g : Gh) (w : World) (o : Oper) (a : Act) (r : Or) : Prop :=
  ∃ c w' g' β', Yields P o a w c w' ∧ Rel M g' w' β' (put o.dst r.v r.st) (a.put o.dst c).tmps ∧ Evo g w g' w'

def DstOk (o : Oper) (a : Act) : Prop := ∀ n, o.dst = some n → n < a.tmps.size

theorem put_plain {v : V} (hv : ∀ cs, v ≠ .box cs) (dst : Option Nat) (st : St) : put dst v st = match dst with | some n => { st with env := (n, v) :: st.env } | none => st := by
  cases dst with
  | none => rfl
  | some n => cases v <;> first | rfl | (exact absurd rfl (hv _))

theorem RepV.notBox {M : Maps} {g : Gh} {w : World} {β : Nat → Nat} {v : V} {c : Value} (h : RepV M g w β v c) : ∀ cs, v ≠ .box cs := by
  intro cs e; subst e
  cases h with
  | s h => cases h

theorem Act.put_tmps (a : Act) (dst : Option Nat) (c : Value) : (a.put dst c).tmps = match dst with | some n => a.tmps.setIfInBounds n c | none => a.tmps := by
  cases dst <;> rfl

/-- A value without owner is laid. -/
theorem Rel.putV {M : Maps} {g : Gh} {w : World} {β : Nat → Nat} {st : St} {a : Act} {o : Oper} (hd : DstOk o a) (h : Rel M g w β st a.tmps) {v : V} {c : Value} (hv : RepV M g w β v c) :
    Rel M g w β (put o.dst v st) (a.put o.dst c).tmps := by
  rw [put_plain hv.notBox, Act.put_tmps]
  cases hdst : o.dst with
  | none => exact h
  | some n => exact h.lay (hd n hdst) (hv.at n)

/-- A slice of one's own is laid, out of a slot that has let it go. -/
theorem Rel.putOwn {M : Maps} {g : Gh} {w : World} {β : Nat → Nat} {st : St} {a : Act} {o : Oper} (hd : DstOk o a) (h : Rel M g w β st a.tmps) {n : Nat} (hn : get n st.env = .undef) {xs : List D} {c : Value}
    (hv : OwnSl g w (.slot n) xs c) : ∃ g', Rel M g' w β (put o.dst (.osl xs) st) (a.put o.dst c).tmps ∧ Evo g w g' w := by
  rw [put_plain (by intro cs e; cases e), Act.put_tmps]
  cases hdst : o.dst with
  | none => exact ⟨g, h, Evo.refl g w⟩
  | some d =>
    rcases hv.setOwn with ⟨b, hb, hlt, hv'⟩ | hv'
    case inr => exact ⟨g, h.lay (hd d hdst) (.osl (hv' _)), Evo.refl g w⟩
    exact ⟨g.setOwn b (some (.slot d)), (h.reown hn hb hlt (some (.slot d))).lay (hd d hdst) (.osl (hv' _)), setOwn_evo _ hb (by simp)⟩

theorem Rel.putFull {M : Maps} {g : Gh} {w : World} {β : Nat → Nat} {st : St} {a : Act} {o : Oper} (hd : DstOk o a) (h : Rel M g w β st a.tmps) {xs : List D} {c : Value}
    (hv : ∀ ℓ, OwnSl g w ℓ xs c) : Rel M g w β (put o.dst (.osl xs) st) (a.put o.dst c).tmps := by
  rw [put_plain (by intro cs e; cases e), Act.put_tmps]
  cases hdst : o.dst with
  | none => exact h
  | some d => exact h.lay (hd d hdst) (.osl (hv _))

theorem left_full {P : Program} {M : Maps} {g : Gh} {w : World} {β : Nat → Nat} {st : St} {o : Oper} {a : Act} (hd : DstOk o a) (hR : Rel M g w β st a.tmps) {xs : List D} {c : Value} (hv : ∀ ℓ, OwnSl g w ℓ xs c)
    (hrun : (Go.execOp a.eval o).run P w = .ok (.value c) w) {r : Or} (hr : ok (.osl xs) st = some r) : Left1 P M g w o a r := by
  simp only [ok, Option.some.injEq] at hr
  subst hr
  exact ⟨c, w, g, β, .value hrun, hR.putFull hd hv, Evo.refl g w⟩

theorem left_pure {P : Program} {M : Maps} {g : Gh} {w : World} {β : Nat → Nat} {st : St} {o : Oper} {a : Act} (hd : DstOk o a) (hR : Rel M g w β st a.tmps) {v : V} {c : Value} (hv : RepV M g w β v c)
    (hrun : (Go.execOp a.eval o).run P w = .ok (.value c) w) {r : Or} (hr : ok v st = some r) : Left1 P M g w o a r := by
  simp only [ok, Option.some.injEq] at hr
  subst hr
  exact ⟨c, w, g, β, .value hrun, hR.putV hd hv, Evo.refl g w⟩

/-- A value that was read either way is laid. -/
theorem Rel.putRead {M : Maps} {g : Gh} {w : World} {β : Nat → Nat} {st : St} {a : Act} {o : Oper} (hd : DstOk o a) (h : Rel M g w β st a.tmps) {x : O} {v : V} {c : Value} (hv : RepO' M g w β x v c) :
    ∃ g', Rel M g' w β (put o.dst v { st with env := W.spent x st.env }) (a.put o.dst c).tmps ∧ Evo g w g' w := by
  cases hv with
  | v hv => exact ⟨g, (h.spent x).putV hd hv, Evo.refl g w⟩
  | own hv =>
    rename_i n xs
    exact (h.drop n).putOwn hd (by simp [get_cons]) hv

theorem sim_mov {P : Program} {M : Maps} {g : Gh} {w : World} {β : Nat → Nat} {st : St} {o : Oper} {a : Act} (hd : DstOk o a) (hR : Rel M g w β st a.tmps) {m : Bool} {x : Operand} {y : O} (hy : opnd M m x = some y)
    (ho : o.op = .move x ∨ o.op = .assign x) {r : Or} (hr : eMov y st = some r) : Left1 P M g w o a r := by
  simp only [eMov, ok, Option.some.injEq] at hr
  subst hr
  obtain ⟨g', h1, h2⟩ := hR.putRead hd (rdm_rep hR hy)
  refine ⟨a.eval x, w, g', β, .value ?_, h1, h2⟩
  rcases ho with ho | ho <;> simp only [Go.execOp, ho] <;> rfl

end W

/-
  Operations on numbers, texts, bools, nil.
-/
namespace W
open Go (World Value Addr IntKind Program TypeId FuncId Operand Act Oper Next Result Sem BinOp UnOp)

theorem eqI_eq (a b : Int) : eqI a b = (a == b) := by
  cases a <;> cases b <;> simp only [eqI]
  · rename_i a b
    rw [Bool.eq_iff_iff, Nat.beq_eq, beq_iff_eq]; simp only [Int.ofNat_eq_natCast]; omega
  · rfl
  · rfl
  · rename_i a b
    rw [Bool.eq_iff_iff, Nat.beq_eq, beq_iff_eq]; simp
theorem leI_eq (a b : Int) : leI a b = decide (a ≤ b) := by
  cases a <;> cases b <;> simp only [leI]
  · rename_i a b
    rw [Bool.eq_iff_iff, Nat.ble_eq, decide_eq_true_iff]; simp
  · rename_i a b
    rw [eq_comm, decide_eq_false_iff_not]
    have := Int.negSucc_lt_zero b; simp only [Int.ofNat_eq_natCast]; omega
  · rename_i a b
    rw [eq_comm, decide_eq_true_iff]
    have := Int.negSucc_lt_zero a; simp only [Int.ofNat_eq_natCast]; omega
  · rename_i a b
    rw [Bool.eq_iff_iff, Nat.ble_eq, decide_eq_true_iff]
    simp only [Int.negSucc_eq]; omega
theorem eqK_eq (a b : IntKind) : eqK a b = (a == b) := by cases a <;> cases b <;> rfl
theorem eqK_true {a b : IntKind} (h : eqK a b = true) : a = b := by rw [eqK_eq] at h; exact beq_iff_eq.1 h
theorem eqT_eq : ∀ (a b : List Nat), eqT a b = (a == b)
  | [], [] => rfl
  | [], _ :: _ => rfl
  | _ :: _, [] => rfl
  | a :: x, b :: y => by
    simp only [eqT, eqT_eq x y]
    rw [List.cons_beq_cons]
    congr 1
    rw [Bool.eq_iff_iff, Nat.beq_eq, beq_iff_eq]

theorem wr_eq (k : IntKind) (n : Int) : wr k n = k.wrap n := by
  unfold wr
  cases n with
  | ofNat a =>
    simp only
    cases h : Nat.ble a (inMax k) with
    | false => rfl
    | true =>
      simp only [cond_true]
      have ha := Nat.le_of_ble_eq_true h
      cases k <;> simp only [inMax] at ha <;> simp only [IntKind.wrap, IntKind.bits, IntKind.signed] <;> simp <;> omega
  | negSucc a =>
    simp only
    cases h : inNeg k a with
    | false => rfl
    | true =>
      simp only [cond_true]
      cases k <;> simp only [inNeg, Bool.false_eq_true] at h <;> (have ha := Nat.le_of_ble_eq_true h) <;> simp only [IntKind.wrap, IntKind.bits, IntKind.signed, Int.negSucc_eq] <;> simp <;> omega

theorem toList_nat (a b : ByteArray) : (a.data.toList.map (·.toNat) == b.data.toList.map (·.toNat)) = (a.toList == b.toList) := by
  rw [Go.Lib.toList_data, Go.Lib.toList_data]
  have inj : ∀ (x y : List UInt8), x.map (·.toNat) = y.map (·.toNat) → x = y := by
    intro x
    induction x with
    | nil => intro y h; cases y <;> simp_all
    | cons a x ih =>
      intro y h
      cases y with
      | nil => simp at h
      | cons b y =>
        simp only [List.map_cons, List.cons.injEq] at h
        rw [UInt8.toNat_inj.1 h.1, ih y h.2]
  rw [Bool.eq_iff_iff, beq_iff_eq, beq_iff_eq]
  exact ⟨inj _ _, fun h => by rw [h]⟩

theorem textLess_eq : ∀ (a b : List UInt8), textLess (a.map (·.toNat)) (b.map (·.toNat)) = Go.Op.bytesLess a b
  | _, [] => by simp [textLess, Go.Op.bytesLess]
  | [], _ :: _ => by simp [textLess, Go.Op.bytesLess]
  | a :: x, b :: y => by
    simp only [List.map_cons, textLess, Go.Op.bytesLess, textLess_eq x y]
    congr 1
    · rw [Bool.eq_iff_iff, Nat.blt_eq, decide_eq_true_iff, UInt8.lt_iff_toNat_lt]
    · congr 1
      rw [Bool.eq_iff_iff, Nat.beq_eq, beq_iff_eq, UInt8.toNat_inj]

theorem RepV.inv_d {M : Maps} {g : Gh} {w : World} {β : Nat → Nat} {x : D} {c : Value} (h : RepV M g w β (.d x) c) : RepD g.pub w x c := by
  cases h with
  | s h => cases h with | d _ _ h => exact h

theorem RepV.inv_ptr {M : Maps} {g : Gh} {w : World} {β : Nat → Nat} {id off : Nat} {c : Value} (h : RepV M g w β (.ptr id off) c) : c = .pointer (some ⟨g.φ id, off, none⟩) ∧ id < g.n := by
  cases h with
  | s h => cases h with | ptr _ _ h => exact ⟨rfl, h⟩
theorem RepV.inv_lp {M : Maps} {g : Gh} {w : World} {β : Nat → Nat} {s off : Nat} {c : Value} (h : RepV M g w β (.lp s off) c) : c = .pointer (some ⟨β s, off, none⟩) := by
  cases h with
  | s h => cases h
  | lp _ _ => rfl
theorem RepV.inv_cp {M : Maps} {g : Gh} {w : World} {β : Nat → Nat} {x : D} {c : Value} (h : RepV M g w β (.cp x) c) :
    ∃ b off vs, c = .pointer (some ⟨b, off, none⟩) ∧ RepDL g.pub w x.cells vs ∧ (∀ j v, vs[j]? = some v → w.cell? ⟨b, off + j, none⟩ = some v) ∧ off + vs.length ≤ g.pub b := by
  cases h with
  | s h => cases h
  | cp _ b off vs hr hc hp => exact ⟨b, off, vs, rfl, hr, hc, hp⟩
theorem repD_b {pub : Nat → Nat} {w : World} {z : Bool} {c : Value} (h : RepD pub w (.b z) c) : c = .bool z := by cases h; rfl
theorem repD_i {pub : Nat → Nat} {w : World} {k : IntKind} {n : Int} {c : Value} (h : RepD pub w (.i k n) c) : c = .int k n := by cases h; rfl
theorem repD_s {pub : Nat → Nat} {w : World} {t : List Nat} {c : Value} (h : RepD pub w (.s t) c) : ∃ x : ByteArray, c = .string x ∧ x.data.toList.map (·.toNat) = t := by
  cases h with | s _ x h => exact ⟨x, rfl, h⟩

section
variable {P : Program} {M : Maps} {g : Gh} {w : World} {β : Nat → Nat} {st : St} {o : Oper} {a : Act}

theorem sim_pick (hd : DstOk o a) (hR : Rel M g w β st a.tmps) {c x y : Operand} {c' x' y' : O} (hc : opnd M false c = some c') (hx : opnd M false x = some x') (hy : opnd M false y = some y')
    (ho : o.op = .pick c x y) {r : Or} (hr : ePick c' x' y' st = some r) : Left1 P M g w o a r := by
  have h1 := rd_rep hR hc
  unfold ePick at hr
  split at hr
  · rename_i z hz
    rw [hz] at h1
    have e1 := repD_b h1.inv_d
    cases z
    · exact left_pure hd hR (rd_rep hR hy) (by simp [Go.execOp, ho, e1, Go.asBool]) (by simpa using hr)
    · exact left_pure hd hR (rd_rep hR hx) (by simp [Go.execOp, ho, e1, Go.asBool]) (by simpa using hr)
  · cases hr

theorem sim_nilCheck (hd : DstOk o a) (hR : Rel M g w β st a.tmps) {x : Operand} {x' : O} (hx : opnd M false x = some x')
    (ho : o.op = .nilCheck x) {r : Or} (hr : eNilCheck x' st = some r) : Left1 P M g w o a r := by
  have h1 := rd_rep hR hx
  unfold eNilCheck at hr
  split at hr
  · rename_i id off hz
    rw [hz] at h1
    exact left_pure hd hR h1 (by simp [Go.execOp, ho, h1.inv_ptr.1]) hr
  · rename_i s off hz
    rw [hz] at h1
    exact left_pure hd hR h1 (by simp [Go.execOp, ho, h1.inv_lp]) hr
  · rename_i y hz
    rw [hz] at h1
    obtain ⟨b, off, vs, e, _⟩ := h1.inv_cp
    exact left_pure hd hR h1 (by simp [Go.execOp, ho, e]) hr
  · cases hr

theorem sim_un (hd : DstOk o a) (hR : Rel M g w β st a.tmps) {op : UnOp} {t : TypeId} {x : Operand} {x' : O} (hx : opnd M false x = some x')
    (ho : o.op = .unOp op t x) {r : Or} (hr : eUn op x' st = some r) : Left1 P M g w o a r := by
  have h1 := rd_rep hR hx
  unfold eUn at hr
  split at hr
  · rename_i y hz
    rw [hz] at h1
    split at hr
    · rename_i z hz2
      have h3 := h1.inv_d
      unfold unD at hz2
      split at hz2
      · rename_i k n
        have e1 := repD_i h3
        split at hz2
        · simp only [Option.some.injEq] at hz2
          subst hz2
          exact left_pure hd hR (.s (.d _ _ (.i k _))) (by simp [Go.execOp, ho, e1, Go.Op.unary, Go.Op.intArith, wr_eq]) hr
        · simp only [intBits, Option.map_some, Option.some.injEq] at hz2
          subst hz2
          exact left_pure hd hR (.s (.d _ _ (.i k _))) (by simp [Go.execOp, ho, e1, Go.Op.unary, Go.Op.intBits]) hr
        · cases hz2
      · rename_i z
        have e1 := repD_b h3
        split at hz2
        · simp only [Option.some.injEq] at hz2
          subst hz2
          exact left_pure hd hR (.s (.d _ _ (.b _))) (by simp [Go.execOp, ho, e1, Go.Op.unary]) hr
        · cases hz2
      · cases hz2
    · cases hr
  · cases hr

theorem sim_conv (hd : DstOk o a) (hR : Rel M g w β st a.tmps) {s t : TypeId} {ks k : IntKind} {x : Operand} {x' : O} (hx : opnd M false x = some x') (hs : P.underlying s = some (.int ks)) (ht : P.underlying t = some (.int k))
    (ho : o.op = .convert s t x) {r : Or} (hr : eConv k x' st = some r) : Left1 P M g w o a r := by
  have h1 := rd_rep hR hx
  unfold eConv at hr
  split at hr
  · rename_i k' n hz
    rw [hz] at h1
    have e1 := repD_i h1.inv_d
    exact left_pure hd hR (.s (.d _ _ (.i k _))) (by simp [Go.execOp, ho, e1, Go.convert, Go.run_underlying hs, Go.run_underlying ht, Go.Conv.intToInt, wr_eq]) hr
  · cases hr

theorem sim_convS (hd : DstOk o a) (hR : Rel M g w β st a.tmps) {s t : TypeId} {x : Operand} {x' : O} (hx : opnd M false x = some x') (hs : P.underlying s = some .string) (ht : P.underlying t = some .string)
    (ho : o.op = .convert s t x) {r : Or} (hr : eMovS x' st = some r) : Left1 P M g w o a r := by
  have h1 := rd_rep hR hx
  unfold eMovS at hr
  split at hr
  · rename_i y hz
    rw [hz] at h1
    obtain ⟨z, e1, _⟩ := repD_s h1.inv_d
    exact left_pure hd hR h1 (by simp [Go.execOp, ho, e1, Go.convert, Go.run_underlying hs, Go.run_underlying ht]) hr
  · cases hr
end
end W

/-
  Two operands: numbers, texts, equality.
-/
set_option linter.unusedSimpArgs false
set_option linter.unusedVariables false
namespace W
open Go (World Value Addr IntKind Program TypeId FuncId Operand Act Oper Next Result Sem BinOp UnOp)

theorem run_eqGuard_int {P : Program} {w : World} (op : BinOp) (t : TypeId) (x y : Operand) (k k' : IntKind) (a b : Int) : (Go.eqGuard op t x y (.int k a) (.int k' b)).run P w = .ok () w := by
  cases op <;> simp [Go.eqGuard]
theorem run_eqGuard_str {P : Program} {w : World} (op : BinOp) (t : TypeId) (x y : Operand) (a b : ByteArray) : (Go.eqGuard op t x y (.string a) (.string b)).run P w = .ok () w := by
  cases op <;> simp [Go.eqGuard]
theorem run_eqGuard_bool {P : Program} {w : World} (op : BinOp) (t : TypeId) (x y : Operand) (a b : Bool) : (Go.eqGuard op t x y (.bool a) (.bool b)).run P w = .ok () w := by
  cases op <;> simp [Go.eqGuard]

theorem run_binInt {P : Program} {w : World} {op : BinOp} {t : TypeId} {k : IntKind} {a b : Int} {z : D} (hs : isShift op = false) (h : binInt op k a b = some z) {pub : Nat → Nat} :
    ∃ c, (Go.binOp op t (.int k a) (.int k b)).run P w = .ok c w ∧ RepD pub w z c := by
  have nz : eqI b 0 = false → b ≠ 0 := fun hb => by rw [eqI_eq, beq_eq_false_iff_ne] at hb; exact hb
  have lt1 : (!leI b a) = decide (a < b) := by rw [leI_eq, ← decide_not]; congr 1; exact propext Int.not_le
  have lt2 : (!leI a b) = decide (a > b) := by rw [leI_eq, ← decide_not]; congr 1; exact propext Int.not_le
  cases op <;> simp only [isShift, Bool.true_eq_false, reduceCtorEq] at hs <;> simp only [binInt, intBits, Option.some.injEq, Option.map_some, reduceCtorEq, Option.map_none] at h
  case add => subst h; exact ⟨.int k (k.wrap (a + b)), by simp [Go.binOp, Go.Op.intArith], by rw [wr_eq]; exact .i _ _⟩
  case sub => subst h; exact ⟨.int k (k.wrap (a - b)), by simp [Go.binOp, Go.Op.intArith], by rw [wr_eq]; exact .i _ _⟩
  case mul => subst h; exact ⟨.int k (k.wrap (a * b)), by simp [Go.binOp, Go.Op.intArith], by rw [wr_eq]; exact .i _ _⟩
  case quo =>
    cases hb : eqI b 0 with
    | true => simp [hb] at h
    | false =>
      simp only [hb, cond_false, Option.some.injEq] at h
      subst h
      exact ⟨.int k (k.wrap (a.tdiv b)), by simp [Go.binOp, Go.Op.intDiv, nz hb], by rw [wr_eq]; exact .i _ _⟩
  case rem =>
    cases hb : eqI b 0 with
    | true => simp [hb] at h
    | false =>
      simp only [hb, cond_false, Option.some.injEq] at h
      subst h
      exact ⟨.int k (a.tmod b), by simp [Go.binOp, Go.Op.intDiv, nz hb], .i _ _⟩
  case and => subst h; exact ⟨_, by simp only [Go.binOp, ne_eq, not_true_eq_false, if_false, Go.Op.intBits]; rfl, .i _ _⟩
  case or => subst h; exact ⟨_, by simp only [Go.binOp, ne_eq, not_true_eq_false, if_false, Go.Op.intBits]; rfl, .i _ _⟩
  case xor => subst h; exact ⟨_, by simp only [Go.binOp, ne_eq, not_true_eq_false, if_false, Go.Op.intBits]; rfl, .i _ _⟩
  case andNot => subst h; exact ⟨_, by simp only [Go.binOp, ne_eq, not_true_eq_false, if_false, Go.Op.intBits]; rfl, .i _ _⟩
  case eql => subst h; exact ⟨.bool (a == b), by simp [Go.binOp, Go.Op.intCmp], by rw [eqI_eq]; exact .b _⟩
  case neq => subst h; exact ⟨.bool (a != b), by simp [Go.binOp, Go.Op.intCmp], by rw [eqI_eq]; exact .b _⟩
  case lss => subst h; exact ⟨.bool (decide (a < b)), by simp [Go.binOp, Go.Op.intCmp], by rw [lt1]; exact .b _⟩
  case leq => subst h; exact ⟨.bool (decide (a ≤ b)), by simp [Go.binOp, Go.Op.intCmp], by rw [leI_eq]; exact .b _⟩
  case gtr => subst h; exact ⟨.bool (decide (a > b)), by simp [Go.binOp, Go.Op.intCmp], by rw [lt2]; exact .b _⟩
  case geq => subst h; exact ⟨.bool (decide (a ≥ b)), by simp [Go.binOp, Go.Op.intCmp], by rw [leI_eq]; exact .b _⟩

theorem run_shift {P : Program} {w : World} {op : BinOp} {t : TypeId} {k k' : IntKind} {a b : Int} {z : D} (hs : isShift op = true) (h : shiftInt op k a b = some z) {pub : Nat → Nat} :
    ∃ c, (Go.binOp op t (.int k a) (.int k' b)).run P w = .ok c w ∧ RepD pub w z c := by
  unfold shiftInt at h
  cases hb : leI 0 b with
  | false => simp [hb] at h
  | true =>
    have h0 : ¬ b < 0 := by rw [leI_eq, decide_eq_true_iff] at hb; omega
    simp only [hb, Bool.not_true, cond_false] at h
    cases op <;> simp only [isShift, Bool.false_eq_true] at hs <;> simp only [Option.some.injEq] at h <;> subst h
    · exact ⟨.int k (k.wrap (a * 2 ^ (min b.toNat k.bits))), by simp [Go.binOp, Go.Op.shift, h0], by rw [wr_eq]; exact .i _ _⟩
    · exact ⟨.int k (a.fdiv (2 ^ (min b.toNat k.bits))), by simp [Go.binOp, Go.Op.shift, h0], .i _ _⟩

theorem run_binText {P : Program} {w : World} {op : BinOp} {t : TypeId} {x y : ByteArray} {z : D} (h : binText op (x.data.toList.map (·.toNat)) (y.data.toList.map (·.toNat)) = some z) {pub : Nat → Nat} :
    ∃ c, (Go.binOp op t (.string x) (.string y)).run P w = .ok c w ∧ RepD pub w z c := by
  have e1 : ∀ a b : ByteArray, eqT (a.data.toList.map (·.toNat)) (b.data.toList.map (·.toNat)) = (a.toList == b.toList) := fun a b => by rw [eqT_eq, toList_nat]
  have e2 : ∀ a b : ByteArray, textLess (a.data.toList.map (·.toNat)) (b.data.toList.map (·.toNat)) = Go.Op.bytesLess a.toList b.toList := fun a b => by
    rw [textLess_eq, Go.Lib.toList_data, Go.Lib.toList_data]
  cases op <;> simp only [binText, reduceCtorEq, Option.some.injEq, e1, e2] at h
  case add =>
    split at h
    · rename_i hl
      simp only [Option.some.injEq] at h
      subst h
      simp only [List.length_map] at hl
      have hsz : ¬ ((((x.size + y.size : Nat) : Int)) > IntKind.i64.max) := by
        have e : IntKind.i64.max = 9223372036854775807 := rfl
        rw [e]
        have a1 : x.data.toList.length = x.size := by rw [Array.length_toList]; rfl
        have a2 : y.data.toList.length = y.size := by rw [Array.length_toList]; rfl
        omega
      refine ⟨.string (x ++ y), ?_, .s _ _ ?_⟩
      · simp only [Go.binOp, Go.Op.stringOp, if_neg hsz, Sem.run_pure]
      · simp
    · cases h
  case eql => subst h; exact ⟨.bool (x.toList == y.toList), by simp [Go.binOp, Go.Op.stringOp], .b _⟩
  case neq => subst h; exact ⟨.bool (!(x.toList == y.toList)), by simp [Go.binOp, Go.Op.stringOp], .b _⟩
  case lss => subst h; exact ⟨.bool (Go.Op.bytesLess x.toList y.toList), by simp [Go.binOp, Go.Op.stringOp], .b _⟩
  case leq => subst h; exact ⟨.bool (Go.Op.bytesLess x.toList y.toList || x.toList == y.toList), by simp [Go.binOp, Go.Op.stringOp], .b _⟩
  case gtr => subst h; exact ⟨.bool (!(Go.Op.bytesLess x.toList y.toList || x.toList == y.toList)), by simp [Go.binOp, Go.Op.stringOp], .b _⟩
  case geq => subst h; exact ⟨.bool (!Go.Op.bytesLess x.toList y.toList), by simp [Go.binOp, Go.Op.stringOp], .b _⟩

theorem run_isAgg {P : Program} {t : TypeId} {d : Go.TypeDesc} (h : P.underlying t = some d) (w : World) : (Go.isAgg t).run P w = .ok (isAggD d) w := by
  unfold Go.isAgg
  rw [Sem.run_bind, Go.run_underlying h]
  cases d <;> rfl

theorem run_eqFields {P : Program} {w : World} {d : Nat} : ∀ {fs : List Go.Field} {i : Nat} {ks : List Nat} {l r : List D} {xs ys : Array Value} {z : Bool} {pub : Nat → Nat},
    aggKinds P i fs = some ks → RepDL pub w l (xs.toList.drop i) → RepDL pub w r (ys.toList.drop i) → D.scalarSame ks l r = some z →
    (Go.Op.eqFields (d + 1) xs ys fs).run P w = .ok z w
  | [], i, ks, l, r, xs, ys, z, pub, hk, hl, hr, hz => by
    simp only [aggKinds, Option.some.injEq] at hk
    subst hk
    cases l <;> cases r <;> simp [D.scalarSame] at hz
    subst hz
    simp [Go.Op.eqFields]
  | f :: fs, i, ks, l, r, xs, ys, z, pub, hk, hl, hr, hz => by
    simp only [aggKinds] at hk
    split at hk
    · rename_i hf
      simp only [Bool.and_eq_true, bne_iff_ne, ne_eq, beq_iff_eq] at hf
      obtain ⟨hn, hoff⟩ := hf
      -- the two cells
      have cell : ∀ {m : List D} {vs : Array Value}, RepDL pub w m (vs.toList.drop i) → ∀ {x : D} {m' : List D}, m = x :: m' → ∃ c, vs[i]? = some c ∧ RepD pub w x c ∧ RepDL pub w m' (vs.toList.drop (i + 1)) := by
        intro m vs hm x m' e
        subst e
        generalize hdr : vs.toList.drop i = dv at hm
        cases hm with
        | cons _ c _ vs' hx hl' =>
          have h0 : (vs.toList.drop i)[0]? = some c := by rw [hdr]; rfl
          refine ⟨c, by simpa using h0, hx, ?_⟩
          have : vs.toList.drop (i + 1) = vs' := by
            have := congrArg List.tail hdr
            rw [List.tail_drop] at this
            simpa using this
          rw [this]; exact hl'
      have part1 : ∀ {vs : Array Value} {c : Value}, vs[i]? = some c → ∀ {dd : Go.TypeDesc}, P.underlying f.type = some dd → isAggD dd = false → (Go.part f.type vs f.offset).run P w = .ok c w := by
        intro vs c hc dd hu hd
        rw [hoff]
        simp only [Go.part, Sem.run_bind, run_isAgg hu w, hd, Result.andThen_ok, Bool.false_eq_true, if_false, hc, Sem.run_pure]
      split at hk
      · rename_i rest hu hl' hrest
        simp only [Option.some.injEq] at hk
        subst hk
        match l, r, hz with
        | .b x :: l, .b y :: r, hz =>
          simp only [D.scalarSame] at hz
          split at hz
          · rename_i z' hz'
            simp only [Option.some.injEq] at hz
            subst hz
            obtain ⟨c1, h1, r1, t1⟩ := cell hl rfl
            obtain ⟨c2, h2, r2, t2⟩ := cell hr rfl
            have e1 := repD_b r1; have e2 := repD_b r2
            subst e1; subst e2
            simp only [Go.Op.eqFields, ne_eq, hn, not_false_eq_true, if_true, Sem.run_bind, part1 h1 hu rfl, part1 h2 hu rfl, Result.andThen_ok, Go.run_equalIn_bool' w d f.type x y hu]
            cases hxy : (x == y)
            · simp
            · simpa using run_eqFields hrest t1 t2 hz'
          · cases hz
      · rename_i rest kk hu hl' hrest
        simp only [Option.some.injEq] at hk
        subst hk
        match l, r, hz with
        | .i k x :: l, .i k' y :: r, hz =>
          simp only [D.scalarSame] at hz
          cases hkk : eqK k k' with
          | false => simp [hkk] at hz
          | true =>
            have := eqK_true hkk
            subst this
            simp only [hkk, cond_true] at hz
            split at hz
            · rename_i z' hz'
              simp only [Option.some.injEq] at hz
              subst hz
              obtain ⟨c1, h1, r1, t1⟩ := cell hl rfl
              obtain ⟨c2, h2, r2, t2⟩ := cell hr rfl
              have e1 := repD_i r1; have e2 := repD_i r2
              subst e1; subst e2
              simp only [Go.Op.eqFields, ne_eq, hn, not_false_eq_true, if_true, Sem.run_bind, part1 h1 hu rfl, part1 h2 hu rfl, Result.andThen_ok, Go.run_equalIn_int w d f.type k rest x y hu, eqI_eq]
              cases hxy : (x == y)
              · simp
              · simpa using run_eqFields hrest t1 t2 hz'
            · cases hz
      · rename_i rest hu hl' hrest
        simp only [Option.some.injEq] at hk
        subst hk
        match l, r, hz with
        | .s x :: l, .s y :: r, hz =>
          simp only [D.scalarSame] at hz
          split at hz
          · rename_i z' hz'
            simp only [Option.some.injEq] at hz
            subst hz
            obtain ⟨c1, h1, r1, t1⟩ := cell hl rfl
            obtain ⟨c2, h2, r2, t2⟩ := cell hr rfl
            obtain ⟨s1, e1, f1⟩ := repD_s r1
            obtain ⟨s2, e2, f2⟩ := repD_s r2
            subst e1; subst e2; subst f1; subst f2
            simp only [Go.Op.eqFields, ne_eq, hn, not_false_eq_true, if_true, Sem.run_bind, part1 h1 hu rfl, part1 h2 hu rfl, Result.andThen_ok, Go.run_equalIn_string w d f.type s1 s2 hu, eqT_eq, toList_nat]
            cases hxy : (s1.toList == s2.toList)
            · simp
            · simpa using run_eqFields hrest t1 t2 hz'
          · cases hz
      · cases hk
    · cases hk

section
variable {P : Program} {M : Maps} {g : Gh} {w : World} {β : Nat → Nat} {st : St} {o : Oper} {a : Act}

/-- A value of a type whose values may be nil, and whether it is. -/
inductive NilIs : Go.TypeDesc → Value → Bool → Prop
  | p0 (el : TypeId) : NilIs (.pointer el) (.pointer none) true
  | p1 (el : TypeId) (ad : Addr) : NilIs (.pointer el) (.pointer (some ad)) false
  | s0 (el : TypeId) : NilIs (.slice el) (.slice none 0 0) true
  | s1 (el : TypeId) (ad : Addr) (n m : Nat) : NilIs (.slice el) (.slice (some ad) n m) false
  | m0 (k e : TypeId) : NilIs (.map k e) (.map none) true
  | m1 (k e : TypeId) (r : Nat) : NilIs (.map k e) (.map (some r)) false
  | f0 (p r : Array TypeId) (q : Bool) : NilIs (.func p r q) .nilFunc true
  | f1 (p r : Array TypeId) (q : Bool) (f : Go.Fn) (x y : Array Value) : NilIs (.func p r q) (.func f x y) false
  | i0 (m : Array (String × TypeId)) : NilIs (.interface m) .nilIface true
  | i1 (m : Array (String × TypeId)) (t : TypeId) (x : Value) : NilIs (.interface m) (.iface t x) false

theorem isNil_spec {kd : Kd} {t : TypeId} (ht : kdOf P t = some kd) {v : V} {e : Value} {b : Bool} (hv : RepV M g w β v e) (hb : V.isNil kd v = some b) :
    ∃ dd, P.underlying t = some dd ∧ NilIs dd e b := by
  have hk : (kd = .ptr → ∃ el, P.underlying t = some (.pointer el)) ∧ (kd = .slice → ∃ el, P.underlying t = some (.slice el)) ∧ (kd = .map → ∃ k el, P.underlying t = some (.map k el)) ∧
      (kd = .func → ∃ p r q, P.underlying t = some (.func p r q)) ∧ (kd = .iface → ∃ m, P.underlying t = some (.interface m)) := by
    unfold kdOf at ht
    refine ⟨?_, ?_, ?_, ?_, ?_⟩ <;> rintro rfl <;> split at ht <;> (try simp only [Option.some.injEq, reduceCtorEq] at ht) <;> first
      | exact ⟨_, by assumption⟩
      | exact ⟨_, _, by assumption⟩
      | exact ⟨_, _, _, by assumption⟩
      | (split at ht <;> first | (cases ht; done) | (rename_i fs _ _; cases hq : aggKinds P 0 fs.toList <;> simp [hq] at ht))
  obtain ⟨k1, k2, k3, k4, k5⟩ := hk
  unfold V.isNil at hb
  split at hb <;> simp only [Option.some.injEq, reduceCtorEq] at hb <;> try subst hb
  · obtain ⟨el, hu⟩ := k1 rfl; cases hv.inv_d; exact ⟨_, hu, .p0 el⟩
  · obtain ⟨el, hu⟩ := k1 rfl; obtain ⟨rfl, _⟩ := hv.inv_ptr; exact ⟨_, hu, .p1 el _⟩
  · obtain ⟨el, hu⟩ := k2 rfl; cases hv.inv_d; exact ⟨_, hu, .s0 el⟩
  · obtain ⟨el, hu⟩ := k2 rfl; cases hv.inv_d <;> exact ⟨_, hu, .s1 el _ _ _⟩
  · obtain ⟨el, hu⟩ := k2 rfl; cases hv with | s h => cases h; exact ⟨_, hu, .s1 el _ _ _⟩
  · obtain ⟨k, el, hu⟩ := k3 rfl; cases hv.inv_d; exact ⟨_, hu, .m0 k el⟩
  · obtain ⟨k, el, hu⟩ := k3 rfl; cases hv with | s h => cases h; exact ⟨_, hu, .m1 k el _⟩
  · obtain ⟨p, r, q, hu⟩ := k4 rfl; cases hv.inv_d; exact ⟨_, hu, .f0 p r q⟩
  · obtain ⟨p, r, q, hu⟩ := k4 rfl; cases hv with | s h => cases h; exact ⟨_, hu, .f1 p r q _ _ _⟩
  · obtain ⟨m, hu⟩ := k5 rfl; cases hv.inv_d; exact ⟨_, hu, .i0 m⟩
  · obtain ⟨m, hu⟩ := k5 rfl; cases hv with | s h => cases h; exact ⟨_, hu, .i1 m _ _⟩

theorem nil_equal {t : TypeId} {dd : Go.TypeDesc} (hu : P.underlying t = some dd) {c d : Value} {b1 b2 : Bool} (h1 : NilIs dd c b1) (h2 : NilIs dd d b2) (hb : b1 = true ∨ b2 = true) (n : Nat) :
    (Go.Op.equalIn (n + 1) t c d).run P w = .ok (b1 && b2) w := by
  cases h1 <;> cases h2 <;> (try (simp at hb; done)) <;> simp only [Go.Op.equalIn, Sem.run_bind, Go.run_underlying hu, Result.andThen_ok] <;> rfl

theorem nil_guard {t : TypeId} {dd : Go.TypeDesc} {c d : Value} {b1 b2 : Bool} (h1 : NilIs dd c b1) (h2 : NilIs dd d b2) {xo yo : Operand} (hcst : (∃ v, xo = .const v) ∨ (∃ v, yo = .const v)) (op : BinOp) :
    (Go.eqGuard op t xo yo c d).run P w = .ok () w := by
  cases h1 <;> cases h2 <;> cases op <;> first
    | (simp only [Go.eqGuard]; rfl)
    | (simp only [Go.eqGuard]; rcases hcst with ⟨v, rfl⟩ | ⟨v, rfl⟩ <;> simp)

theorem nil_binOp {t : TypeId} {dd : Go.TypeDesc} {c d : Value} {b1 b2 : Bool} (h1 : NilIs dd c b1) (h2 : NilIs dd d b2) {op : BinOp} (hop : op = .eql ∨ op = .neq) :
    Go.binOp op t c d = (do let r ← Go.Op.equal t c d; pure (.bool (if op = .eql then r else !r))) := by
  rcases hop with rfl | rfl <;> cases h1 <;> cases h2 <;> simp [Go.binOp]

theorem run_nilEq {kd : Kd} {t : TypeId} (ht : kdOf P t = some kd) {x y : V} {c d : Value} (hx : RepV M g w β x c) (hy : RepV M g w β y d) {z : Bool} (xo yo : Operand)
    (hcst : (∃ v, xo = .const v) ∨ (∃ v, yo = .const v))
    (h : (match V.isNil kd x, V.isNil kd y with
      | some true, some b => some b
      | some false, some true => some false
      | _, _ => none) = some z) :
    (Go.Op.equal t c d).run P w = .ok z w ∧ (∀ op, (Go.eqGuard op t xo yo c d).run P w = .ok () w) ∧ ∀ op, op = .eql ∨ op = .neq → Go.binOp op t c d = (do let r ← Go.Op.equal t c d; pure (.bool (if op = .eql then r else !r))) := by
  cases h1 : V.isNil kd x with
  | none => simp [h1] at h
  | some b1 => cases h2 : V.isNil kd y with
    | none => cases b1 <;> simp [h1, h2] at h
    | some b2 =>
      obtain ⟨dd, hu, n1⟩ := isNil_spec ht hx h1
      obtain ⟨dd', hu', n2⟩ := isNil_spec ht hy h2
      rw [hu] at hu'
      simp only [Option.some.injEq] at hu'
      subst hu'
      rw [h1, h2] at h
      refine ⟨?_, nil_guard n1 n2 hcst, fun op => nil_binOp n1 n2⟩
      have hm : Go.Op.equal t c d = Go.Op.equalIn (9999 + 1) t c d := rfl
      rw [hm]
      cases b1 <;> cases b2 <;> simp only [Option.some.injEq, reduceCtorEq] at h <;> subst h <;> exact nil_equal hu n1 n2 (by simp) _

theorem sim_bin (hd : DstOk o a) (hR : Rel M g w β st a.tmps) {op : BinOp} {t yt : TypeId} {kd : Kd} {x y : Operand} {x' y' : O} (hx : opnd M false x = some x') (hy : opnd M false y = some y') (ht : kdOf P t = some kd)
    (ho : o.op = .binOp op t x y yt) {r : Or} (hr : eBin op kd x' y' st = some r) : Left1 P M g w o a r := by
  have h1 := rd_rep hR hx
  have h2 := rd_rep hR hy
  have cst : ∀ {q : Operand} {q' : O}, opnd M false q = some q' → isC q' = true → ∃ v, q = .const v := by
    intro q q' h hc
    cases q <;> simp only [opnd] at h
    · simp only [Bool.false_eq_true, if_false, Option.some.injEq] at h; subst h; simp [isC] at hc
    · exact ⟨_, rfl⟩
    · rename_i f
      cases hl : look M.gl f with
      | none => rw [hl] at h; cases h
      | some z => rw [hl] at h; simp only [Option.map_some, Option.some.injEq] at h; subst h; simp [isC] at hc
    · rename_i f
      cases hl : look M.fm f with
      | none => rw [hl] at h; cases h
      | some z => rw [hl] at h; simp only [Option.map_some, Option.some.injEq] at h; subst h; simp [isC] at hc
  unfold eBin at hr
  split at hr
  · rename_i v hv
    -- what is to be shown
    suffices hs : ∃ c, (do Go.eqGuard op t x y (a.eval x) (a.eval y); Go.binOp op t (a.eval x) (a.eval y) : Sem Value).run P w = .ok c w ∧ RepV M g w β v c by
      obtain ⟨c, hc, hv'⟩ := hs
      refine left_pure hd hR hv' ?_ hr
      simp only [Go.execOp, ho]
      rw [Sem.run_bind, hc]
      rfl
    unfold binV at hv
    split at hv
    · split at hv
      · rename_i k p k' q e1 e2
        rw [e1] at h1; rw [e2] at h2
        have f1 := repD_i h1.inv_d; have f2 := repD_i h2.inv_d
        rw [f1, f2]
        cases hs : isShift op with
        | true =>
          simp only [hs, cond_true] at hv
          cases hz : shiftInt op k p q with
          | none => simp [hz] at hv
          | some z =>
            simp only [hz, Option.map_some, Option.some.injEq] at hv
            subst hv
            obtain ⟨c, hc, hrep⟩ := run_shift (P := P) (w := w) (t := t) (k' := k') hs hz (pub := g.pub)
            exact ⟨c, by rw [Sem.run_bind, run_eqGuard_int]; exact hc, .s (.d _ _ hrep)⟩
        | false =>
          simp only [hs, cond_false] at hv
          cases hkk : eqK k k' with
          | false => simp [hkk] at hv
          | true =>
            have := eqK_true hkk
            subst this
            simp only [hkk, cond_true] at hv
            cases hz : binInt op k p q with
            | none => simp [hz] at hv
            | some z =>
              simp only [hz, Option.map_some, Option.some.injEq] at hv
              subst hv
              obtain ⟨c, hc, hrep⟩ := run_binInt (P := P) (w := w) (t := t) hs hz (pub := g.pub)
              exact ⟨c, by rw [Sem.run_bind, run_eqGuard_int]; exact hc, .s (.d _ _ hrep)⟩
      · rename_i p q e1 e2
        rw [e1] at h1; rw [e2] at h2
        obtain ⟨s1, f1, g1⟩ := repD_s h1.inv_d
        obtain ⟨s2, f2, g2⟩ := repD_s h2.inv_d
        rw [f1, f2]
        cases hz : binText op p q with
        | none => simp [hz] at hv
        | some z =>
          simp only [hz, Option.map_some, Option.some.injEq] at hv
          subst hv
          rw [← g1, ← g2] at hz
          obtain ⟨c, hc, hrep⟩ := run_binText (P := P) (w := w) (t := t) hz (pub := g.pub)
          exact ⟨c, by rw [Sem.run_bind, run_eqGuard_str]; exact hc, .s (.d _ _ hrep)⟩
      · cases hv
    · -- equality
      have key : ∀ {z : Bool}, sameV kd (isC x' || isC y') (rd st.env x') (rd st.env y') = some z →
          (Go.Op.equal t (a.eval x) (a.eval y)).run P w = .ok z w ∧ (∀ op, (Go.eqGuard op t x y (a.eval x) (a.eval y)).run P w = .ok () w) ∧
          ∀ op, op = .eql ∨ op = .neq → Go.binOp op t (a.eval x) (a.eval y) = (do let r ← Go.Op.equal t (a.eval x) (a.eval y); pure (.bool (if op = .eql then r else !r))) := by
        intro z hz
        unfold sameV at hz
        split at hz
        · split at hz
          · rename_i p q e1 e2
            rw [e1] at h1; rw [e2] at h2
            have f1 := repD_b h1.inv_d; have f2 := repD_b h2.inv_d
            simp only [Option.some.injEq] at hz
            subst hz
            rw [f1, f2]
            have hu : P.underlying t = some .bool := by
              unfold kdOf at ht
              split at ht <;> simp_all
            refine ⟨?_, fun op => run_eqGuard_bool op t x y p q, ?_⟩
            · have hm : Go.Op.equal t (.bool p) (.bool q) = Go.Op.equalIn (9999 + 1) t (.bool p) (.bool q) := rfl
              rw [hm]
              exact Go.run_equalIn_bool' w 9999 t p q hu
            · rintro op (rfl | rfl) <;> simp [Go.binOp]
          · cases hz
        · rename_i ks
          split at hz
          · rename_i p q e1 e2
            rw [e1] at h1; rw [e2] at h2
            have r1 := h1.inv_d; have r2 := h2.inv_d
            generalize a.eval x = cx at r1 ⊢
            generalize a.eval y = cy at r2 ⊢
            cases r1 with
            | agg _ vs1 l1 => cases r2 with
              | agg _ vs2 l2 =>
                unfold kdOf at ht
                split at ht <;> (try simp only [Option.some.injEq, reduceCtorEq] at ht)
                rename_i fs hu
                split at ht
                · rename_i hcond
                  simp only [Bool.and_eq_true, Bool.not_eq_true'] at hcond
                  cases hk : aggKinds P 0 fs.toList with
                  | none => simp [hk] at ht
                  | some ks' =>
                    simp only [hk, Option.map_some, Option.some.injEq, Kd.agg.injEq] at ht
                    subst ht
                    have hfs : P.fieldsOf t = fs := by simp [Go.Program.fieldsOf, hu]
                    refine ⟨?_, fun op => Go.run_eqGuard_agg w op t x y vs1 vs2 hcond.1, ?_⟩
                    · have hm : Go.Op.equal t (.agg vs1) (.agg vs2) = Go.Op.equalIn (9998 + 1 + 1) t (.agg vs1) (.agg vs2) := rfl
                      rw [hm]
                      rw [Go.run_equalIn_struct w _ t vs1 vs2 (by rw [hfs]; exact hu) hcond.2, hfs]
                      exact run_eqFields hk (by simpa using l1) (by simpa using l2) hz
                    · rintro op (rfl | rfl) <;> simp [Go.binOp]
                · cases ht
          · cases hz
        · cases hc : (isC x' || isC y') with
          | false => simp [hc] at hz
          | true =>
            simp only [hc, cond_true] at hz
            refine run_nilEq ht h1 h2 x y ?_ hz
            simp only [Bool.or_eq_true] at hc
            exact hc.imp (fun h => cst hx h) (fun h => cst hy h)
      split at hv
      · cases hz : sameV kd (isC x' || isC y') (rd st.env x') (rd st.env y') with
        | none => simp [hz] at hv
        | some z =>
          simp only [hz, Option.map_some, Option.some.injEq] at hv
          subst hv
          obtain ⟨k1, k2, k3⟩ := key hz
          exact ⟨.bool z, by rw [Sem.run_bind, k2, k3 _ (.inl rfl)]; simp [k1], .s (.d _ _ (.b z))⟩
      · cases hz : sameV kd (isC x' || isC y') (rd st.env x') (rd st.env y') with
        | none => simp [hz] at hv
        | some z =>
          simp only [hz, Option.map_some, Option.some.injEq] at hv
          subst hv
          obtain ⟨k1, k2, k3⟩ := key hz
          exact ⟨.bool !z, by rw [Sem.run_bind, k2, k3 _ (.inr rfl)]; simp [k1], .s (.d _ _ (.b _))⟩
      · cases hv
  · cases hr
end
end W

