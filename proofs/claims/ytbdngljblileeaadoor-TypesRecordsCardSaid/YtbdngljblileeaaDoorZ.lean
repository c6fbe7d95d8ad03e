/- TypesRecords: the fields of records, which extend which, and how many words types have, as the document says: for every list of records that name one another and all types. -/
import Derived.Test.YtbdngljblileeaaDoorCards
import Derived.Test.YtbdngljblileeaaDoorTie
import Derived.WalkKit
import Derived.ProofKit
import Derived.OpenShut
import Derived.Deep.DeepHandedRow
import Derived.Deep.DeepWitnessRowRef
import Derived.Lib.LaidTab
import Derived.Lay
import Derived.Test.YtbdngljblileeaaDoorW6
set_option linter.unusedVariables false
set_option linter.unusedSimpArgs false
namespace Go.Proofs.YtbdngljblileeaaDoor
open Go.ChangeShapes Go.WideShapes Go.ChangeAt Go.RowKit W
set_option maxRecDepth 100000
theorem own : ownKnob Tryd.prog.godebug = none := by kernel_rfl
theorem bulk_ok {H : Type} : Bulk (Rows.uptoBulk (H := H)) Rows.uptoBulkAll :=
  ⟨fun _ => rfl, fun l => by cases l <;> simp [Rows.uptoBulk], rfl, fun _ _ => rfl, fun _ => rfl, rfl, fun _ _ => rfl⟩
def maps : Maps := { fm := (List.range 75).map fun i => (i, i), tm := (List.range 109).map fun i => (i, i), gl := [(0, glD 0), (1, glD 1), (2, glD 2)], bk := [(37, ⟨4, true⟩)] }
theorem tr_2 : trFn maps Tryd.prog { loc := [], org := [], mv := [], bl := [], ll := [] } false Tryd.f2 = some f_gosem_cut_init := by kernel_rfl
theorem tr_3 : trFn maps Tryd.prog { loc := [9, 20], org := [(9, 9), (20, 20)], mv := [(10, 2, 0), (10, 0, 0), (10, 1, 0)], bl := [(1, [0, 1, 2, 3, 9, 11]), (0, [0, 1, 2, 3, 9]), (3, [12, 100, 101, 102]), (2, [])], ll := [(0, [0, 1, 2, 3, 9, 11]), (2, [12, 100, 101, 102])] } true Tryd.f3 = some f_waferlaw12_TypesRecords := by kernel_rfl
theorem tr_4 : trFn maps Tryd.prog { loc := [8, 9], org := [(8, 8), (9, 9)], mv := [(11, 11, 0), (11, 5, 0), (11, 7, 0), (11, 2, 0), (11, 4, 0), (10, 2, 0), (10, 0, 0), (10, 1, 0)], bl := [(1, [0, 1, 2, 8, 9, 11]), (0, [0, 1, 2, 8, 9]), (5, [12, 13, 14, 15]), (4, [12, 13, 14]), (3, [12, 13, 14]), (2, [])], ll := [(0, [0, 1, 2, 8, 9, 11]), (2, [12, 13, 14]), (4, [12, 13, 14, 15])] } true Tryd.f4 = some f_waferlaw12_TypesFit := by kernel_rfl
theorem tr_5 : trFn maps Tryd.prog { loc := [10], org := [(10, 10), (54, 10)], mv := [(23, 4, 0), (23, 5, 2)], bl := [(1, [1, 2, 7, 8, 9]), (0, [1, 2, 7, 8]), (3, [8, 11, 12, 13, 14, 15, 19]), (2, [8, 11, 12, 13, 14])], ll := [(0, [1, 2, 7, 8, 9]), (2, [8, 11, 12, 13, 14, 15, 19])] } true Tryd.f5 = some f_waferlaw12_TypesChain := by kernel_rfl
theorem tr_6 : trFn maps Tryd.prog { loc := [6, 7], org := [(6, 6), (63, 6), (7, 7)], mv := [(7, 4, 0), (7, 5, 1), (4, 4, 1)], bl := [], ll := [] } true Tryd.f6 = some f_waferlaw12_TypesGreat := by kernel_rfl
theorem tr_7 : trFn maps Tryd.prog { loc := [1], org := [(1, 1)], mv := [(1, 3, 1)], bl := [], ll := [] } true Tryd.f7 = some f_waferlaw12_known := by kernel_rfl
theorem tr_8 : trFn maps Tryd.prog { loc := [2], org := [(2, 2), (9, 2), (15, 2), (21, 2)], mv := [], bl := [(1, [1, 2, 5]), (0, [])], ll := [(0, [1, 2, 5])] } true Tryd.f8 = some f_waferlaw12_light := by kernel_rfl
theorem tr_9 : trFn maps Tryd.prog { loc := [5], org := [(5, 5), (43, 5), (58, 5), (83, 5)], mv := [(12, 26, 1), (12, 1, 9), (12, 24, 0), (6, 7, 0)], bl := [(3, [0, 3, 4, 5, 7]), (2, [0, 3, 4, 5]), (1, [0, 3, 4]), (0, [3])], ll := [(0, [0, 3, 4]), (2, [0, 3, 4, 5, 7])] } true Tryd.f9 = some f_waferlaw12_made := by kernel_rfl
theorem tr_10 : trFn maps Tryd.prog { loc := [10, 12], org := [(10, 10), (25, 10), (12, 12), (32, 12), (35, 12)], mv := [(11, 4, 1), (11, 0, 9), (11, 3, 0), (10, 4, 1), (5, 0, 0), (5, 1, 0), (1, 1, 0), (1, 2, 1), (1, 0, 0), (1, 2, 0)], bl := [(3, [8, 26, 27, 28]), (2, [8]), (1, [8]), (0, [8])], ll := [(2, [8, 26, 27, 28])], rl := [(0, [4, 5, 8])], rk := [(0, 37)] } false Tryd.f10 = some f_types_Fields := by kernel_rfl
theorem tr_11 : trFn maps Tryd.prog { loc := [], org := [], mv := [(1, 0, 0), (1, 4, 0)], bl := [], ll := [] } false Tryd.f11 = some f_waferref11_Fields := by kernel_rfl
theorem tr_12 : trFn maps Tryd.prog { loc := [], org := [], mv := [], bl := [(1, [0, 1, 5]), (0, [])], ll := [(0, [0, 1, 5])] } true Tryd.f12 = some f_waferhelp_Vars := by kernel_rfl
theorem tr_13 : trFn maps Tryd.prog { loc := [8], org := [(8, 8), (29, 8), (33, 8)], mv := [], bl := [(1, [0, 1, 2, 7]), (0, [])], ll := [(0, [0, 1, 2, 7])] } true Tryd.f13 = some f_types_Extends := by kernel_rfl
theorem tr_14 : trFn maps Tryd.prog { loc := [8], org := [(8, 8), (28, 8), (32, 8)], mv := [], bl := [(1, [0, 1, 2, 7]), (0, [])], ll := [(0, [0, 1, 2, 7])] } true Tryd.f14 = some f_waferref11_Extends := by kernel_rfl
theorem tr_15 : trFn maps Tryd.prog { loc := [3, 4], org := [(3, 3), (4, 4)], mv := [(17, 6, 1), (15, 6, 1), (7, 6, 1), (5, 1, 1)], bl := [(0, [3, 4])], ll := [] } true Tryd.f15 = some f_waferlaw12_typeOf := by kernel_rfl
theorem tr_16 : trFn maps Tryd.prog { loc := [3, 4], org := [(3, 3), (4, 4)], mv := [], bl := [], ll := [] } true Tryd.f16 = some f_waferref11_Arr := by kernel_rfl
theorem tr_17 : trFn maps Tryd.prog { loc := [2], org := [(2, 2)], mv := [(2, 3, 0), (2, 0, 0), (2, 2, 0)], bl := [], ll := [] } false Tryd.f17 = some f_types_Words := by kernel_rfl
theorem tr_18 : trFn maps Tryd.prog { loc := [2], org := [(2, 2)], mv := [(1, 1, 0), (1, 3, 1)], bl := [], ll := [] } false Tryd.f18 = some f_waferref11_Words := by kernel_rfl
theorem tr_19 : trFn maps Tryd.prog { loc := [2], org := [(2, 2)], mv := [], bl := [], ll := [] } true Tryd.f19 = some f_waferref11_Basic := by kernel_rfl
theorem tr_20 : trFn maps Tryd.prog { loc := [3, 4], org := [(3, 3), (8, 3), (18, 3), (23, 3), (30, 3), (34, 3), (39, 3), (4, 4), (12, 4), (16, 4), (26, 4)], mv := [(6, 3, 0), (5, 3, 0), (2, 6, 0), (2, 4, 0), (2, 5, 2)], bl := [(0, [])], ll := [] } true Tryd.f20 = some f_types_Fits := by kernel_rfl
theorem tr_21 : trFn maps Tryd.prog { loc := [3, 4], org := [(3, 3), (7, 3), (31, 3), (4, 4), (21, 4), (25, 4), (29, 4)], mv := [(8, 3, 0)], bl := [(0, [])], ll := [] } true Tryd.f21 = some f_waferref11_Fits := by kernel_rfl
theorem tr_22 : trFn maps Tryd.prog { loc := [1], org := [(1, 1), (4, 1), (20, 1), (25, 1), (30, 1), (39, 1), (43, 1)], mv := [], bl := [(0, [])], ll := [] } true Tryd.f22 = some f_types_Text := by kernel_rfl
theorem tr_23 : trFn maps Tryd.prog { loc := [1], org := [(1, 1), (4, 1), (7, 1), (11, 1), (16, 1), (22, 1), (25, 1), (29, 1), (34, 1), (39, 1), (45, 1), (52, 1), (56, 1), (60, 1), (64, 1), (69, 1)], mv := [(1, 3, 0)], bl := [(0, [])], ll := [] } true Tryd.f23 = some f_types_Right := by kernel_rfl
theorem tr_24 : trFn maps Tryd.prog { loc := [2, 3], org := [(2, 2), (6, 2), (12, 2), (15, 2), (21, 2), (28, 2), (32, 2), (36, 2), (3, 3), (8, 3), (17, 3), (23, 3), (38, 3)], mv := [], bl := [(0, [])], ll := [] } true Tryd.f24 = some f_types_Same := by kernel_rfl
theorem tr_25 : trFn maps Tryd.prog { loc := [2], org := [(2, 2)], mv := [], bl := [], ll := [] } true Tryd.f25 = some f_types_Basic := by kernel_rfl
theorem tr_26 : trFn maps Tryd.prog { loc := [8], org := [(8, 8), (32, 8)], mv := [(8, 4, 0), (8, 0, 0), (8, 3, 0)], bl := [(1, [0, 1, 6, 7]), (0, [6])], ll := [(0, [0, 1, 6, 7])] } false Tryd.f26 = some f_types_chain := by kernel_rfl
theorem tr_27 : trFn maps Tryd.prog { loc := [], org := [], mv := [], bl := [], ll := [] } true Tryd.f27 = some f_slices_Backward___api_Rec_api_Rec_ := by kernel_rfl
theorem tr_28 : trFn maps Tryd.prog { loc := [1, 2, 3, 5], org := [(1, 1), (8, 1), (2, 2), (3, 3), (7, 3), (15, 3), (21, 3), (5, 5)], mv := [(6, 7, 1), (6, 1, 9), (6, 5, 0)], bl := [(1, [2, 3, 9, 10, 11]), (0, [2, 3])], ll := [(0, [2, 3, 9, 10, 11])] } true Tryd.f28 = some f_types_Clone := by kernel_rfl
theorem tr_29 : trFn maps Tryd.prog { loc := [8], org := [(8, 8), (23, 8), (27, 8), (43, 8)], mv := [(9, 9, 0), (9, 8, 0), (6, 2, 0), (6, 5, 1)], bl := [], ll := [] } false Tryd.f29 = some f_waferref11_fields := by kernel_rfl
theorem tr_30 : trFn maps Tryd.prog { loc := [2, 3], org := [(2, 2), (6, 2), (12, 2), (19, 2), (26, 2), (35, 2), (41, 2), (3, 3), (8, 3), (14, 3), (21, 3), (29, 3), (46, 3)], mv := [], bl := [(1, [2, 3, 5]), (0, [])], ll := [(0, [2, 3, 5])] } true Tryd.f30 = some f_waferref11_Alike := by kernel_rfl
theorem tr_31 : trFn maps Tryd.prog { loc := [3], org := [(3, 3), (11, 3), (15, 3), (24, 3), (30, 3), (34, 3), (38, 3)], mv := [(9, 4, 0), (9, 0, 0), (9, 3, 0), (4, 6, 0), (4, 0, 0), (4, 5, 0)], bl := [(0, [])], ll := [] } true Tryd.f31 = some f_types_sizes_words := by kernel_rfl
theorem tr_32 : trFn maps Tryd.prog { loc := [3], org := [(3, 3), (21, 3), (26, 3), (39, 3), (45, 3), (52, 3), (63, 3), (66, 3), (99, 3)], mv := [(5, 5, 0), (5, 6, 2), (5, 4, 0), (5, 6, 1)], bl := [(2, [1, 2, 3, 12, 14, 15]), (1, [2, 3, 14]), (0, [])], ll := [(1, [1, 2, 3, 12, 14, 15])] } false Tryd.f32 = some f_waferref11_words := by kernel_rfl
theorem tr_33 : trFn maps Tryd.prog { loc := [], org := [], mv := [], bl := [], ll := [] } true Tryd.f33 = some f_types_plain := by kernel_rfl
theorem tr_34 : trFn maps Tryd.prog { loc := [2, 3], org := [(2, 2), (6, 2), (11, 2), (15, 2), (21, 2), (30, 2), (36, 2), (51, 2), (3, 3), (8, 3), (17, 3), (24, 3), (41, 3), (53, 3)], mv := [], bl := [(2, [2, 3, 5]), (1, []), (0, [])], ll := [(1, [2, 3, 5])] } true Tryd.f34 = some f_waferref11_Same := by kernel_rfl
theorem tr_35 : trFn maps Tryd.prog { loc := [], org := [], mv := [(1, 2, 0), (1, 0, 0), (1, 1, 0)], bl := [], ll := [] } true Tryd.f35 = some f_strconv_Itoa := by kernel_rfl
theorem tr_36 : trFn maps Tryd.prog { loc := [8, 9], org := [(8, 8), (9, 9)], mv := [], bl := [(1, [1, 2, 15, 16, 17]), (0, [])], ll := [(0, [1, 2, 15, 16, 17])] } true Tryd.f36 = some f_slices_EqualFunc___api_Type___api_Type_api_Type_api_Type_ := by kernel_rfl
theorem tr_37 : trFn maps Tryd.prog { loc := [], org := [], mv := [], bl := [(1, [0, 1, 3]), (0, [])], ll := [(0, [0, 1, 3])] } false Tryd.f37 = some f_slices_Backward___api_Rec_api_Rec__1 := by kernel_rfl
theorem tr_38 : trFn maps Tryd.prog { loc := [11, 13], org := [(11, 11), (48, 11), (13, 13), (56, 13)], mv := [(15, 4, 0)], bl := [(3, [0, 1, 9, 42, 43, 44, 49, 50, 51]), (2, [0, 1, 9, 42, 43, 44]), (1, [0, 1, 9, 42, 43, 44]), (0, [0, 1, 9])], ll := [(0, [0, 1, 9, 42, 43, 44]), (2, [0, 1, 9, 42, 43, 44, 49, 50, 51])] } true Tryd.f38 = some f_types_sizes_record := by kernel_rfl
theorem tr_39 : trFn maps Tryd.prog { loc := [1], org := [(1, 1), (3, 1), (10, 1), (14, 1), (19, 1), (26, 1), (30, 1), (35, 1), (40, 1), (46, 1), (55, 1), (59, 1), (64, 1)], mv := [], bl := [(0, [])], ll := [] } true Tryd.f39 = some f_waferref11_Right := by kernel_rfl
theorem tr_40 : trFn maps Tryd.prog { loc := [], org := [], mv := [(1, 2, 0), (1, 0, 0), (1, 1, 0)], bl := [], ll := [] } true Tryd.f40 = some f_internal_strconv_Itoa := by kernel_rfl
theorem tr_41 : trFn maps Tryd.prog { loc := [], org := [], mv := [(14, 2, 0), (14, 5, 2), (13, 4, 0), (12, 4, 0), (9, 3, 0), (9, 4, 1), (8, 2, 0), (5, 2, 0), (3, 2, 0), (3, 0, 0), (3, 1, 0)], bl := [], ll := [] } true Tryd.f41 = some f_internal_strconv_FormatInt := by kernel_rfl
theorem tr_42 : trFn maps Tryd.prog { loc := [], org := [], mv := [], bl := [], ll := [] } true Tryd.f42 = some f_internal_strconv_small := by kernel_rfl
theorem tr_43 : trFn maps Tryd.prog { loc := [], org := [], mv := [(1, 3, 0)], bl := [], ll := [] } true Tryd.f43 = some f_internal_strconv_numDigits := by kernel_rfl
theorem tr_44 : trFn maps Tryd.prog { loc := [], org := [], mv := [(26, 5, 1), (12, 2, 0), (2, 3, 0)], bl := [(1, [0, 1, 4]), (0, [0, 1, 4])], ll := [(0, [0, 1, 4])] } false Tryd.f44 = some f_internal_strconv_formatBase10 := by kernel_rfl
theorem tr_45 : trFn maps Tryd.prog { loc := [], org := [], mv := [(30, 3, 0), (29, 4, 0), (29, 0, 0), (29, 3, 0), (17, 2, 0), (9, 2, 0), (8, 4, 0)], bl := [(3, [0, 1, 3, 4, 10, 11, 12, 13, 17]), (2, [0, 1, 3, 4, 10, 11, 12, 13]), (1, [0, 1, 3, 4, 10, 11, 12, 13, 14, 15, 16]), (0, [0, 1, 3, 4, 10, 11, 12, 13])], ll := [(2, [0, 1, 3, 4, 10, 11, 12, 13, 17]), (0, [0, 1, 3, 4, 10, 11, 12, 13, 14, 15, 16])] } false Tryd.f45 = some f_internal_strconv_formatBits := by kernel_rfl
theorem tr_46 : trFn maps Tryd.prog { loc := [], org := [], mv := [], bl := [], ll := [] } true Tryd.f46 = some f_internal_strconv_log10Pow2 := by kernel_rfl
theorem tr_47 : trFn maps Tryd.prog { loc := [], org := [], mv := [], bl := [], ll := [] } true Tryd.f47 = some f_math_bits_Len64 := by kernel_rfl
theorem tr_48 : trFn maps Tryd.prog { loc := [], org := [], mv := [], bl := [], ll := [] } true Tryd.f48 = some f_internal_strconv_bool2_int_ := by kernel_rfl
theorem tr_49 : trFn maps Tryd.prog { loc := [], org := [], mv := [], bl := [], ll := [] } true Tryd.f49 = some f_internal_strconv_isPowerOfTwo := by kernel_rfl
theorem tr_50 : trFn maps Tryd.prog { loc := [], org := [], mv := [(2, 2, 0), (2, 0, 0), (2, 1, 0), (1, 3, 0)], bl := [], ll := [] } true Tryd.f50 = some f_math_bits_TrailingZeros := by kernel_rfl
theorem tr_51 : trFn maps Tryd.prog { loc := [], org := [], mv := [(3, 9, 0)], bl := [], ll := [] } true Tryd.f51 = some f_math_bits_TrailingZeros32 := by kernel_rfl
theorem tr_52 : trFn maps Tryd.prog { loc := [], org := [], mv := [(3, 9, 0)], bl := [], ll := [] } true Tryd.f52 = some f_math_bits_TrailingZeros64 := by kernel_rfl
theorem tr_74 : trFn maps Tryd.prog { loc := [], org := [], mv := [], bl := [], ll := [] } false Tryd.f74 = some f_gosem_cut_vars := by kernel_rfl
theorem tabF : TabF Tryd.prog maps W.pg := by
  intro f' i hl fn' hf
  have e : f' = i := look_id hl
  subst e
  unfold W.pg prog at hf
  simp only [Bool.cond_eq_ite] at hf
  by_cases h2 : f' = 2
  · subst h2; simp at hf; subst hf; exact ⟨_, _, _, Tryd.func2, by decide +kernel, tr_2⟩
  rw [if_neg (by simpa using h2)] at hf
  by_cases h3 : f' = 3
  · subst h3; simp at hf; subst hf; exact ⟨_, _, _, Tryd.func3, by decide +kernel, tr_3⟩
  rw [if_neg (by simpa using h3)] at hf
  by_cases h4 : f' = 4
  · subst h4; simp at hf; subst hf; exact ⟨_, _, _, Tryd.func4, by decide +kernel, tr_4⟩
  rw [if_neg (by simpa using h4)] at hf
  by_cases h5 : f' = 5
  · subst h5; simp at hf; subst hf; exact ⟨_, _, _, Tryd.func5, by decide +kernel, tr_5⟩
  rw [if_neg (by simpa using h5)] at hf
  by_cases h6 : f' = 6
  · subst h6; simp at hf; subst hf; exact ⟨_, _, _, Tryd.func6, by decide +kernel, tr_6⟩
  rw [if_neg (by simpa using h6)] at hf
  by_cases h7 : f' = 7
  · subst h7; simp at hf; subst hf; exact ⟨_, _, _, Tryd.func7, by decide +kernel, tr_7⟩
  rw [if_neg (by simpa using h7)] at hf
  by_cases h8 : f' = 8
  · subst h8; simp at hf; subst hf; exact ⟨_, _, _, Tryd.func8, by decide +kernel, tr_8⟩
  rw [if_neg (by simpa using h8)] at hf
  by_cases h9 : f' = 9
  · subst h9; simp at hf; subst hf; exact ⟨_, _, _, Tryd.func9, by decide +kernel, tr_9⟩
  rw [if_neg (by simpa using h9)] at hf
  by_cases h10 : f' = 10
  · subst h10; simp at hf; subst hf; exact ⟨_, _, _, Tryd.func10, by decide +kernel, tr_10⟩
  rw [if_neg (by simpa using h10)] at hf
  by_cases h11 : f' = 11
  · subst h11; simp at hf; subst hf; exact ⟨_, _, _, Tryd.func11, by decide +kernel, tr_11⟩
  rw [if_neg (by simpa using h11)] at hf
  by_cases h12 : f' = 12
  · subst h12; simp at hf; subst hf; exact ⟨_, _, _, Tryd.func12, by decide +kernel, tr_12⟩
  rw [if_neg (by simpa using h12)] at hf
  by_cases h13 : f' = 13
  · subst h13; simp at hf; subst hf; exact ⟨_, _, _, Tryd.func13, by decide +kernel, tr_13⟩
  rw [if_neg (by simpa using h13)] at hf
  by_cases h14 : f' = 14
  · subst h14; simp at hf; subst hf; exact ⟨_, _, _, Tryd.func14, by decide +kernel, tr_14⟩
  rw [if_neg (by simpa using h14)] at hf
  by_cases h15 : f' = 15
  · subst h15; simp at hf; subst hf; exact ⟨_, _, _, Tryd.func15, by decide +kernel, tr_15⟩
  rw [if_neg (by simpa using h15)] at hf
  by_cases h16 : f' = 16
  · subst h16; simp at hf; subst hf; exact ⟨_, _, _, Tryd.func16, by decide +kernel, tr_16⟩
  rw [if_neg (by simpa using h16)] at hf
  by_cases h17 : f' = 17
  · subst h17; simp at hf; subst hf; exact ⟨_, _, _, Tryd.func17, by decide +kernel, tr_17⟩
  rw [if_neg (by simpa using h17)] at hf
  by_cases h18 : f' = 18
  · subst h18; simp at hf; subst hf; exact ⟨_, _, _, Tryd.func18, by decide +kernel, tr_18⟩
  rw [if_neg (by simpa using h18)] at hf
  by_cases h19 : f' = 19
  · subst h19; simp at hf; subst hf; exact ⟨_, _, _, Tryd.func19, by decide +kernel, tr_19⟩
  rw [if_neg (by simpa using h19)] at hf
  by_cases h20 : f' = 20
  · subst h20; simp at hf; subst hf; exact ⟨_, _, _, Tryd.func20, by decide +kernel, tr_20⟩
  rw [if_neg (by simpa using h20)] at hf
  by_cases h21 : f' = 21
  · subst h21; simp at hf; subst hf; exact ⟨_, _, _, Tryd.func21, by decide +kernel, tr_21⟩
  rw [if_neg (by simpa using h21)] at hf
  by_cases h22 : f' = 22
  · subst h22; simp at hf; subst hf; exact ⟨_, _, _, Tryd.func22, by decide +kernel, tr_22⟩
  rw [if_neg (by simpa using h22)] at hf
  by_cases h23 : f' = 23
  · subst h23; simp at hf; subst hf; exact ⟨_, _, _, Tryd.func23, by decide +kernel, tr_23⟩
  rw [if_neg (by simpa using h23)] at hf
  by_cases h24 : f' = 24
  · subst h24; simp at hf; subst hf; exact ⟨_, _, _, Tryd.func24, by decide +kernel, tr_24⟩
  rw [if_neg (by simpa using h24)] at hf
  by_cases h25 : f' = 25
  · subst h25; simp at hf; subst hf; exact ⟨_, _, _, Tryd.func25, by decide +kernel, tr_25⟩
  rw [if_neg (by simpa using h25)] at hf
  by_cases h26 : f' = 26
  · subst h26; simp at hf; subst hf; exact ⟨_, _, _, Tryd.func26, by decide +kernel, tr_26⟩
  rw [if_neg (by simpa using h26)] at hf
  by_cases h27 : f' = 27
  · subst h27; simp at hf; subst hf; exact ⟨_, _, _, Tryd.func27, by decide +kernel, tr_27⟩
  rw [if_neg (by simpa using h27)] at hf
  by_cases h28 : f' = 28
  · subst h28; simp at hf; subst hf; exact ⟨_, _, _, Tryd.func28, by decide +kernel, tr_28⟩
  rw [if_neg (by simpa using h28)] at hf
  by_cases h29 : f' = 29
  · subst h29; simp at hf; subst hf; exact ⟨_, _, _, Tryd.func29, by decide +kernel, tr_29⟩
  rw [if_neg (by simpa using h29)] at hf
  by_cases h30 : f' = 30
  · subst h30; simp at hf; subst hf; exact ⟨_, _, _, Tryd.func30, by decide +kernel, tr_30⟩
  rw [if_neg (by simpa using h30)] at hf
  by_cases h31 : f' = 31
  · subst h31; simp at hf; subst hf; exact ⟨_, _, _, Tryd.func31, by decide +kernel, tr_31⟩
  rw [if_neg (by simpa using h31)] at hf
  by_cases h32 : f' = 32
  · subst h32; simp at hf; subst hf; exact ⟨_, _, _, Tryd.func32, by decide +kernel, tr_32⟩
  rw [if_neg (by simpa using h32)] at hf
  by_cases h33 : f' = 33
  · subst h33; simp at hf; subst hf; exact ⟨_, _, _, Tryd.func33, by decide +kernel, tr_33⟩
  rw [if_neg (by simpa using h33)] at hf
  by_cases h34 : f' = 34
  · subst h34; simp at hf; subst hf; exact ⟨_, _, _, Tryd.func34, by decide +kernel, tr_34⟩
  rw [if_neg (by simpa using h34)] at hf
  by_cases h35 : f' = 35
  · subst h35; simp at hf; subst hf; exact ⟨_, _, _, Tryd.func35, by decide +kernel, tr_35⟩
  rw [if_neg (by simpa using h35)] at hf
  by_cases h36 : f' = 36
  · subst h36; simp at hf; subst hf; exact ⟨_, _, _, Tryd.func36, by decide +kernel, tr_36⟩
  rw [if_neg (by simpa using h36)] at hf
  by_cases h37 : f' = 37
  · subst h37; simp at hf; subst hf; exact ⟨_, _, _, Tryd.func37, by decide +kernel, tr_37⟩
  rw [if_neg (by simpa using h37)] at hf
  by_cases h38 : f' = 38
  · subst h38; simp at hf; subst hf; exact ⟨_, _, _, Tryd.func38, by decide +kernel, tr_38⟩
  rw [if_neg (by simpa using h38)] at hf
  by_cases h39 : f' = 39
  · subst h39; simp at hf; subst hf; exact ⟨_, _, _, Tryd.func39, by decide +kernel, tr_39⟩
  rw [if_neg (by simpa using h39)] at hf
  by_cases h40 : f' = 40
  · subst h40; simp at hf; subst hf; exact ⟨_, _, _, Tryd.func40, by decide +kernel, tr_40⟩
  rw [if_neg (by simpa using h40)] at hf
  by_cases h41 : f' = 41
  · subst h41; simp at hf; subst hf; exact ⟨_, _, _, Tryd.func41, by decide +kernel, tr_41⟩
  rw [if_neg (by simpa using h41)] at hf
  by_cases h42 : f' = 42
  · subst h42; simp at hf; subst hf; exact ⟨_, _, _, Tryd.func42, by decide +kernel, tr_42⟩
  rw [if_neg (by simpa using h42)] at hf
  by_cases h43 : f' = 43
  · subst h43; simp at hf; subst hf; exact ⟨_, _, _, Tryd.func43, by decide +kernel, tr_43⟩
  rw [if_neg (by simpa using h43)] at hf
  by_cases h44 : f' = 44
  · subst h44; simp at hf; subst hf; exact ⟨_, _, _, Tryd.func44, by decide +kernel, tr_44⟩
  rw [if_neg (by simpa using h44)] at hf
  by_cases h45 : f' = 45
  · subst h45; simp at hf; subst hf; exact ⟨_, _, _, Tryd.func45, by decide +kernel, tr_45⟩
  rw [if_neg (by simpa using h45)] at hf
  by_cases h46 : f' = 46
  · subst h46; simp at hf; subst hf; exact ⟨_, _, _, Tryd.func46, by decide +kernel, tr_46⟩
  rw [if_neg (by simpa using h46)] at hf
  by_cases h47 : f' = 47
  · subst h47; simp at hf; subst hf; exact ⟨_, _, _, Tryd.func47, by decide +kernel, tr_47⟩
  rw [if_neg (by simpa using h47)] at hf
  by_cases h48 : f' = 48
  · subst h48; simp at hf; subst hf; exact ⟨_, _, _, Tryd.func48, by decide +kernel, tr_48⟩
  rw [if_neg (by simpa using h48)] at hf
  by_cases h49 : f' = 49
  · subst h49; simp at hf; subst hf; exact ⟨_, _, _, Tryd.func49, by decide +kernel, tr_49⟩
  rw [if_neg (by simpa using h49)] at hf
  by_cases h50 : f' = 50
  · subst h50; simp at hf; subst hf; exact ⟨_, _, _, Tryd.func50, by decide +kernel, tr_50⟩
  rw [if_neg (by simpa using h50)] at hf
  by_cases h51 : f' = 51
  · subst h51; simp at hf; subst hf; exact ⟨_, _, _, Tryd.func51, by decide +kernel, tr_51⟩
  rw [if_neg (by simpa using h51)] at hf
  by_cases h52 : f' = 52
  · subst h52; simp at hf; subst hf; exact ⟨_, _, _, Tryd.func52, by decide +kernel, tr_52⟩
  rw [if_neg (by simpa using h52)] at hf
  by_cases h74 : f' = 74
  · subst h74; simp at hf; subst hf; exact ⟨_, _, _, Tryd.func74, by decide +kernel, tr_74⟩
  rw [if_neg (by simpa using h74)] at hf
  cases hf
theorem backOk : BackOk Tryd.prog maps := by
  intro f' k l hl hk
  have e : f' = k := look_id hl
  subst e
  simp only [maps, W.look, Bool.cond_eq_ite] at hk
  by_cases h37 : f' = 37
  · subst h37
    simp at hk
    subst hk
    exact ⟨55, 49, 74, 3, 4, 0, Tryd.f37, Tryd.func37, by decide +kernel, by kernel_rfl, by kernel_rfl, by kernel_rfl, Tryd.underlying55, by kernel_rfl, by kernel_rfl, Tryd.underlying3, Tryd.underlying4⟩
  rw [if_neg (by simpa using h37)] at hk
  cases hk
theorem tab : Tab Tryd.prog maps W.pg := ⟨tabF, backOk⟩
def tabZ : D → List Int
  | .agg l => l.map fun d => match d with | .i _ n => n | _ => 0
  | _ => []
theorem look_mem {α : Type} {n : Nat} {x : α} : ∀ {l : List (Nat × α)}, W.look l n = some x → (n, x) ∈ l
  | [], h => by cases h
  | (m, y) :: l, h => by
    simp only [W.look, Bool.cond_eq_ite] at h
    split at h
    · rename_i hb
      cases h
      have := Nat.eq_of_beq_eq_true hb
      subst this
      exact .head _
    · exact .tail _ (look_mem h)
theorem tab_at {W : World} (hL : laidMetH Tryd.prog Rows.typesRecordsRow.laid W) {name : String} {k : IntKind} {d : D} {g : Nat} {t e : TypeId} {n : Nat}
    (hg : Tryd.prog.globalNamed name = some g) (hty : (Tryd.prog.globals[g]?).map (·.type) = some t) (ht : Tryd.prog.underlying t = some (.array n e)) (he : Tryd.prog.underlying e = some (.int k)) (hce : Tryd.prog.cellsOf e = 1) (hct : Tryd.prog.cellsOf t = n)
    (hm : (name, Go.Lib.tabData k (tabZ d)) ∈ Rows.typesRecordsRow.laid) (hd : d = .agg ((tabZ d).map (D.i k))) (h0 : (tabZ d).isEmpty = false) :
    ∃ name k zs, Tryd.prog.globalNamed name = some g ∧ d = .agg (zs.map (D.i k)) ∧ zs ≠ [] ∧ Go.Lib.TabIs Tryd.prog W name k zs := by
  obtain ⟨ps, hv, _⟩ := (show laidMet Tryd.prog Rows.typesRecordsRow.laid W from hL)
  exact ⟨name, k, tabZ d, hg, hd, (fun h => by rw [h] at h0; cases h0), tabIs_mem hg hty ht he hce hct hv hm⟩
theorem glOk {W : World} (hL : laidMetH Tryd.prog Rows.typesRecordsRow.laid W) : GlOk maps (g0 W) W := by
  refine glOk_tabs (P := Tryd.prog) ?_ fun n x hn => ?_
  · intro n hn; exact absurd hn (by simp [maps])
  have hm := look_mem hn
  simp only [maps, List.mem_cons, Prod.mk.injEq, List.not_mem_nil, or_false] at hm
  rcases hm with ⟨rfl, rfl⟩ | ⟨rfl, rfl⟩ | ⟨rfl, rfl⟩
  · exact tab_at hL (name := "internal/strconv.uint64pow10") (k := .u64) (d := glD 0) (by kernel_rfl) (by kernel_rfl) Tryd.underlying85 Tryd.underlying78 (by kernel_rfl) (by kernel_rfl) (.tail _ (.tail _ (.head _))) rfl rfl
  · exact tab_at hL (name := "math/bits.deBruijn32tab") (k := .u8) (d := glD 1) (by kernel_rfl) (by kernel_rfl) Tryd.underlying91 Tryd.underlying5 (by kernel_rfl) (by kernel_rfl) (.head _) rfl rfl
  · exact tab_at hL (name := "math/bits.deBruijn64tab") (k := .u8) (d := glD 2) (by kernel_rfl) (by kernel_rfl) Tryd.underlying92 Tryd.underlying5 (by kernel_rfl) (by kernel_rfl) (.tail _ (.head _)) rfl rfl
theorem agg25 : aggT Tryd.prog 25 = true := by unfold aggT; rw [Tryd.underlying25]
theorem agg30 : aggT Tryd.prog 30 = true := by unfold aggT; rw [Tryd.underlying30]
theorem agg5 : aggT Tryd.prog 5 = false := by unfold aggT; rw [Tryd.underlying5]
theorem ty_ok : ∀ (n : Nat) (xs : List D), Ty Tryd.prog n 25 xs → TyOk n (.agg xs) := by
  intro n
  induction n using Nat.strongRecOn with
  | ind n ih =>
    intro xs h
    cases n with
    | zero => exact h.elim
    | succ n =>
      simp only [Ty, Tryd.underlying25] at h
      obtain ⟨yss, rfl, hl, hq⟩ := h
      match yss, hl, hq with
      | [q0, q1, q2, q3], _, hq =>
        have h0 := hq 0 _ q0 rfl rfl
        have h1 := hq 1 _ q1 rfl rfl
        have h2 := hq 2 _ q2 rfl rfl
        have h3 := hq 3 _ q3 rfl rfl
        cases n with
        | zero => exact h0.elim
        | succ n =>
          simp only [Ty, Tryd.underlying3, Tryd.underlying9, Tryd.underlying23] at h0 h1 h2 h3
          obtain ⟨a, rfl, _⟩ := h0
          obtain ⟨b, rfl, _⟩ := h1
          obtain ⟨s, rfl, _⟩ := h2
          rcases h3 with rfl | ⟨yss, rfl, hl, hy⟩
          · exact ⟨a, b, s, .nil, rfl, .inl rfl, by simp [itemsD], fun y hy => by simp [itemsD] at hy⟩
          · refine ⟨a, b, s, _, rfl, .inr ⟨_, rfl⟩, ?_, fun y hm => ?_⟩
            · simp only [itemsD, List.length_map]
              simp only [Go.maxLen] at hl
              omega
            · simp only [itemsD, agg25] at hm
              obtain ⟨q, hq, rfl⟩ := List.mem_map.1 hm
              exact (ih n (by omega) q (hy q hq)).up
theorem arg_ty {x : D} (h : Arg Tryd.prog 25 x) : ∃ n, TyOk n x := by
  obtain ⟨n, xs, ht, rfl⟩ := h
  rw [agg25]
  exact ⟨n, ty_ok n xs ht⟩
theorem ri_ok (n : Nat) (xs : List D) (h : Ty Tryd.prog n 30 xs) : RiOk n (.agg xs) := by
  cases n with
  | zero => exact h.elim
  | succ n =>
    simp only [Ty, Tryd.underlying30] at h
    obtain ⟨yss, rfl, hl, hq⟩ := h
    match yss, hl, hq with
    | [q0, q1, q2], _, hq =>
      have h0 := hq 0 _ q0 rfl rfl
      have h1 := hq 1 _ q1 rfl rfl
      have h2 := hq 2 _ q2 rfl rfl
      have hT := ty_ok n q2 h2
      cases n with
      | zero => exact h0.elim
      | succ n =>
        simp only [Ty, Tryd.underlying5, Tryd.underlying28] at h0 h1
        obtain ⟨a, rfl, ha⟩ := h0
        simp [Lit.wf, IntKind.min, IntKind.max, IntKind.bits, IntKind.signed] at ha
        obtain ⟨f, m, s, o, he, ho, hlo, hio⟩ := hT
        cases he
        have hT' : TyOk (n + 2) (.agg [.i .i64 f, .i .i64 m, .s s, o]) := (show TyOk (n + 1) _ from ⟨f, m, s, o, rfl, ho, hlo, hio⟩).up
        rcases h1 with rfl | ⟨yss, rfl, hl, hy⟩
        · exact ⟨a, .nil, f, m, s, o, rfl, by omega, by omega, .inl rfl, by simp [itemsD], fun y hy => by simp [itemsD] at hy, hT'⟩
        · refine ⟨a, _, f, m, s, o, rfl, by omega, by omega, .inr ⟨_, rfl⟩, ?_, fun y hm => ?_, hT'⟩
          · simp only [itemsD, List.length_map]
            simp only [Go.maxLen] at hl
            omega
          · simp only [itemsD, agg5] at hm
            obtain ⟨q, hq, rfl⟩ := List.mem_map.1 hm
            have hq' := hy q hq
            cases n with
            | zero => exact hq'.elim
            | succ n =>
              simp only [Ty, Tryd.underlying5] at hq'
              obtain ⟨c, rfl, hc⟩ := hq'
              simp [Lit.wf, IntKind.min, IntKind.max, IntKind.bits, IntKind.signed] at hc
              exact ⟨c, rfl, by omega, by omega⟩
theorem RiOk.le {n m : Nat} (h : n ≤ m) {x : D} (hx : RiOk n x) : RiOk m x := by
  obtain ⟨b, fs, f, m', s, o, rfl, h1, h2, h3, h4, h5, h6⟩ := hx
  exact ⟨b, fs, f, m', s, o, rfl, h1, h2, h3, h4, h5, h6.le h⟩
theorem arg_ris {x : D} (h : Arg Tryd.prog 22 x) : (x = .nil ∨ ∃ q, x = .sl q) ∧ ((itemsD x).length : Int) ≤ 9223372036854775807 ∧ ∃ n, ∀ y ∈ itemsD x, RiOk n y := by
  obtain ⟨n, xs, ht, rfl⟩ := h
  cases n with
  | zero => exact ht.elim
  | succ n =>
    simp only [Ty, Tryd.underlying22] at ht
    rcases ht with rfl | ⟨yss, rfl, hl, hy⟩
    · have e : elD (aggT Tryd.prog 22) [D.nil] = .nil := by simp [aggT, Tryd.underlying22, elD]
      rw [e]
      exact ⟨.inl rfl, by simp [itemsD], 0, fun y hy => by simp [itemsD] at hy⟩
    · have e : elD (aggT Tryd.prog 22) [D.sl (yss.map (elD (aggT Tryd.prog 30)))] = .sl (yss.map (elD (aggT Tryd.prog 30))) := by simp [aggT, Tryd.underlying22, elD]
      rw [e]
      refine ⟨.inr ⟨_, rfl⟩, ?_, n, fun y hm => ?_⟩
      · simp only [itemsD, List.length_map]
        simp only [Go.maxLen] at hl
        omega
      · simp only [itemsD, agg30] at hm
        obtain ⟨q, hq, rfl⟩ := List.mem_map.1 hm
        exact ri_ok n q (hy q hq)
theorem contract (H : Type) (enc : TypeId × Value → H) (w0 : World) (base : Nat) (args : Array Value) (ds gs : List (DataW H)) (before : List MemPlace)
    (hval : ∀ (j : Nat) t v, Tryd.f3.params[j]? = some t → args[j]? = some v → Value.okWide Tryd.prog w0 .any base t v)
    (hW : DataW.Whole enc Tryd.prog Tryd.f3.params.toList Rows.typesRecordsSpec.vars false w0 args.toList ds gs before) (hL : laidMetH Tryd.prog Rows.typesRecordsRow.laid w0) :
    Calls Tryd.prog 3 args w0 fun e W' => ∃ v, e = .returned v ∧ Rows.typesRecordsSpec.post enc Tryd.prog Tryd.f3 false true false false w0 args v W' := by
  have hW' := hW
  obtain ⟨p, q, hA, hV, _⟩ := hW
  have hs : Rows.typesRecordsSpec.fn H ds = { results := [.lit (.bool true)], args := ds } := by
    have hA : DataW.TrodAll enc Tryd.prog w0 0 (fun _ => true) true Tryd.f3.params.toList args.toList ds p := hA
    rw [Tryd.params3] at hA
    obtain ⟨v0, vs0, d0, ds0, p0, q0, _, rfl, _, _, r0⟩ := trodAll_cons hA
    obtain ⟨v1, vs1, d1, ds1, p1, q1, _, rfl, _, _, r1⟩ := trodAll_cons r0
    obtain ⟨v2, vs2, d2, ds2, p2, q2, _, rfl, _, _, r2⟩ := trodAll_cons r1
    obtain ⟨v3, vs3, d3, ds3, p3, q3, _, rfl, _, _, r3⟩ := trodAll_cons r2
    obtain ⟨v4, vs4, d4, ds4, p4, q4, _, rfl, _, _, r4⟩ := trodAll_cons r3
    obtain ⟨_, rfl, _⟩ := trodAll_nil r4
    rfl
  refine law_contract (M := maps) (pg := W.pg) (i := 3) (ts := [22, 30, 5, 28, 25, 3, 9, 23]) (tb := 4) (b := base) (r := .any) (glOk hL) (by kernel_rfl) tab (fun i vs H r h => by cases h) (fun _ _ _ _ h => by cases h) (by kernel_rfl) (by decide)
    (by kernel_rfl) (by rw [Tryd.params3]; decide) bulk_ok hval rfl hW' hs (by kernel_rfl) Tryd.underlying4 (by kernel_rfl) (by rw [Tryd.params3]; decide +kernel) ?_
  intro xs hxs _
  rw [Tryd.params3] at hxs
  cases hxs with
  | cons h0 hxs =>
    cases hxs with
    | cons h1 hxs =>
      cases hxs with
      | cons h2 hxs =>
        cases hxs with
        | cons h3 hxs =>
          cases hxs with
          | cons h4 hxs =>
            cases hxs
            obtain ⟨hlo, hlim, n0, hl⟩ := arg_ris h0
            obtain ⟨a, rfl, ha⟩ := arg_int Tryd.underlying5 h1
            obtain ⟨b, rfl, hb⟩ := arg_int Tryd.underlying5 h2
            obtain ⟨k, rfl, hk⟩ := arg_int Tryd.underlying5 h3
            obtain ⟨n1, ht⟩ := arg_ty h4
            simp [Lit.wf, IntKind.min, IntKind.max, IntKind.bits, IntKind.signed] at ha hb hk
            have hr := rec_law (n := n0 + n1) hlo (fun y hy => RiOk.le (by omega) (hl y hy)) hlim (a := a) (b := b) (k := k) (by omega) (by omega) (by omega) (ht.le (by omega))
            obtain ⟨m, hm⟩ := callL_iff.1 hr
            exact ⟨m, _, hm, rfl, rfl⟩
noncomputable def laidWorld (os : Os) : World := World.laidAll Tryd.prog os Rows.typesRecordsRow.laid
theorem laid_met (os : Os) : laidMetH Tryd.prog Rows.typesRecordsRow.laid ((laidWorld os).forCall (fun _ _ => 0) ⟨#[], #[.slice none 0 0, .int .u8 0, .int .u8 0, .int .u8 0, .agg #[.int .i64 0, .int .i64 0, .string ⟨#[]⟩, .slice none 0 0]], []⟩).memory :=
  laidMet_laidAll (P := Tryd.prog) (os := os) (laid := Rows.typesRecordsRow.laid) #[.slice none 0 0, .int .u8 0, .int .u8 0, .int .u8 0, .agg #[.int .i64 0, .int .i64 0, .string ⟨#[]⟩, .slice none 0 0]] (by kernel_rfl) (by kernel_rfl)
theorem reads (os : Os) {H : Type} (enc : TypeId × Value → H) : ∃ places, DataW.whole enc Tryd.prog ((laidWorld os).forCall (fun _ _ => 0) ⟨#[], #[.slice none 0 0, .int .u8 0, .int .u8 0, .int .u8 0, .agg #[.int .i64 0, .int .i64 0, .string ⟨#[]⟩, .slice none 0 0]], []⟩).memory Tryd.f3.params.toList Rows.typesRecordsSpec.vars false #[Value.slice none 0 0, .int .u8 0, .int .u8 0, .int .u8 0, .agg #[.int .i64 0, .int .i64 0, .string ⟨#[]⟩, .slice none 0 0]].toList 8 = some ([.nil, .lit (.int .u8 0), .lit (.int .u8 0), .lit (.int .u8 0), .agg [.lit (.int .i64 0), .lit (.int .i64 0), .lit (.string []), .nil]], [], places) :=
  ⟨[], by kernel_rfl⟩
theorem lifted (os : Os) (started : os.Started) (H : Type) (enc : TypeId × Value → H) (F : Stop.Interp) :
    ReturnsInHanded {} Tryd.checked os 3 .any ((OpenSpec.ofChange Rows.typesRecordsSpec).preRow enc Tryd.prog Tryd.f3 Rows.typesRecordsRow.domain false Rows.typesRecordsRow.laid) (((OpenSpec.ofChange Rows.typesRecordsSpec).at F).post enc Tryd.prog Tryd.f3 false true false false) := by
  obtain ⟨places, hx⟩ := reads os enc
  refine returnsInHanded_of_row (C := Tryd.checked) (s := OpenSpec.ofChange Rows.typesRecordsSpec) own started (by kernel_rfl) Tryd.func3
    (witness_row_atRef (enc := enc) (C := Tryd.checked) false (laidWorld os) #[.slice none 0 0, .int .u8 0, .int .u8 0, .int .u8 0, .agg #[.int .i64 0, .int .i64 0, .string ⟨#[]⟩, .slice none 0 0]] (World.laidAll_os _ _ _) (by kernel_rfl) (by kernel_rfl) (by kernel_rfl)
      (OpenSpec.preRow_of_cond 8 hx (by kernel_rfl) (fun k hk => by cases hk) (by kernel_rfl) (laid_met os))) ?_
  intro W base args ds gs before hval hW _ _ _ hL _ _
  exact contract H enc W base args ds gs before hval hW hL
theorem said : Rows.TypesRecordsSaid :=
  OpenClaim.holds_of_cond 3 Tryd.f3 rfl rfl rfl rfl rfl rfl rfl ⟨rfl, rfl, rfl, rfl, rfl⟩ rfl rfl rfl rfl rfl (by kernel_rfl) Tryd.func3 (by kernel_rfl)
    (of_decide_eq_true (by kernel_rfl)) (by unfold Func.isWrapper; first | (rw [if_pos (by decide +kernel)]; kernel_rfl) | (rw [if_neg (by decide +kernel)]; exact ⟨rfl, rfl⟩))
    (fun os started H enc _ F => by rw [OpenClaim.pre_eq_preRow]; exact lifted os started H enc F)
theorem plain (f : FuncId) (fn : Func) (hf : Tryd.pinned.checked.prog.funcNamed "wafer/waferlaw12.TypesRecords" = some f) (hfn : Tryd.pinned.checked.prog.funcs[f]? = some fn) :
    false = Tryd.pinned.checked.prog.looks [] ∧ ∀ (j : Nat) t, fn.params[j]? = some t → Tryd.pinned.checked.prog.wantsStandIn t = false := by
  obtain rfl : f = 3 := Option.some.inj ((show Tryd.prog.funcNamed "wafer/waferlaw12.TypesRecords" = some 3 by kernel_rfl).symm.trans hf) |>.symm
  obtain rfl : fn = Tryd.f3 := (Option.some.inj (Tryd.func3.symm.trans hfn)).symm
  refine ⟨by kernel_rfl, fun j t ht => ?_⟩
  rw [Tryd.params3] at ht
  have ht := Array.mem_of_getElem? ht
  simp only [List.mem_toArray, List.mem_cons, List.not_mem_nil, or_false] at ht
  rcases ht with rfl | rfl | rfl | rfl | rfl
  · exact (show Tryd.prog.wantsStandIn 22 = false by kernel_rfl)
  · exact (show Tryd.prog.wantsStandIn 5 = false by kernel_rfl)
  · exact (show Tryd.prog.wantsStandIn 5 = false by kernel_rfl)
  · exact (show Tryd.prog.wantsStandIn 5 = false by kernel_rfl)
  · exact (show Tryd.prog.wantsStandIn 25 = false by kernel_rfl)
theorem typesRecords_holds : Rows.TypesRecordsCardSaid :=
  Claim7.holds_tied_plain_at .later [] _ _ _ _ said (fun _ h => by cases h) (by kernel_rfl) (fun _ h => by cases h) typesRecords_row_tie rfl ⟨rfl, rfl⟩ (by kernel_rfl) rfl plain (by kernel_rfl)
end Go.Proofs.YtbdngljblileeaaDoor
