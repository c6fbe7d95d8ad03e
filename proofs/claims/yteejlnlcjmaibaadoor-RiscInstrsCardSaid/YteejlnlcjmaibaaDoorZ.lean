/- RiscInstrs: any instruction is the word that the document makes of it, which is read back, or refused, and told alike: by both. -/
import Derived.Test.YteejlnlcjmaibaaDoorCards
import Derived.Test.YteejlnlcjmaibaaDoorTie
import Derived.WalkKit
import Derived.ProofKit
import Derived.OpenShut
import Derived.Deep.DeepHandedRow
import Derived.Deep.DeepWitnessRowRef
import Derived.Lib.LaidTab
import Derived.Lay
import Derived.Test.YteejlnlcjmaibaaDoorW6
set_option linter.unusedVariables false
set_option linter.unusedSimpArgs false
namespace Go.Proofs.YteejlnlcjmaibaaDoor
open Go.ChangeShapes Go.WideShapes Go.ChangeAt Go.RowKit W
set_option maxRecDepth 100000
theorem own : ownKnob Tryd.prog.godebug = none := by kernel_rfl
theorem bulk_ok {H : Type} : Bulk (Rows.uptoBulk (H := H)) Rows.uptoBulkAll :=
  ⟨fun _ => rfl, fun l => by cases l <;> simp [Rows.uptoBulk], rfl, fun _ _ => rfl, fun _ => rfl, rfl, fun _ _ => rfl⟩
def pg0 : W.Pg := ⟨W.prog, fun _ _ _ => none⟩
theorem arg_ins {y : D} (h : Arg Tryd.prog 26 y) : ∃ i : W.Ins, y = W.eI i ∧ -2147483648 ≤ i.Imm ∧ i.Imm < 2147483648 := by
  obtain ⟨n, xs, ht, rfl⟩ := h
  cases n with
  | zero => exact ht.elim
  | succ n =>
    simp only [Ty, Tryd.underlying26] at ht
    obtain ⟨yss, rfl, hl, hq⟩ := ht
    match yss, hl, hq with
    | [q0, q1, q2, q3, q4, q5, q6, q7], _, hq =>
      have h0 := hq 0 _ q0 rfl rfl
      have h1 := hq 1 _ q1 rfl rfl
      have h2 := hq 2 _ q2 rfl rfl
      have h3 := hq 3 _ q3 rfl rfl
      have h4 := hq 4 _ q4 rfl rfl
      have h5 := hq 5 _ q5 rfl rfl
      have h6 := hq 6 _ q6 rfl rfl
      have h7 := hq 7 _ q7 rfl rfl
      cases n with
      | zero => exact h0.elim
      | succ n =>
        simp only [Ty, Tryd.underlying3, Tryd.underlying4, Tryd.underlying21] at h0 h1 h2 h3 h4 h5 h6 h7
        obtain ⟨a0, rfl, _⟩ := h0
        obtain ⟨a1, rfl⟩ := h1
        obtain ⟨a2, rfl⟩ := h2
        obtain ⟨a3, rfl, _⟩ := h3
        obtain ⟨a4, rfl, _⟩ := h4
        obtain ⟨a5, rfl, _⟩ := h5
        obtain ⟨a6, rfl, _⟩ := h6
        obtain ⟨a7, rfl, hb⟩ := h7
        refine ⟨⟨a0, a1, a2, a3, a4, a5, a6, a7⟩, by simp [aggT, Tryd.underlying26, elD, W.eI], ?_⟩
        simp [Lit.wf, IntKind.min, IntKind.max, IntKind.bits, IntKind.signed] at hb
        simp only
        omega
def maps : Maps := { fm := (List.range 84).map fun i => (i, i), tm := (List.range 117).map fun i => (i, i), gl := [(0, glD 0), (2, glD 2), (4, glD 4), (5, glD 5)] }
theorem tr_2 : trFn maps Tryd.prog { loc := [], org := [], mv := [], bl := [], ll := [] } false Tryd.f2 = some f_gosem_cut_init := by kernel_rfl
theorem tr_3 : trFn maps Tryd.prog { loc := [5, 7], org := [(5, 5), (7, 7)], mv := [], bl := [(1, [18, 19, 20]), (0, [])], ll := [(0, [18, 19, 20])] } true Tryd.f3 = some f_waferlaw5_RiscWords := by kernel_rfl
theorem tr_4 : trFn maps Tryd.prog { loc := [2, 5, 7, 12], org := [(2, 2), (17, 2), (20, 2), (23, 2), (26, 2), (29, 2), (32, 2), (61, 2), (5, 5), (35, 5), (36, 5), (37, 5), (38, 5), (39, 5), (40, 5), (41, 5), (50, 5), (53, 5), (56, 5), (57, 5), (43, 5), (44, 5), (45, 5), (47, 5), (64, 5), (7, 7), (12, 12)], mv := [(27, 0, 0), (27, 1, 0)], bl := [(0, [1, 2, 5]), (2, [67, 68, 69]), (1, [])], ll := [(1, [67, 68, 69])] } true Tryd.f4 = some f_waferlaw5_RiscInstrs := by kernel_rfl
theorem tr_5 : trFn maps Tryd.prog { loc := [3], org := [(3, 3)], mv := [], bl := [], ll := [] } true Tryd.f5 = some f_waferlaw5_known := by kernel_rfl
theorem tr_6 : trFn maps Tryd.prog { loc := [2, 4], org := [(2, 2), (4, 4), (29, 4), (38, 4), (39, 4), (40, 4), (42, 4), (52, 4), (53, 4), (54, 4), (56, 4), (63, 4), (64, 4), (66, 4), (70, 4), (26, 4), (27, 4)], mv := [(2, 8, 1), (2, 6, 1), (10, 3, 1), (8, 7, 1), (8, 5, 1), (6, 12, 1), (6, 10, 1), (6, 8, 1), (4, 11, 1), (4, 9, 1), (4, 7, 1)], bl := [(0, [0, 2, 4])], ll := [] } false Tryd.f6 = some f_risc_Decode := by kernel_rfl
theorem tr_7 : trFn maps Tryd.prog { loc := [2, 4], org := [(2, 2), (4, 4), (21, 4), (28, 4), (29, 4), (36, 4), (42, 4), (52, 4), (54, 4), (60, 4), (62, 4), (68, 4), (70, 4), (84, 4), (85, 4), (40, 4)], mv := [(6, 4, 1), (18, 10, 1), (18, 8, 1), (14, 4, 1), (12, 4, 1), (10, 4, 1), (5, 5, 1), (3, 5, 1)], bl := [(0, [2, 4])], ll := [] } false Tryd.f7 = some f_waferref5_Decode := by kernel_rfl
theorem tr_8 : trFn maps Tryd.prog { loc := [1], org := [(1, 1), (8, 1), (12, 1), (17, 1), (22, 1), (28, 1), (32, 1), (37, 1), (42, 1), (47, 1), (51, 1), (56, 1), (61, 1), (66, 1), (70, 1), (75, 1), (81, 1), (84, 1), (90, 1), (95, 1)], mv := [], bl := [(0, [1, 4])], ll := [] } false Tryd.f8 = some f_risc_Encode := by kernel_rfl
theorem tr_9 : trFn maps Tryd.prog { loc := [1, 20, 34], org := [(1, 1), (9, 1), (13, 1), (16, 1), (40, 1), (44, 1), (48, 1), (52, 1), (56, 1), (60, 1), (65, 1), (68, 1), (71, 1), (21, 1), (25, 1), (30, 1), (35, 1)], mv := [(15, 2, 0), (15, 3, 0), (12, 5, 1), (3, 4, 0)], bl := [(0, [4, 5])], ll := [] } true Tryd.f9 = some f_risc_Text := by kernel_rfl
theorem tr_10 : trFn maps Tryd.prog { loc := [1], org := [(1, 1), (16, 1), (20, 1), (26, 1), (30, 1), (34, 1), (38, 1), (41, 1), (46, 1), (51, 1), (60, 1), (62, 1), (68, 1), (73, 1), (80, 1), (84, 1), (89, 1), (97, 1)], mv := [(14, 3, 0), (4, 4, 0)], bl := [(0, [1, 5])], ll := [] } true Tryd.f10 = some f_waferref5_Text := by kernel_rfl
theorem tr_11 : trFn maps Tryd.prog { loc := [1], org := [(1, 1), (6, 1), (11, 1), (16, 1), (20, 1), (25, 1), (30, 1), (35, 1), (38, 1), (41, 1), (46, 1), (51, 1), (54, 1), (59, 1), (65, 1), (69, 1), (74, 1), (82, 1), (86, 1), (91, 1), (99, 1), (103, 1), (108, 1), (112, 1), (121, 1), (125, 1), (131, 1), (136, 1), (140, 1), (145, 1), (154, 1), (159, 1), (163, 1), (168, 1)], mv := [(14, 9, 0), (4, 3, 0)], bl := [(0, [1, 4, 5])], ll := [] } false Tryd.f11 = some f_waferref5_Encode := by kernel_rfl
theorem tr_12 : trFn maps Tryd.prog { loc := [], org := [], mv := [(1, 5, 0)], bl := [], ll := [] } true Tryd.f12 = some f_risc_field := by kernel_rfl
theorem tr_13 : trFn maps Tryd.prog { loc := [], org := [], mv := [], bl := [], ll := [] } true Tryd.f13 = some f_risc_extend := by kernel_rfl
theorem tr_14 : trFn maps Tryd.prog { loc := [], org := [], mv := [], bl := [], ll := [] } true Tryd.f14 = some f_waferref5_signed := by kernel_rfl
theorem tr_15 : trFn maps Tryd.prog { loc := [1], org := [(1, 1), (3, 1), (8, 1), (14, 1), (20, 1), (25, 1), (29, 1), (34, 1), (38, 1), (43, 1), (49, 1), (53, 1), (58, 1), (64, 1), (68, 1), (72, 1), (74, 1), (78, 1), (82, 1), (86, 1)], mv := [], bl := [(0, [])], ll := [] } true Tryd.f15 = some f_risc_right := by kernel_rfl
theorem tr_16 : trFn maps Tryd.prog { loc := [], org := [], mv := [], bl := [], ll := [] } true Tryd.f16 = some f_risc_bit := by kernel_rfl
theorem tr_17 : trFn maps Tryd.prog { loc := [], org := [], mv := [(1, 2, 0), (1, 0, 0), (1, 1, 0)], bl := [], ll := [] } true Tryd.f17 = some f_strconv_Itoa := by kernel_rfl
theorem tr_18 : trFn maps Tryd.prog { loc := [], org := [], mv := [(1, 0, 0), (1, 1, 0)], bl := [], ll := [] } true Tryd.f18 = some f_risc_reg := by kernel_rfl
theorem tr_19 : trFn maps Tryd.prog { loc := [], org := [], mv := [(1, 1, 0)], bl := [], ll := [] } true Tryd.f19 = some f_risc_ops := by kernel_rfl
theorem tr_20 : trFn maps Tryd.prog { loc := [], org := [], mv := [], bl := [], ll := [] } true Tryd.f20 = some f_risc_either := by kernel_rfl
theorem tr_21 : trFn maps Tryd.prog { loc := [], org := [], mv := [(1, 1, 0)], bl := [], ll := [] } true Tryd.f21 = some f_risc_conditions := by kernel_rfl
theorem tr_22 : trFn maps Tryd.prog { loc := [], org := [], mv := [(27, 1, 0), (25, 0, 0), (25, 1, 1), (19, 0, 0), (19, 1, 1)], bl := [(0, [0, 1]), (2, [0, 1, 5, 39, 40, 41]), (1, [0, 1, 5]), (4, [1, 8, 63, 64, 65]), (3, [8])], ll := [(1, [0, 1, 5, 39, 40, 41]), (3, [1, 8, 63, 64, 65])] } true Tryd.f22 = some f_strings_Join := by kernel_rfl
theorem tr_23 : trFn maps Tryd.prog { loc := [], org := [], mv := [], bl := [], ll := [] } true Tryd.f23 = some f_waferref5_dec := by kernel_rfl
theorem tr_24 : trFn maps Tryd.prog { loc := [], org := [], mv := [(1, 0, 0), (1, 1, 0)], bl := [], ll := [] } true Tryd.f24 = some f_waferref5_reg := by kernel_rfl
theorem tr_25 : trFn maps Tryd.prog { loc := [], org := [], mv := [], bl := [], ll := [] } true Tryd.f25 = some f_waferref5_in := by kernel_rfl
theorem tr_26 : trFn maps Tryd.prog { loc := [], org := [], mv := [], bl := [], ll := [] } true Tryd.f26 = some f_waferref5_bit := by kernel_rfl
theorem tr_27 : trFn maps Tryd.prog { loc := [], org := [], mv := [], bl := [], ll := [] } true Tryd.f27 = some f_risc_nibble := by kernel_rfl
theorem tr_28 : trFn maps Tryd.prog { loc := [], org := [], mv := [], bl := [], ll := [] } true Tryd.f28 = some f_risc_signed := by kernel_rfl
theorem tr_29 : trFn maps Tryd.prog { loc := [], org := [], mv := [(1, 2, 0), (1, 0, 0), (1, 1, 0)], bl := [], ll := [] } true Tryd.f29 = some f_internal_strconv_Itoa := by kernel_rfl
theorem tr_30 : trFn maps Tryd.prog { loc := [], org := [], mv := [(14, 2, 0), (13, 2, 0), (13, 0, 0), (13, 1, 0), (9, 4, 0)], bl := [(1, [0, 3, 4, 5, 6]), (0, [0, 3, 5]), (3, [0, 9, 10, 12]), (2, [0, 9, 10, 12]), (7, [0, 9, 10, 12]), (6, [0, 9, 10, 12]), (5, [0, 9, 10, 11, 12]), (4, [0, 9, 10, 11])], ll := [(0, [0, 3, 4, 5, 6]), (2, [0, 9, 10, 12]), (4, [0, 9, 10, 11, 12]), (6, [0, 9, 10, 12])] } true Tryd.f30 = some f_strings_Fields := by kernel_rfl
theorem tr_31 : trFn maps Tryd.prog { loc := [], org := [], mv := [(4, 1, 0), (4, 2, 1), (4, 0, 0), (4, 2, 0)], bl := [], ll := [] } false Tryd.f31 = some f_strings_Builder_Grow := by kernel_rfl
theorem tr_32 : trFn maps Tryd.prog { loc := [], org := [], mv := [(2, 9, 1), (2, 4, 9), (2, 6, 0)], bl := [], ll := [] } false Tryd.f32 = some f_strings_Builder_WriteString := by kernel_rfl
theorem tr_33 : trFn maps Tryd.prog { loc := [], org := [], mv := [], bl := [], ll := [] } true Tryd.f33 = some f_strings_Builder_String := by kernel_rfl
theorem tr_34 : trFn maps Tryd.prog { loc := [], org := [], mv := [(14, 2, 0), (14, 5, 2), (13, 4, 0), (12, 4, 0), (9, 3, 0), (9, 4, 1), (8, 2, 0), (5, 2, 0), (3, 2, 0), (3, 0, 0), (3, 1, 0)], bl := [], ll := [] } true Tryd.f34 = some f_internal_strconv_FormatInt := by kernel_rfl
theorem tr_35 : trFn maps Tryd.prog { loc := [11], org := [(11, 11), (57, 11), (59, 11)], mv := [(14, 3, 0), (13, 7, 0), (13, 0, 0), (13, 6, 0), (8, 6, 0), (8, 0, 0), (8, 5, 0), (6, 1, 0), (6, 2, 0), (1, 1, 0)], bl := [(1, [0, 1, 5, 6, 14]), (0, [0, 5, 6]), (3, [0, 9, 47, 48, 49]), (2, [9])], ll := [(0, [0, 1, 5, 6, 14]), (2, [0, 9, 47, 48, 49])] } true Tryd.f35 = some f_strings_FieldsFunc := by kernel_rfl
theorem tr_36 : trFn maps Tryd.prog { loc := [], org := [], mv := [(13, 3, 0), (13, 1, 0), (13, 2, 1)], bl := [(0, [])], ll := [] } true Tryd.f36 = some f_unicode_IsSpace := by kernel_rfl
theorem tr_37 : trFn maps Tryd.prog { loc := [], org := [], mv := [(1, 7, 1)], bl := [], ll := [] } false Tryd.f37 = some f_strings_Builder_copyCheck := by kernel_rfl
theorem tr_38 : trFn maps Tryd.prog { loc := [], org := [], mv := [], bl := [], ll := [] } false Tryd.f38 = some f_strings_Builder_grow := by kernel_rfl
theorem tr_39 : trFn maps Tryd.prog { loc := [], org := [], mv := [], bl := [], ll := [] } true Tryd.f39 = some f_internal_strconv_small := by kernel_rfl
theorem tr_40 : trFn maps Tryd.prog { loc := [], org := [], mv := [(1, 3, 0)], bl := [], ll := [] } true Tryd.f40 = some f_internal_strconv_numDigits := by kernel_rfl
theorem tr_41 : trFn maps Tryd.prog { loc := [], org := [], mv := [(26, 5, 1), (12, 2, 0), (2, 3, 0)], bl := [(1, [0, 1, 4]), (0, [0, 1, 4])], ll := [(0, [0, 1, 4])] } false Tryd.f41 = some f_internal_strconv_formatBase10 := by kernel_rfl
theorem tr_42 : trFn maps Tryd.prog { loc := [], org := [], mv := [(30, 3, 0), (29, 4, 0), (29, 0, 0), (29, 3, 0), (17, 2, 0), (9, 2, 0), (8, 4, 0)], bl := [(3, [0, 1, 3, 4, 10, 11, 12, 13, 17]), (2, [0, 1, 3, 4, 10, 11, 12, 13]), (1, [0, 1, 3, 4, 10, 11, 12, 13, 14, 15, 16]), (0, [0, 1, 3, 4, 10, 11, 12, 13])], ll := [(2, [0, 1, 3, 4, 10, 11, 12, 13, 17]), (0, [0, 1, 3, 4, 10, 11, 12, 13, 14, 15, 16])] } false Tryd.f42 = some f_internal_strconv_formatBits := by kernel_rfl
theorem tr_43 : trFn maps Tryd.prog { loc := [], org := [], mv := [(7, 4, 0), (7, 0, 0), (7, 3, 0), (4, 6, 0)], bl := [], ll := [] } true Tryd.f43 = some f_unicode_isExcludingLatin := by kernel_rfl
theorem tr_46 : trFn maps Tryd.prog { loc := [], org := [], mv := [], bl := [], ll := [] } true Tryd.f46 = some f_internal_strconv_log10Pow2 := by kernel_rfl
theorem tr_47 : trFn maps Tryd.prog { loc := [], org := [], mv := [], bl := [], ll := [] } true Tryd.f47 = some f_math_bits_Len64 := by kernel_rfl
theorem tr_48 : trFn maps Tryd.prog { loc := [], org := [], mv := [], bl := [], ll := [] } true Tryd.f48 = some f_internal_strconv_bool2_int_ := by kernel_rfl
theorem tr_49 : trFn maps Tryd.prog { loc := [], org := [], mv := [], bl := [], ll := [] } true Tryd.f49 = some f_internal_strconv_isPowerOfTwo := by kernel_rfl
theorem tr_50 : trFn maps Tryd.prog { loc := [], org := [], mv := [(2, 2, 0), (2, 0, 0), (2, 1, 0), (1, 3, 0)], bl := [], ll := [] } true Tryd.f50 = some f_math_bits_TrailingZeros := by kernel_rfl
theorem tr_51 : trFn maps Tryd.prog { loc := [], org := [], mv := [(15, 6, 0)], bl := [(1, [0, 1, 19, 20]), (0, []), (3, [0, 1, 7, 8]), (2, [])], ll := [(0, [0, 1, 19, 20]), (2, [0, 1, 7, 8])] } true Tryd.f51 = some f_unicode_is16 := by kernel_rfl
theorem tr_52 : trFn maps Tryd.prog { loc := [10], org := [(10, 10), (69, 10), (75, 10), (79, 10), (84, 10), (87, 10), (93, 10)], mv := [(15, 6, 0)], bl := [(1, [0, 1, 15, 16]), (0, []), (3, [0, 1, 7, 8]), (2, [])], ll := [(0, [0, 1, 15, 16]), (2, [0, 1, 7, 8])] } true Tryd.f52 = some f_unicode_is32 := by kernel_rfl
theorem tr_53 : trFn maps Tryd.prog { loc := [], org := [], mv := [(3, 9, 0)], bl := [], ll := [] } true Tryd.f53 = some f_math_bits_TrailingZeros32 := by kernel_rfl
theorem tr_54 : trFn maps Tryd.prog { loc := [], org := [], mv := [(3, 9, 0)], bl := [], ll := [] } true Tryd.f54 = some f_math_bits_TrailingZeros64 := by kernel_rfl
theorem tr_83 : trFn maps Tryd.prog { loc := [], org := [], mv := [], bl := [], ll := [] } false Tryd.f83 = some f_gosem_cut_vars := by kernel_rfl
theorem tab : Tab Tryd.prog maps pg0 := by
  intro f' i hl fn' hf
  have e : f' = i := look_id hl
  subst e
  unfold pg0 prog at hf
  simp only [Bool.cond_eq_ite] at hf
  by_cases h2 : f' = 2
  · subst h2; simp at hf; subst hf; exact ⟨_, _, _, Tryd.func2, by decide +kernel, tr_2⟩
  rw [if_neg (by simpa using h2)] at hf
  by_cases h3 : f' = 3
  · subst h3; simp at hf; subst hf; exact ⟨_, _, _, Tryd.func3, by decide +kernel, tr_3⟩
  rw [if_neg (by simpa using h3)] at hf
  by_cases h4 : f' = 4
  · subst h4; simp at hf; subst hf; exact ⟨_, _, _, Tryd.func4, by decide +kernel, tr_4⟩
  rw [if_neg (by simpa using h4)] at hf
  by_cases h5 : f' = 5
  · subst h5; simp at hf; subst hf; exact ⟨_, _, _, Tryd.func5, by decide +kernel, tr_5⟩
  rw [if_neg (by simpa using h5)] at hf
  by_cases h6 : f' = 6
  · subst h6; simp at hf; subst hf; exact ⟨_, _, _, Tryd.func6, by decide +kernel, tr_6⟩
  rw [if_neg (by simpa using h6)] at hf
  by_cases h7 : f' = 7
  · subst h7; simp at hf; subst hf; exact ⟨_, _, _, Tryd.func7, by decide +kernel, tr_7⟩
  rw [if_neg (by simpa using h7)] at hf
  by_cases h8 : f' = 8
  · subst h8; simp at hf; subst hf; exact ⟨_, _, _, Tryd.func8, by decide +kernel, tr_8⟩
  rw [if_neg (by simpa using h8)] at hf
  by_cases h9 : f' = 9
  · subst h9; simp at hf; subst hf; exact ⟨_, _, _, Tryd.func9, by decide +kernel, tr_9⟩
  rw [if_neg (by simpa using h9)] at hf
  by_cases h10 : f' = 10
  · subst h10; simp at hf; subst hf; exact ⟨_, _, _, Tryd.func10, by decide +kernel, tr_10⟩
  rw [if_neg (by simpa using h10)] at hf
  by_cases h11 : f' = 11
  · subst h11; simp at hf; subst hf; exact ⟨_, _, _, Tryd.func11, by decide +kernel, tr_11⟩
  rw [if_neg (by simpa using h11)] at hf
  by_cases h12 : f' = 12
  · subst h12; simp at hf; subst hf; exact ⟨_, _, _, Tryd.func12, by decide +kernel, tr_12⟩
  rw [if_neg (by simpa using h12)] at hf
  by_cases h13 : f' = 13
  · subst h13; simp at hf; subst hf; exact ⟨_, _, _, Tryd.func13, by decide +kernel, tr_13⟩
  rw [if_neg (by simpa using h13)] at hf
  by_cases h14 : f' = 14
  · subst h14; simp at hf; subst hf; exact ⟨_, _, _, Tryd.func14, by decide +kernel, tr_14⟩
  rw [if_neg (by simpa using h14)] at hf
  by_cases h15 : f' = 15
  · subst h15; simp at hf; subst hf; exact ⟨_, _, _, Tryd.func15, by decide +kernel, tr_15⟩
  rw [if_neg (by simpa using h15)] at hf
  by_cases h16 : f' = 16
  · subst h16; simp at hf; subst hf; exact ⟨_, _, _, Tryd.func16, by decide +kernel, tr_16⟩
  rw [if_neg (by simpa using h16)] at hf
  by_cases h17 : f' = 17
  · subst h17; simp at hf; subst hf; exact ⟨_, _, _, Tryd.func17, by decide +kernel, tr_17⟩
  rw [if_neg (by simpa using h17)] at hf
  by_cases h18 : f' = 18
  · subst h18; simp at hf; subst hf; exact ⟨_, _, _, Tryd.func18, by decide +kernel, tr_18⟩
  rw [if_neg (by simpa using h18)] at hf
  by_cases h19 : f' = 19
  · subst h19; simp at hf; subst hf; exact ⟨_, _, _, Tryd.func19, by decide +kernel, tr_19⟩
  rw [if_neg (by simpa using h19)] at hf
  by_cases h20 : f' = 20
  · subst h20; simp at hf; subst hf; exact ⟨_, _, _, Tryd.func20, by decide +kernel, tr_20⟩
  rw [if_neg (by simpa using h20)] at hf
  by_cases h21 : f' = 21
  · subst h21; simp at hf; subst hf; exact ⟨_, _, _, Tryd.func21, by decide +kernel, tr_21⟩
  rw [if_neg (by simpa using h21)] at hf
  by_cases h22 : f' = 22
  · subst h22; simp at hf; subst hf; exact ⟨_, _, _, Tryd.func22, by decide +kernel, tr_22⟩
  rw [if_neg (by simpa using h22)] at hf
  by_cases h23 : f' = 23
  · subst h23; simp at hf; subst hf; exact ⟨_, _, _, Tryd.func23, by decide +kernel, tr_23⟩
  rw [if_neg (by simpa using h23)] at hf
  by_cases h24 : f' = 24
  · subst h24; simp at hf; subst hf; exact ⟨_, _, _, Tryd.func24, by decide +kernel, tr_24⟩
  rw [if_neg (by simpa using h24)] at hf
  by_cases h25 : f' = 25
  · subst h25; simp at hf; subst hf; exact ⟨_, _, _, Tryd.func25, by decide +kernel, tr_25⟩
  rw [if_neg (by simpa using h25)] at hf
  by_cases h26 : f' = 26
  · subst h26; simp at hf; subst hf; exact ⟨_, _, _, Tryd.func26, by decide +kernel, tr_26⟩
  rw [if_neg (by simpa using h26)] at hf
  by_cases h27 : f' = 27
  · subst h27; simp at hf; subst hf; exact ⟨_, _, _, Tryd.func27, by decide +kernel, tr_27⟩
  rw [if_neg (by simpa using h27)] at hf
  by_cases h28 : f' = 28
  · subst h28; simp at hf; subst hf; exact ⟨_, _, _, Tryd.func28, by decide +kernel, tr_28⟩
  rw [if_neg (by simpa using h28)] at hf
  by_cases h29 : f' = 29
  · subst h29; simp at hf; subst hf; exact ⟨_, _, _, Tryd.func29, by decide +kernel, tr_29⟩
  rw [if_neg (by simpa using h29)] at hf
  by_cases h30 : f' = 30
  · subst h30; simp at hf; subst hf; exact ⟨_, _, _, Tryd.func30, by decide +kernel, tr_30⟩
  rw [if_neg (by simpa using h30)] at hf
  by_cases h31 : f' = 31
  · subst h31; simp at hf; subst hf; exact ⟨_, _, _, Tryd.func31, by decide +kernel, tr_31⟩
  rw [if_neg (by simpa using h31)] at hf
  by_cases h32 : f' = 32
  · subst h32; simp at hf; subst hf; exact ⟨_, _, _, Tryd.func32, by decide +kernel, tr_32⟩
  rw [if_neg (by simpa using h32)] at hf
  by_cases h33 : f' = 33
  · subst h33; simp at hf; subst hf; exact ⟨_, _, _, Tryd.func33, by decide +kernel, tr_33⟩
  rw [if_neg (by simpa using h33)] at hf
  by_cases h34 : f' = 34
  · subst h34; simp at hf; subst hf; exact ⟨_, _, _, Tryd.func34, by decide +kernel, tr_34⟩
  rw [if_neg (by simpa using h34)] at hf
  by_cases h35 : f' = 35
  · subst h35; simp at hf; subst hf; exact ⟨_, _, _, Tryd.func35, by decide +kernel, tr_35⟩
  rw [if_neg (by simpa using h35)] at hf
  by_cases h36 : f' = 36
  · subst h36; simp at hf; subst hf; exact ⟨_, _, _, Tryd.func36, by decide +kernel, tr_36⟩
  rw [if_neg (by simpa using h36)] at hf
  by_cases h37 : f' = 37
  · subst h37; simp at hf; subst hf; exact ⟨_, _, _, Tryd.func37, by decide +kernel, tr_37⟩
  rw [if_neg (by simpa using h37)] at hf
  by_cases h38 : f' = 38
  · subst h38; simp at hf; subst hf; exact ⟨_, _, _, Tryd.func38, by decide +kernel, tr_38⟩
  rw [if_neg (by simpa using h38)] at hf
  by_cases h39 : f' = 39
  · subst h39; simp at hf; subst hf; exact ⟨_, _, _, Tryd.func39, by decide +kernel, tr_39⟩
  rw [if_neg (by simpa using h39)] at hf
  by_cases h40 : f' = 40
  · subst h40; simp at hf; subst hf; exact ⟨_, _, _, Tryd.func40, by decide +kernel, tr_40⟩
  rw [if_neg (by simpa using h40)] at hf
  by_cases h41 : f' = 41
  · subst h41; simp at hf; subst hf; exact ⟨_, _, _, Tryd.func41, by decide +kernel, tr_41⟩
  rw [if_neg (by simpa using h41)] at hf
  by_cases h42 : f' = 42
  · subst h42; simp at hf; subst hf; exact ⟨_, _, _, Tryd.func42, by decide +kernel, tr_42⟩
  rw [if_neg (by simpa using h42)] at hf
  by_cases h43 : f' = 43
  · subst h43; simp at hf; subst hf; exact ⟨_, _, _, Tryd.func43, by decide +kernel, tr_43⟩
  rw [if_neg (by simpa using h43)] at hf
  by_cases h46 : f' = 46
  · subst h46; simp at hf; subst hf; exact ⟨_, _, _, Tryd.func46, by decide +kernel, tr_46⟩
  rw [if_neg (by simpa using h46)] at hf
  by_cases h47 : f' = 47
  · subst h47; simp at hf; subst hf; exact ⟨_, _, _, Tryd.func47, by decide +kernel, tr_47⟩
  rw [if_neg (by simpa using h47)] at hf
  by_cases h48 : f' = 48
  · subst h48; simp at hf; subst hf; exact ⟨_, _, _, Tryd.func48, by decide +kernel, tr_48⟩
  rw [if_neg (by simpa using h48)] at hf
  by_cases h49 : f' = 49
  · subst h49; simp at hf; subst hf; exact ⟨_, _, _, Tryd.func49, by decide +kernel, tr_49⟩
  rw [if_neg (by simpa using h49)] at hf
  by_cases h50 : f' = 50
  · subst h50; simp at hf; subst hf; exact ⟨_, _, _, Tryd.func50, by decide +kernel, tr_50⟩
  rw [if_neg (by simpa using h50)] at hf
  by_cases h51 : f' = 51
  · subst h51; simp at hf; subst hf; exact ⟨_, _, _, Tryd.func51, by decide +kernel, tr_51⟩
  rw [if_neg (by simpa using h51)] at hf
  by_cases h52 : f' = 52
  · subst h52; simp at hf; subst hf; exact ⟨_, _, _, Tryd.func52, by decide +kernel, tr_52⟩
  rw [if_neg (by simpa using h52)] at hf
  by_cases h53 : f' = 53
  · subst h53; simp at hf; subst hf; exact ⟨_, _, _, Tryd.func53, by decide +kernel, tr_53⟩
  rw [if_neg (by simpa using h53)] at hf
  by_cases h54 : f' = 54
  · subst h54; simp at hf; subst hf; exact ⟨_, _, _, Tryd.func54, by decide +kernel, tr_54⟩
  rw [if_neg (by simpa using h54)] at hf
  by_cases h83 : f' = 83
  · subst h83; simp at hf; subst hf; exact ⟨_, _, _, Tryd.func83, by decide +kernel, tr_83⟩
  rw [if_neg (by simpa using h83)] at hf
  cases hf

theorem tab1 : Tab Tryd.prog maps W.pg := fun f' i hl fn' hf => tab f' i hl fn' (by
  unfold W.pg at hf
  simp only [Bool.cond_eq_ite] at hf
  split at hf
  · cases hf
  · exact hf)
theorem ext_sim : CallSim Tryd.prog maps W.pg.ext := by
  intro i vs H r h f' hl g w argv ha hH
  unfold W.pg at h
  simp only [Bool.cond_eq_ite] at h
  split at h
  · rename_i hb
    have e : f' = i := look_id hl
    subst e
    have e2 : f' = 22 := by simpa using hb
    subst e2
    have hs : Tryd.f22.body.isSome = true := by kernel_rfl
    obtain ⟨c, hc⟩ := Option.isSome_iff_exists.1 hs
    exact joinX_sim Go.Proofs.Tryd.joinC Tryd.func22 (by decide +kernel) hc h ha hH
  · cases h
def tabZ : D → List Int
  | .agg l => l.map fun d => match d with | .i _ n => n | _ => 0
  | _ => []
theorem look_mem {α : Type} {n : Nat} {x : α} : ∀ {l : List (Nat × α)}, W.look l n = some x → (n, x) ∈ l
  | [], h => by cases h
  | (m, y) :: l, h => by
    simp only [W.look, Bool.cond_eq_ite] at h
    split at h
    · rename_i hb
      cases h
      have := Nat.eq_of_beq_eq_true hb
      subst this
      exact .head _
    · exact .tail _ (look_mem h)
theorem tab_at {W : World} (hL : laidMetH Tryd.prog Rows.riscInstrsRow.laid W) {name : String} {k : IntKind} {d : D} {g : Nat} {t e : TypeId} {n : Nat}
    (hg : Tryd.prog.globalNamed name = some g) (hty : (Tryd.prog.globals[g]?).map (·.type) = some t) (ht : Tryd.prog.underlying t = some (.array n e)) (he : Tryd.prog.underlying e = some (.int k)) (hce : Tryd.prog.cellsOf e = 1) (hct : Tryd.prog.cellsOf t = n)
    (hm : (name, Go.Lib.tabData k (tabZ d)) ∈ Rows.riscInstrsRow.laid) (hd : d = .agg ((tabZ d).map (D.i k))) (h0 : (tabZ d).isEmpty = false) :
    ∃ name k zs, Tryd.prog.globalNamed name = some g ∧ d = .agg (zs.map (D.i k)) ∧ zs ≠ [] ∧ Go.Lib.TabIs Tryd.prog W name k zs := by
  obtain ⟨ps, hv, _⟩ := (show laidMet Tryd.prog Rows.riscInstrsRow.laid W from hL)
  exact ⟨name, k, tabZ d, hg, hd, (fun h => by rw [h] at h0; cases h0), tabIs_mem hg hty ht he hce hct hv hm⟩
theorem glOk {W : World} (hL : laidMetH Tryd.prog Rows.riscInstrsRow.laid W) : GlOk maps (g0 W) W := by
  refine glOk_tabs (P := Tryd.prog) fun n x hn => ?_
  have hm := look_mem hn
  simp only [maps, List.mem_cons, Prod.mk.injEq, List.not_mem_nil, or_false] at hm
  rcases hm with ⟨rfl, rfl⟩ | ⟨rfl, rfl⟩ | ⟨rfl, rfl⟩ | ⟨rfl, rfl⟩
  · exact tab_at hL (name := "strings.asciiSpace") (k := .u8) (d := glD 0) (by kernel_rfl) (by kernel_rfl) Tryd.underlying65 Tryd.underlying5 (by kernel_rfl) (by kernel_rfl) (.tail _ (.tail _ (.tail _ (.tail _ (.head _))))) rfl rfl
  · exact tab_at hL (name := "internal/strconv.uint64pow10") (k := .u64) (d := glD 2) (by kernel_rfl) (by kernel_rfl) Tryd.underlying85 Tryd.underlying70 (by kernel_rfl) (by kernel_rfl) (.tail _ (.tail _ (.head _))) rfl rfl
  · exact tab_at hL (name := "math/bits.deBruijn32tab") (k := .u8) (d := glD 4) (by kernel_rfl) (by kernel_rfl) Tryd.underlying102 Tryd.underlying5 (by kernel_rfl) (by kernel_rfl) (.head _) rfl rfl
  · exact tab_at hL (name := "math/bits.deBruijn64tab") (k := .u8) (d := glD 5) (by kernel_rfl) (by kernel_rfl) Tryd.underlying103 Tryd.underlying5 (by kernel_rfl) (by kernel_rfl) (.tail _ (.head _)) rfl rfl
theorem contract (H : Type) (enc : TypeId × Value → H) (w0 : World) (base : Nat) (args : Array Value) (ds gs : List (DataW H)) (before : List MemPlace)
    (hval : ∀ (j : Nat) t v, Tryd.f4.params[j]? = some t → args[j]? = some v → Value.okWide Tryd.prog w0 .any base t v)
    (hW : DataW.Whole enc Tryd.prog Tryd.f4.params.toList Rows.riscInstrsSpec.vars false w0 args.toList ds gs before) (hL : laidMetH Tryd.prog Rows.riscInstrsRow.laid w0) :
    Calls Tryd.prog 4 args w0 fun e W' => ∃ v, e = .returned v ∧ Rows.riscInstrsSpec.post enc Tryd.prog Tryd.f4 false true false false w0 args v W' := by
  have hW' := hW
  obtain ⟨p, q, hA, hV, _⟩ := hW
  have hs : Rows.riscInstrsSpec.fn H ds = { results := [.lit (.bool true)], args := ds } := by
    have hA : DataW.TrodAll enc Tryd.prog w0 0 (fun _ => true) true Tryd.f4.params.toList args.toList ds p := hA
    rw [Tryd.params4] at hA
    obtain ⟨v0, vs0, d0, ds0, p0, q0, _, rfl, _, _, r0⟩ := trodAll_cons hA
    obtain ⟨v1, vs1, d1, ds1, p1, q1, _, rfl, _, _, r1⟩ := trodAll_cons r0
    obtain ⟨_, rfl, _⟩ := trodAll_nil r1
    rfl
  refine law_contract (M := maps) (pg := W.pg) (i := 4) (ts := [26, 3, 4, 21, 5]) (tb := 4) (b := base) (r := .any) (glOk hL) (by kernel_rfl) tab1 ext_sim ext_lo (by kernel_rfl) (by decide)
    (by kernel_rfl) (by rw [Tryd.params4]; decide) bulk_ok hval rfl hW' hs (by kernel_rfl) Tryd.underlying4 (by kernel_rfl) (by rw [Tryd.params4]; decide +kernel) ?_
  intro xs hxs _
  rw [Tryd.params4] at hxs
  cases hxs with
  | cons h0 hxs =>
    cases hxs with
    | cons h1 hxs =>
      cases hxs
      obtain ⟨i, rfl, hi1, hi2⟩ := arg_ins h0
      obtain ⟨z, rfl, hz⟩ := arg_int Tryd.underlying5 h1
      have hr := instrs_law (i := i) (k := z) hi1 hi2
      obtain ⟨n, hn⟩ := callL_iff.1 hr
      exact ⟨n, _, hn, rfl, rfl⟩
noncomputable def laidWorld (os : Os) : World := World.laidAll Tryd.prog os Rows.riscInstrsRow.laid
theorem laid_met (os : Os) : laidMetH Tryd.prog Rows.riscInstrsRow.laid ((laidWorld os).forCall (fun _ _ => 0) ⟨#[], #[.agg #[.int .i64 0, .bool false, .bool false, .int .i64 0, .int .i64 0, .int .i64 0, .int .i64 0, .int .i32 0], .int .u8 0], []⟩).memory :=
  laidMet_laidAll (P := Tryd.prog) (os := os) (laid := Rows.riscInstrsRow.laid) #[.agg #[.int .i64 0, .bool false, .bool false, .int .i64 0, .int .i64 0, .int .i64 0, .int .i64 0, .int .i32 0], .int .u8 0] (by kernel_rfl) (by kernel_rfl)
theorem reads (os : Os) {H : Type} (enc : TypeId × Value → H) : ∃ places, DataW.whole enc Tryd.prog ((laidWorld os).forCall (fun _ _ => 0) ⟨#[], #[.agg #[.int .i64 0, .bool false, .bool false, .int .i64 0, .int .i64 0, .int .i64 0, .int .i64 0, .int .i32 0], .int .u8 0], []⟩).memory Tryd.f4.params.toList Rows.riscInstrsSpec.vars false #[Value.agg #[.int .i64 0, .bool false, .bool false, .int .i64 0, .int .i64 0, .int .i64 0, .int .i64 0, .int .i32 0], .int .u8 0].toList 8 = some ([.agg [.lit (.int .i64 0), .lit (.bool false), .lit (.bool false), .lit (.int .i64 0), .lit (.int .i64 0), .lit (.int .i64 0), .lit (.int .i64 0), .lit (.int .i32 0)], .lit (.int .u8 0)], [], places) :=
  ⟨[], by kernel_rfl⟩
theorem lifted (os : Os) (started : os.Started) (H : Type) (enc : TypeId × Value → H) (F : Stop.Interp) :
    ReturnsInHanded {} Tryd.checked os 4 .any ((OpenSpec.ofChange Rows.riscInstrsSpec).preRow enc Tryd.prog Tryd.f4 Rows.riscInstrsRow.domain false Rows.riscInstrsRow.laid) (((OpenSpec.ofChange Rows.riscInstrsSpec).at F).post enc Tryd.prog Tryd.f4 false true false false) := by
  obtain ⟨places, hx⟩ := reads os enc
  refine returnsInHanded_of_row (C := Tryd.checked) (s := OpenSpec.ofChange Rows.riscInstrsSpec) own started (by kernel_rfl) Tryd.func4
    (witness_row_atRef (enc := enc) (C := Tryd.checked) false (laidWorld os) #[.agg #[.int .i64 0, .bool false, .bool false, .int .i64 0, .int .i64 0, .int .i64 0, .int .i64 0, .int .i32 0], .int .u8 0] (World.laidAll_os _ _ _) (by kernel_rfl) (by kernel_rfl) (by kernel_rfl)
      (OpenSpec.preRow_of_cond 8 hx (by kernel_rfl) (fun k hk => by cases hk) (by kernel_rfl) (laid_met os))) ?_
  intro W base args ds gs before hval hW _ _ _ hL _ _
  exact contract H enc W base args ds gs before hval hW hL
theorem said : Rows.RiscInstrsSaid :=
  OpenClaim.holds_of_cond 4 Tryd.f4 rfl rfl rfl rfl rfl rfl rfl ⟨rfl, rfl, rfl, rfl, rfl⟩ rfl rfl rfl rfl rfl (by kernel_rfl) Tryd.func4 (by kernel_rfl)
    (of_decide_eq_true (by kernel_rfl)) (by unfold Func.isWrapper; first | (rw [if_pos (by decide +kernel)]; kernel_rfl) | (rw [if_neg (by decide +kernel)]; exact ⟨rfl, rfl⟩))
    (fun os started H enc _ F => by rw [OpenClaim.pre_eq_preRow]; exact lifted os started H enc F)
theorem plain (f : FuncId) (fn : Func) (hf : Tryd.pinned.checked.prog.funcNamed "wafer/waferlaw5.RiscInstrs" = some f) (hfn : Tryd.pinned.checked.prog.funcs[f]? = some fn) :
    false = Tryd.pinned.checked.prog.looks [] ∧ ∀ (j : Nat) t, fn.params[j]? = some t → Tryd.pinned.checked.prog.wantsStandIn t = false := by
  obtain rfl : f = 4 := Option.some.inj ((show Tryd.prog.funcNamed "wafer/waferlaw5.RiscInstrs" = some 4 by kernel_rfl).symm.trans hf) |>.symm
  obtain rfl : fn = Tryd.f4 := (Option.some.inj (Tryd.func4.symm.trans hfn)).symm
  refine ⟨by kernel_rfl, fun j t ht => ?_⟩
  rw [Tryd.params4] at ht
  have ht : t = 26 ∨ t = 5 := by simpa using Array.mem_of_getElem? ht
  rcases ht with rfl | rfl
  · exact (show Tryd.prog.wantsStandIn 26 = false by kernel_rfl)
  · exact (show Tryd.prog.wantsStandIn 5 = false by kernel_rfl)
theorem riscInstrs_holds : Rows.RiscInstrsCardSaid :=
  Claim7.holds_tied_plain_at .later [] _ _ _ _ said (fun _ h => by cases h) (by kernel_rfl) (fun _ h => by cases h) riscInstrs_row_tie rfl ⟨rfl, rfl⟩ (by kernel_rfl) rfl plain (by kernel_rfl)
end Go.Proofs.YteejlnlcjmaibaaDoor
