/-
  ScanLines: which line and column any place is in, for every text and place.: part 5 of what the proof rests on (a value semantics for a part of the language, sound against the model; the walks).
-/
import Derived.Test.YthaolbkjkigllaaDoorCards
import Derived.Test.YthaolbkjkigllaaDoorTie
import Derived.WalkKit
import Derived.ProofKit
import Derived.OpenShut
import Derived.Deep.DeepHandedRow
import Derived.Deep.DeepWitnessRowRef
import Derived.Lib.LaidTab
import Derived.Lay
import Derived.Test.YthaolbkjkigllaaDoorW4
/- The program is what the small semantics runs: the seat's table, shared by its laws. -/
set_option linter.unusedVariables false
set_option linter.unusedSimpArgs false
namespace Go.Proofs.YthaolbkjkigllaaDoor
open Go.ChangeShapes Go.WideShapes Go.ChangeAt Go.RowKit W
set_option maxRecDepth 100000
theorem own : ownKnob Tryd.prog.godebug = none := by kernel_rfl
theorem bulk_ok {H : Type} : Bulk (Rows.uptoBulk (H := H)) Rows.uptoBulkAll :=
  ⟨fun _ => rfl, fun l => by cases l <;> simp [Rows.uptoBulk], rfl, fun _ _ => rfl, fun _ => rfl, rfl, fun _ _ => rfl⟩
def pg0 : W.Pg := ⟨W.prog, fun _ _ _ => none⟩
def maps : Maps := { fm := (List.range 141).map fun i => (i, i), tm := (List.range 155).map fun i => (i, i), gl := [(0, glD 0), (5, glD 5), (6, glD 6), (7, glD 7)], bk := [], gi := [3, 4] }
theorem tr_10 : trFn maps Tryd.prog { loc := [], org := [], mv := [(9, 1, 0), (9, 2, 1), (5, 1, 0), (5, 5, 0)], bl := [(1, [0, 22, 23, 24]), (0, [])], ll := [(0, [0, 22, 23, 24])] } true Tryd.f10 = some f_waferlaw11_ScanLines := by kernel_rfl
theorem tr_11 : trFn maps Tryd.prog { loc := [], org := [], mv := [(3, 1, 0)], bl := [], ll := [] } true Tryd.f11 = some f_waferlaw11_known := by kernel_rfl
theorem tr_16 : trFn maps Tryd.prog { loc := [5], org := [(5, 5), (21, 5)], mv := [(6, 4, 1), (6, 0, 9), (6, 3, 0), (5, 3, 1), (2, 3, 1)], bl := [(1, [2, 3, 4]), (0, [2, 3])], ll := [(0, [2, 3, 4])] } false Tryd.f16 = some f_scan_All := by kernel_rfl
theorem tr_17 : trFn maps Tryd.prog { loc := [], org := [], mv := [(1, 1, 0)], bl := [], ll := [] } true Tryd.f17 = some f_scan_Keywords := by kernel_rfl
theorem tr_20 : trFn maps Tryd.prog { loc := [], org := [], mv := [], bl := [], ll := [] } true Tryd.f20 = some f_waferhelp_Place := by kernel_rfl
theorem tr_21 : trFn maps Tryd.prog { loc := [], org := [], mv := [(3, 4, 0), (3, 5, 0)], bl := [], ll := [] } false Tryd.f21 = some f_scan_Line := by kernel_rfl
theorem tr_22 : trFn maps Tryd.prog { loc := [], org := [], mv := [], bl := [(1, [0, 1, 6, 7, 8]), (0, [6, 7])], ll := [(0, [0, 1, 6, 7, 8])] } false Tryd.f22 = some f_waferref11_Line := by kernel_rfl
theorem tr_27 : trFn maps Tryd.prog { loc := [3], org := [(3, 3), (16, 3)], mv := [(5, 4, 1)], bl := [], ll := [] } false Tryd.f27 = some f_scan_All_1 := by kernel_rfl
theorem tr_28 : trFn maps Tryd.prog { loc := [2, 4], org := [(2, 2), (4, 4), (61, 4), (62, 4)], mv := [(4, 2, 1), (12, 2, 1), (11, 2, 0), (10, 2, 1), (9, 10, 0), (8, 2, 1), (7, 10, 0)], bl := [(0, [0, 2, 3, 4])], ll := [] } true Tryd.f28 = some f_scan_scanner_next := by kernel_rfl
theorem tr_29 : trFn maps Tryd.prog { loc := [], org := [], mv := [(14, 2, 0), (13, 2, 0), (13, 0, 0), (13, 1, 0), (9, 4, 0)], bl := [(1, [0, 3, 4, 5, 6]), (0, [0, 3, 5]), (3, [0, 9, 10, 12]), (2, [0, 9, 10, 12]), (7, [0, 9, 10, 12]), (6, [0, 9, 10, 12]), (5, [0, 9, 10, 11, 12]), (4, [0, 9, 10, 11])], ll := [(0, [0, 3, 4, 5, 6]), (2, [0, 9, 10, 12]), (4, [0, 9, 10, 11, 12]), (6, [0, 9, 10, 12])] } true Tryd.f29 = some f_strings_Fields := by kernel_rfl
theorem tr_31 : trFn maps Tryd.prog { loc := [], org := [], mv := [(1, 3, 0), (1, 1, 0), (1, 2, 1), (1, 0, 0), (1, 2, 0)], bl := [], ll := [] } true Tryd.f31 = some f_strings_LastIndexByte := by kernel_rfl
theorem tr_40 : trFn maps Tryd.prog { loc := [], org := [], mv := [(13, 0, 0), (13, 1, 0), (2, 2, 0)], bl := [(2, [0, 2, 3]), (1, [0, 2, 3]), (0, [2, 3])], ll := [(0, [0, 2, 3])] } false Tryd.f40 = some f_scan_scanner_skip := by kernel_rfl
theorem tr_41 : trFn maps Tryd.prog { loc := [], org := [], mv := [], bl := [], ll := [] } true Tryd.f41 = some f_scan_letter := by kernel_rfl
theorem tr_42 : trFn maps Tryd.prog { loc := [2], org := [(2, 2)], mv := [(5, 3, 0), (4, 0, 0), (4, 1, 0), (2, 2, 0), (2, 0, 0), (2, 1, 0)], bl := [(0, [2, 4])], ll := [] } true Tryd.f42 = some f_scan_scanner_word := by kernel_rfl
theorem tr_43 : trFn maps Tryd.prog { loc := [], org := [], mv := [], bl := [], ll := [] } true Tryd.f43 = some f_scan_digit := by kernel_rfl
theorem tr_44 : trFn maps Tryd.prog { loc := [2], org := [(2, 2)], mv := [(12, 0, 0), (12, 1, 0), (10, 2, 0), (10, 3, 2), (10, 1, 0), (10, 3, 1), (10, 0, 0), (10, 3, 0), (7, 2, 0), (4, 2, 0), (2, 2, 0)], bl := [(0, [2, 3, 4, 5, 6, 7])], ll := [] } true Tryd.f44 = some f_scan_scanner_number := by kernel_rfl
theorem tr_45 : trFn maps Tryd.prog { loc := [], org := [], mv := [(1, 11, 0), (1, 9, 0), (1, 10, 1)], bl := [], ll := [] } true Tryd.f45 = some f_scan_scanner_has := by kernel_rfl
theorem tr_46 : trFn maps Tryd.prog { loc := [2], org := [(2, 2)], mv := [(7, 0, 0), (7, 1, 0), (5, 0, 0), (5, 1, 0), (3, 2, 0)], bl := [(0, [0, 2, 4])], ll := [] } true Tryd.f46 = some f_scan_scanner_text := by kernel_rfl
theorem tr_47 : trFn maps Tryd.prog { loc := [2], org := [(2, 2)], mv := [], bl := [(1, [0, 2, 5, 6, 7]), (0, [0, 2])], ll := [(0, [0, 2, 5, 6, 7])] } true Tryd.f47 = some f_scan_scanner_sign := by kernel_rfl
theorem tr_53 : trFn maps Tryd.prog { loc := [], org := [], mv := [], bl := [(1, [0, 1, 5]), (0, [])], ll := [(0, [0, 1, 5])] } true Tryd.f53 = some f_internal_bytealg_LastIndexByteString := by kernel_rfl
theorem tr_59 : trFn maps Tryd.prog { loc := [], org := [], mv := [], bl := [], ll := [] } false Tryd.f59 = some f_scan_fail := by kernel_rfl
theorem tr_60 : trFn maps Tryd.prog { loc := [], org := [], mv := [], bl := [(1, [0, 1, 5]), (0, [0, 5])], ll := [(0, [0, 1, 5])] } true Tryd.f60 = some f_scan_scanner_while := by kernel_rfl
theorem tr_61 : trFn maps Tryd.prog { loc := [], org := [], mv := [(1, 2, 0)], bl := [], ll := [] } true Tryd.f61 = some f_scan_named := by kernel_rfl
theorem tr_62 : trFn maps Tryd.prog { loc := [], org := [], mv := [(1, 1, 0), (1, 2, 1), (1, 0, 0), (1, 2, 0)], bl := [], ll := [] } true Tryd.f62 = some f_slices_Contains___string_string_ := by kernel_rfl
theorem tr_63 : trFn maps Tryd.prog { loc := [], org := [], mv := [(1, 2, 0)], bl := [], ll := [] } true Tryd.f63 = some f_scan_hex := by kernel_rfl
theorem tr_64 : trFn maps Tryd.prog { loc := [], org := [], mv := [(3, 7, 0), (3, 4, 0), (3, 5, 4), (3, 3, 0), (3, 5, 3), (3, 2, 0), (3, 5, 2), (3, 1, 0), (3, 5, 1)], bl := [], ll := [] } false Tryd.f64 = some f_strconv_ParseUint := by kernel_rfl
theorem tr_65 : trFn maps Tryd.prog { loc := [], org := [], mv := [(1, 3, 0), (1, 1, 0), (1, 2, 1), (1, 0, 0), (1, 2, 0)], bl := [], ll := [] } true Tryd.f65 = some f_strings_HasPrefix := by kernel_rfl
theorem tr_66 : trFn maps Tryd.prog { loc := [], org := [], mv := [], bl := [], ll := [] } true Tryd.f66 = some f_scan_scanner_text_1 := by kernel_rfl
theorem tr_74 : trFn maps Tryd.prog { loc := [], org := [], mv := [], bl := [(1, [0, 1, 7, 8]), (0, [])], ll := [(0, [0, 1, 7, 8])] } true Tryd.f74 = some f_slices_Index___string_string_ := by kernel_rfl
theorem tr_75 : trFn maps Tryd.prog { loc := [], org := [], mv := [(45, 0, 0), (45, 1, 0)], bl := [(1, [0, 1, 2, 8, 9]), (0, [0, 1, 2, 8, 9]), (2, [0, 1, 2, 8, 9, 10]), (5, [1, 8, 9, 10, 11, 12, 13, 16, 99, 100, 101]), (4, [1, 8, 9, 10, 11, 12, 13, 99, 100, 101]), (3, [9, 12, 13])], ll := [(3, [1, 8, 9, 10, 11, 12, 13, 99, 100, 101])] } false Tryd.f75 = some f_internal_strconv_ParseUint := by kernel_rfl
theorem tr_77 : trFn maps Tryd.prog { loc := [], org := [], mv := [], bl := [], ll := [] } true Tryd.f77 = some f_internal_stringslite_HasPrefix := by kernel_rfl
theorem tr_85 : trFn maps Tryd.prog { loc := [], org := [], mv := [], bl := [], ll := [] } true Tryd.f85 = some f_internal_strconv_lower := by kernel_rfl
theorem tabF : TabF Tryd.prog maps pg0 := by
  intro f' i hl fn' hf
  have e : f' = i := look_id hl
  subst e
  unfold pg0 prog at hf
  simp only [Bool.cond_eq_ite] at hf
  by_cases h10 : f' = 10
  · subst h10; simp at hf; subst hf; exact ⟨_, _, _, Tryd.func10, by decide +kernel, tr_10⟩
  rw [if_neg (by simpa using h10)] at hf
  by_cases h11 : f' = 11
  · subst h11; simp at hf; subst hf; exact ⟨_, _, _, Tryd.func11, by decide +kernel, tr_11⟩
  rw [if_neg (by simpa using h11)] at hf
  by_cases h16 : f' = 16
  · subst h16; simp at hf; subst hf; exact ⟨_, _, _, Tryd.func16, by decide +kernel, tr_16⟩
  rw [if_neg (by simpa using h16)] at hf
  by_cases h17 : f' = 17
  · subst h17; simp at hf; subst hf; exact ⟨_, _, _, Tryd.func17, by decide +kernel, tr_17⟩
  rw [if_neg (by simpa using h17)] at hf
  by_cases h20 : f' = 20
  · subst h20; simp at hf; subst hf; exact ⟨_, _, _, Tryd.func20, by decide +kernel, tr_20⟩
  rw [if_neg (by simpa using h20)] at hf
  by_cases h21 : f' = 21
  · subst h21; simp at hf; subst hf; exact ⟨_, _, _, Tryd.func21, by decide +kernel, tr_21⟩
  rw [if_neg (by simpa using h21)] at hf
  by_cases h22 : f' = 22
  · subst h22; simp at hf; subst hf; exact ⟨_, _, _, Tryd.func22, by decide +kernel, tr_22⟩
  rw [if_neg (by simpa using h22)] at hf
  by_cases h27 : f' = 27
  · subst h27; simp at hf; subst hf; exact ⟨_, _, _, Tryd.func27, by decide +kernel, tr_27⟩
  rw [if_neg (by simpa using h27)] at hf
  by_cases h28 : f' = 28
  · subst h28; simp at hf; subst hf; exact ⟨_, _, _, Tryd.func28, by decide +kernel, tr_28⟩
  rw [if_neg (by simpa using h28)] at hf
  by_cases h29 : f' = 29
  · subst h29; simp at hf; subst hf; exact ⟨_, _, _, Tryd.func29, by decide +kernel, tr_29⟩
  rw [if_neg (by simpa using h29)] at hf
  by_cases h31 : f' = 31
  · subst h31; simp at hf; subst hf; exact ⟨_, _, _, Tryd.func31, by decide +kernel, tr_31⟩
  rw [if_neg (by simpa using h31)] at hf
  by_cases h40 : f' = 40
  · subst h40; simp at hf; subst hf; exact ⟨_, _, _, Tryd.func40, by decide +kernel, tr_40⟩
  rw [if_neg (by simpa using h40)] at hf
  by_cases h41 : f' = 41
  · subst h41; simp at hf; subst hf; exact ⟨_, _, _, Tryd.func41, by decide +kernel, tr_41⟩
  rw [if_neg (by simpa using h41)] at hf
  by_cases h42 : f' = 42
  · subst h42; simp at hf; subst hf; exact ⟨_, _, _, Tryd.func42, by decide +kernel, tr_42⟩
  rw [if_neg (by simpa using h42)] at hf
  by_cases h43 : f' = 43
  · subst h43; simp at hf; subst hf; exact ⟨_, _, _, Tryd.func43, by decide +kernel, tr_43⟩
  rw [if_neg (by simpa using h43)] at hf
  by_cases h44 : f' = 44
  · subst h44; simp at hf; subst hf; exact ⟨_, _, _, Tryd.func44, by decide +kernel, tr_44⟩
  rw [if_neg (by simpa using h44)] at hf
  by_cases h45 : f' = 45
  · subst h45; simp at hf; subst hf; exact ⟨_, _, _, Tryd.func45, by decide +kernel, tr_45⟩
  rw [if_neg (by simpa using h45)] at hf
  by_cases h46 : f' = 46
  · subst h46; simp at hf; subst hf; exact ⟨_, _, _, Tryd.func46, by decide +kernel, tr_46⟩
  rw [if_neg (by simpa using h46)] at hf
  by_cases h47 : f' = 47
  · subst h47; simp at hf; subst hf; exact ⟨_, _, _, Tryd.func47, by decide +kernel, tr_47⟩
  rw [if_neg (by simpa using h47)] at hf
  by_cases h53 : f' = 53
  · subst h53; simp at hf; subst hf; exact ⟨_, _, _, Tryd.func53, by decide +kernel, tr_53⟩
  rw [if_neg (by simpa using h53)] at hf
  by_cases h59 : f' = 59
  · subst h59; simp at hf; subst hf; exact ⟨_, _, _, Tryd.func59, by decide +kernel, tr_59⟩
  rw [if_neg (by simpa using h59)] at hf
  by_cases h60 : f' = 60
  · subst h60; simp at hf; subst hf; exact ⟨_, _, _, Tryd.func60, by decide +kernel, tr_60⟩
  rw [if_neg (by simpa using h60)] at hf
  by_cases h61 : f' = 61
  · subst h61; simp at hf; subst hf; exact ⟨_, _, _, Tryd.func61, by decide +kernel, tr_61⟩
  rw [if_neg (by simpa using h61)] at hf
  by_cases h62 : f' = 62
  · subst h62; simp at hf; subst hf; exact ⟨_, _, _, Tryd.func62, by decide +kernel, tr_62⟩
  rw [if_neg (by simpa using h62)] at hf
  by_cases h63 : f' = 63
  · subst h63; simp at hf; subst hf; exact ⟨_, _, _, Tryd.func63, by decide +kernel, tr_63⟩
  rw [if_neg (by simpa using h63)] at hf
  by_cases h64 : f' = 64
  · subst h64; simp at hf; subst hf; exact ⟨_, _, _, Tryd.func64, by decide +kernel, tr_64⟩
  rw [if_neg (by simpa using h64)] at hf
  by_cases h65 : f' = 65
  · subst h65; simp at hf; subst hf; exact ⟨_, _, _, Tryd.func65, by decide +kernel, tr_65⟩
  rw [if_neg (by simpa using h65)] at hf
  by_cases h66 : f' = 66
  · subst h66; simp at hf; subst hf; exact ⟨_, _, _, Tryd.func66, by decide +kernel, tr_66⟩
  rw [if_neg (by simpa using h66)] at hf
  by_cases h74 : f' = 74
  · subst h74; simp at hf; subst hf; exact ⟨_, _, _, Tryd.func74, by decide +kernel, tr_74⟩
  rw [if_neg (by simpa using h74)] at hf
  by_cases h75 : f' = 75
  · subst h75; simp at hf; subst hf; exact ⟨_, _, _, Tryd.func75, by decide +kernel, tr_75⟩
  rw [if_neg (by simpa using h75)] at hf
  by_cases h77 : f' = 77
  · subst h77; simp at hf; subst hf; exact ⟨_, _, _, Tryd.func77, by decide +kernel, tr_77⟩
  rw [if_neg (by simpa using h77)] at hf
  by_cases h85 : f' = 85
  · subst h85; simp at hf; subst hf; exact ⟨_, _, _, Tryd.func85, by decide +kernel, tr_85⟩
  rw [if_neg (by simpa using h85)] at hf
  cases hf
theorem backOk : BackOk Tryd.prog maps := backOk_none rfl
theorem tab : Tab Tryd.prog maps pg0 := ⟨tabF, backOk⟩
theorem tabA : Tab Tryd.prog maps W.pgA := ⟨fun f' i hl fn' hf => tab.1 f' i hl fn' (by
  unfold W.pgA at hf
  simp only [Bool.cond_eq_ite] at hf
  split at hf
  · cases hf
  · split at hf
    · cases hf
    · exact hf), tab.2⟩
theorem tab1 : Tab Tryd.prog maps W.pg := ⟨fun f' i hl fn' hf => tab.1 f' i hl fn' (by
  unfold W.pg at hf
  simp only [Bool.cond_eq_ite] at hf
  split at hf
  · cases hf
  · split at hf
    · cases hf
    · split at hf
      · cases hf
      · split at hf
        · cases hf
        · exact hf), tab.2⟩
theorem ixC : IxC Tryd.prog 58 := fun s c w => Tryd.strings_IndexByte s c w
theorem teS : TeC Tryd.prog 76 3 2 := fun fn s base bits ev w h1 h2 h3 => (Tryd.toError_syntax fn s base bits ev w h1 h2 h3).mono (by rintro e w' ⟨N, q1, _, _, q2⟩; exact ⟨N, q1, q2⟩)
theorem teR : TeC Tryd.prog 76 4 1 := fun fn s base bits ev w h1 h2 h3 => (Tryd.toError_range fn s base bits ev w h1 h2 h3).mono (by rintro e w' ⟨N, q1, _, _, q2⟩; exact ⟨N, q1, q2⟩)
theorem sim58 {g : Gh} {w : World} {vs : List V} {H : List W.Obj} {r : Cr} (h : ixX vs H = some r) {argv : List Value} (ha : ArgsRep maps g w 0 vs argv) (hH : RelH maps g w H) : Does Tryd.prog 58 argv.toArray w (CallPost maps g w r) := by
  have hs : Tryd.f58.body.isSome = true := by kernel_rfl
  obtain ⟨c, hc⟩ := Option.isSome_iff_exists.1 hs
  exact ixX_sim ixC Tryd.func58 (by decide +kernel) hc h ha hH
theorem sim76 {g : Gh} {w : World} {vs : List V} {H : List W.Obj} {r : Cr} (h : teX vs H = some r) {argv : List Value} (ha : ArgsRep maps g w 0 vs argv) (hH : RelH maps g w H) : Does Tryd.prog 76 argv.toArray w (CallPost maps g w r) := by
  have hs : Tryd.f76.body.isSome = true := by kernel_rfl
  obtain ⟨c, hc⟩ := Option.isSome_iff_exists.1 hs
  exact teX_sim teS teR (by simp [maps]) (by simp [maps]) (by decide +kernel) (fun t' ht => look_id ht) Tryd.func76 (by decide +kernel) hc h ha hH
theorem ctC : CtC Tryd.prog 30 := fun s c w => Tryd.strings_Count_one s c w
theorem sim30 {g : Gh} {w : World} {vs : List V} {H : List W.Obj} {r : Cr} (h : ctX vs H = some r) {argv : List Value} (ha : ArgsRep maps g w 0 vs argv) (hH : RelH maps g w H) : Does Tryd.prog 30 argv.toArray w (CallPost maps g w r) := by
  have hs : Tryd.f30.body.isSome = true := by kernel_rfl
  obtain ⟨c, hc⟩ := Option.isSome_iff_exists.1 hs
  exact ctX_sim ctC Tryd.func30 (by decide +kernel) hc h ha hH
theorem extA_sim : CallSim Tryd.prog maps W.pgA.ext := by
  intro i vs H r h f' hl g w argv ha hH
  have e : f' = i := look_id hl
  subst e
  unfold W.pgA at h
  simp only [Bool.cond_eq_ite] at h
  split at h
  · rename_i hb
    have e2 : f' = 58 := by simpa using hb
    subst e2
    exact sim58 h ha hH
  · split at h
    · rename_i hb
      have e2 : f' = 76 := by simpa using hb
      subst e2
      exact sim76 h ha hH
    · cases h
theorem ext_sim : CallSim Tryd.prog maps W.pg.ext := by
  intro i vs H r h f' hl g w argv ha hH
  have e : f' = i := look_id hl
  subst e
  unfold W.pg at h
  simp only [Bool.cond_eq_ite] at h
  split at h
  · rename_i hb
    have e2 : f' = 58 := by simpa using hb
    subst e2
    exact sim58 h ha hH
  · split at h
    · rename_i hb
      have e2 : f' = 76 := by simpa using hb
      subst e2
      exact sim76 h ha hH
    · split at h
      · rename_i hb
        have e2 : f' = 17 := by simpa using hb
        subst e2
        unfold kwX at h
        split at h
        · cases h
          cases ha
          obtain ⟨lo, hk⟩ := isD_call extA_lo kw_run
          obtain ⟨n, hn⟩ := callL_iff.1 hk
          exact frame_sim (sound (by kernel_rfl) tabA extA_sim extA_lo n) hn hl hH
        · cases h
      · split at h
        · rename_i hb
          have e2 : f' = 30 := by simpa using hb
          subst e2
          exact sim30 h ha hH
        · cases h
end Go.Proofs.YthaolbkjkigllaaDoor

set_option linter.unusedSimpArgs false
set_option linter.unusedVariables false
namespace W
open Go (IntKind BinOp UnOp)
set_option maxRecDepth 20000
theorem ixA {s : List Nat} {j c : Nat} (h : s[j]? = some c) : ixV (.d (.s s)) (.d (.i .i64 (j : Int))) = some (.d (.i .u8 ((c : Nat) : Int))) := ixV_s (by omega) (by rw [Int.toNat_natCast]; exact h)
theorem sl_take {l : List Nat} {n : Nat} (h : n ≤ l.length) : sliceT (.d (.s l)) none (some (n : Int)) = some (.d (.s (l.take n))) := by
  rw [sliceT_s (by simp) (by simp) (by simp; omega)]
  simp
def lx (c : Nat) (s : List Nat) : Nat → Int
  | 0 => -1
  | i + 1 => if s[i]? = some c then (i : Int) else lx c s i
def cn (c : Nat) (s : List Nat) : Nat → Nat
  | 0 => 0
  | i + 1 => cn c s i + (if s[i]? = some c then 1 else 0)
theorem lx_range (c : Nat) (s : List Nat) : ∀ i : Nat, -1 ≤ lx c s i ∧ lx c s i < i
  | 0 => by simp [lx]
  | i + 1 => by
    have := lx_range c s i
    simp only [lx]
    split <;> omega
theorem cn_le (c : Nat) (s : List Nat) : ∀ i : Nat, cn c s i ≤ i
  | 0 => by simp [cn]
  | i + 1 => by
    have := cn_le c s i
    simp only [cn]
    split <;> omega
theorem lx_take (c : Nat) (s : List Nat) (p : Nat) : ∀ i : Nat, i ≤ p → lx c (s.take p) i = lx c s i
  | 0, _ => rfl
  | i + 1, h => by
    simp only [lx, lx_take c s p i (by omega)]
    rw [List.getElem?_take_of_lt (by omega)]
theorem cn_count (c : Nat) (s : List Nat) : ∀ p : Nat, (s.take p).count c = cn c s p
  | 0 => by simp [cn]
  | p + 1 => by
    rw [List.take_add_one, List.count_append, cn_count c s p, cn]
    cases s[p]? with
    | none => simp
    | some x =>
      by_cases h : x = c
      · subst h; simp
      · simp [h]
theorem last_loop {t : List Nat} {c : Nat} (hz : t.length ≤ 1000000) {H : List Obj} :
    ∀ (i : Nat), i ≤ t.length → ∃ x e, (x = .nrm ∨ x = .ret) ∧ get 4 e = .d (.i .i64 (lx c t i)) ∧
      thenC pg (blockC 0 [] (f_internal_bytealg_LastIndexByteString_l0 pg (.d (.s t)) (.d (.i .u8 (c : Nat))) (.d (.i .i64 ((i : Int) - 1))) H H.length)) f_internal_bytealg_LastIndexByteString_R1 = some (x, ⟨e, H, H.length⟩) := by
  intro i
  induction i with
  | zero =>
    intro hi
    have h1 : ((0 : Int) ≤ ((0 : Nat) : Int) - 1) = False := by simp
    rw [f_internal_bytealg_LastIndexByteString_l0_eq]
    simp only [f_internal_bytealg_LastIndexByteString_B0, keepV_d, Int.cast_ofNat_Int, Int.reduceSub, Int.reduceNeg, exL_seq, exL_ops, runOps_n, evalK_mov, rd_t, reduceCtorEq, get_ne, Nat.reduceEqDiff, get_eq, readV_d, spent_t, opC_ok, put_d, evalK_bin, isC_t, isC_c, Bool.or_true, rd_c, bin_geq, Int.reduceLE, decide_false, okS_some, runOps_nil, thenC_nrm, exL_cond, condC_b, Bool.false_eq_true, ↓reduceIte, exL_exit, thenC_exit, blockC_exit, restrict_nil, f_internal_bytealg_LastIndexByteString_R1, spent_c, exL_ret]
    exact ⟨_, _, .inr rfl, rfl, rfl⟩
  | succ i ih =>
    intro hi
    have e0 : (((i + 1 : Nat) : Int) - 1) = (i : Int) := by omega
    have h1 : ((0 : Int) ≤ (i : Int)) = True := by rw [eq_iff_iff]; simp
    have hlt : i < t.length := by omega
    have hg := List.getElem?_eq_getElem hlt
    have hix := ixA hg
    have hw : wr .i64 ((i : Int) - 1) = (i : Int) - 1 := by rw [wr_i64 (by omega) (by omega)]
    rw [e0, f_internal_bytealg_LastIndexByteString_l0_eq, lx, hg]
    generalize t[i] = y at hix
    by_cases hc : y = c
    · have h2 : (((y : Nat) : Int) = (c : Int)) = True := eq_true (by exact_mod_cast hc)
      rw [if_pos (by rw [hc])]
      simp only [f_internal_bytealg_LastIndexByteString_B0, keepV_d, exL_seq, exL_ops, runOps_n, evalK_mov, rd_t, reduceCtorEq, get_ne, Nat.reduceEqDiff, get_eq, readV_d, spent_t, opC_ok, put_d, evalK_bin, isC_t, isC_c, Bool.or_true, rd_c, bin_geq, h1, decide_true, okS_some, runOps_nil, thenC_nrm, exL_cond, condC_b, ↓reduceIte, exL_skip, exL_block, evalK_index, hix, Bool.or_self, bin_eql, h2, exL_ret, blockC_ret, thenC_ret, f_internal_bytealg_LastIndexByteString_R1, Int.reduceNeg]
      exact ⟨_, _, .inr rfl, rfl, rfl⟩
    · have h2 : (((y : Nat) : Int) = (c : Int)) = False := eq_false (fun h => hc (by exact_mod_cast h))
      rw [if_neg (fun h => hc (Option.some.inj h))]
      have ih' := ih (by omega)
      simp only [f_internal_bytealg_LastIndexByteString_B0, keepV_d, exL_seq, exL_ops, runOps_n, evalK_mov, rd_t, reduceCtorEq, get_ne, Nat.reduceEqDiff, get_eq, readV_d, spent_t, opC_ok, put_d, evalK_bin, isC_t, isC_c, Bool.or_true, rd_c, bin_geq, h1, decide_true, okS_some, runOps_nil, thenC_nrm, exL_cond, condC_b, ↓reduceIte, exL_skip, exL_block, evalK_index, hix, Bool.or_self, bin_eql, h2, decide_false, Bool.false_eq_true, blockC_nrm, restrict_cons, restrict_nil, bin_sub, hw, f_internal_bytealg_LastIndexByteString_l0_in]
      exact ih'
theorem last2_call {t : List Nat} {c : Nat} (hz : t.length ≤ 1000000) {H : List Obj} : callL pg 53 [.d (.s t), .d (.i .u8 (c : Nat))] H = some ⟨false, true, .d (.i .i64 (lx c t t.length)), H, H.length⟩ := by
  obtain ⟨x, e, q1, q2, q3⟩ := last_loop (c := c) hz (H := H) t.length (Nat.le_refl _)
  have hw : wr .i64 ((t.length : Int) - 1) = (t.length : Int) - 1 := by rw [wr_i64 (by omega) (by omega)]
  rw [callL_fn (fn := f_internal_bytealg_LastIndexByteString) rfl rfl]
  simp only [f_internal_bytealg_LastIndexByteString, argEnv_cons, Nat.zero_add, Nat.reduceAdd, argEnv_nil, exL_seq, exL_ops, runOps_n, evalK_mov, rd_c, spent_c, opC_ok, put_d, runOps_nil, thenC_nrm, rd_t, reduceCtorEq, get_ne, get_eq, readV_d, spent_t, evalK_lenS, lenS_s, okS_some, evalK_bin, isC_t, isC_c, Bool.or_true, bin_sub, hw, exL_block, f_internal_bytealg_LastIndexByteString_l0_in, keepV_d, Nat.reduceEqDiff]
  rw [q3]
  rcases q1 with rfl | rfl
  all_goals simp only [finC_nrm, resultVs_cons, resultV_t, q2, ownV_d, resultVs_nil, consO_some, leaveC_1, leaves_d, ref_d, settle_d, leave_pure, finC_ret]
  all_goals rfl
theorem last_call {t : List Nat} {c : Nat} (hz : t.length ≤ 1000000) {H : List Obj} : callL pg 31 [.d (.s t), .d (.i .u8 (c : Nat))] H = some ⟨false, true, .d (.i .i64 (lx c t t.length)), H, H.length⟩ := by
  rw [callL_fn (fn := f_strings_LastIndexByte) rfl rfl]
  simp only [f_strings_LastIndexByte, argEnv_cons, Nat.zero_add, Nat.reduceAdd, argEnv_nil, exL_seq, exL_ops, runOps_n, evalK_mov, rd_c, spent_c, opC_ok, put_d, runOps_nil, thenC_nrm, rd_mv, reduceCtorEq, get_ne, get_eq, takeV_d, spent_mv, Nat.reduceEqDiff, evalK_call, List.map_cons, List.map_nil, allLeave_cons, leaves_d, allLeave_nil, Bool.and_self, eCall_f, last2_call hz, callC_some, spentAll_cons, spentAll_nil, Nat.min_self, exL_ret, finC_ret, resultVs_cons, resultV_t, ownV_d, resultVs_nil, consO_some, leaveC_1, ref_d, settle_d, leave_pure]
  all_goals rfl
def plc (s : List Nat) (pos : Int) : Nat := if pos < 0 then 0 else if (s.length : Int) < pos then s.length else pos.toNat
theorem plc_le (s : List Nat) (pos : Int) : plc s pos ≤ s.length := by
  unfold plc; split
  · omega
  · split <;> omega
def lnD (s : List Nat) (p : Nat) : V := .tup [.d (.i .i64 ((cn 10 s p + 1 : Nat) : Int)), .d (.i .i64 ((p : Int) - lx 10 s p))]
theorem line_call {s : List Nat} (hz : s.length ≤ 1000000) {pos : Int} {H : List Obj} : callL pg 21 [.d (.s s), .d (.i .i64 pos)] H = some ⟨false, true, lnD s (plc s pos), H, H.length⟩ := by
  have hp := plc_le s pos
  have hcase : (pos < 0 ∧ plc s pos = 0) ∨ (0 ≤ pos ∧ (s.length : Int) < pos ∧ plc s pos = s.length) ∨ (0 ≤ pos ∧ ¬ (s.length : Int) < pos ∧ pos = (plc s pos : Int)) := by
    unfold plc
    by_cases h : pos < 0
    · left; exact ⟨h, by rw [if_pos h]⟩
    · rw [if_neg h]
      by_cases h2 : (s.length : Int) < pos
      · right; left; exact ⟨by omega, h2, by rw [if_pos h2]⟩
      · right; right; exact ⟨by omega, h2, by rw [if_neg h2]; omega⟩
  generalize plc s pos = p at hp hcase
  have hs := sl_take hp
  have hc := fun (H : List Obj) => ct_call (t := s.take p) (c := 10) (by omega) (H := H)
  have hl := fun (H : List Obj) => last_call (t := s.take p) (c := 10) (by simp only [List.length_take]; omega) (H := H)
  have hlen : (s.take p).length = p := by simp only [List.length_take]; omega
  rw [hlen, lx_take 10 s p p (Nat.le_refl _)] at hl
  rw [cn_count] at hc
  have hr := lx_range 10 s p
  have hcn := cn_le 10 s p
  have e10 : ((10 : Nat) : Int) = 10 := rfl
  rw [e10] at hl
  have hw1 : wr .i64 (((cn 10 s p : Nat) : Int) + 1) = ((cn 10 s p + 1 : Nat) : Int) := by rw [wr_i64 (by omega) (by omega)]; omega
  have hw2 : wr .i64 ((p : Int) - lx 10 s p) = (p : Int) - lx 10 s p := by rw [wr_i64 (by omega) (by omega)]
  rw [callL_fn (fn := f_scan_Line) rfl rfl]
  unfold lnD
  generalize s.take p = t at hs hc hl
  generalize lx 10 s p = z at hl hw2
  rcases hcase with ⟨h1, rfl⟩ | ⟨h1, h2, rfl⟩ | ⟨h1, h2, h3⟩
  · have c1 : (pos < 0) = True := eq_true h1
    have c1' : ((0 : Int) < pos) = False := eq_false (by omega)
    have c1'' : (pos < (0 : Int)) = True := eq_true h1
    have c2 : ((s.length : Int) < 0) = False := eq_false (by omega)
    have z0 : ((0 : Nat) : Int) = 0 := rfl
    rw [z0] at hs hw2
    simp only [f_scan_Line, argEnv_cons, Nat.zero_add, Nat.reduceAdd, argEnv_nil, exL_seq, exL_ops, runOps_n, evalK_mov, rd_c, spent_c, opC_ok, put_d, runOps_nil, thenC_nrm, rd_t, Nat.reduceEqDiff, get_ne, reduceCtorEq, get_eq, readV_d, spent_t, evalK_max, List.map_cons, List.map_nil, maxD_2, c1, ↓reduceIte, okS_some, evalK_lenS, lenS_s, evalK_min, minD_2, c2, evalK_sliceS, optInt_none, optInt_some, oInt_i, cut2_some, hs, evalK_call, allLeave_cons, leaves_d, allLeave_nil, Bool.and_self, eCall_f, hc, callC_some, spentAll_cons, spentAll_nil, Nat.min_self, evalK_bin, isC_t, isC_c, Bool.or_true, bin_add, hw1, rd_mv, takeV_d, spent_mv, hl, Bool.or_self, bin_sub, hw2, exL_ret, finC_ret, resultVs_cons, resultV_t, ownV_d, resultVs_nil, consO_some, leaveC_2, leaves_tup, oks_cons, ok_d, oks_nil, ref_tup, refs_cons, ref_d, refs_nil, Nat.max_self, settle_tup, leave_pure, Int.cast_ofNat_Int]
    all_goals (first | done | rfl | (trace_state; sorry))
  · have c1 : (pos < 0) = False := eq_false (by omega)
    have c2 : ((s.length : Int) < pos) = True := eq_true h2
    simp only [f_scan_Line, argEnv_cons, Nat.zero_add, Nat.reduceAdd, argEnv_nil, exL_seq, exL_ops, runOps_n, evalK_mov, rd_c, spent_c, opC_ok, put_d, runOps_nil, thenC_nrm, rd_t, Nat.reduceEqDiff, get_ne, reduceCtorEq, get_eq, readV_d, spent_t, evalK_max, List.map_cons, List.map_nil, maxD_2, c1, ↓reduceIte, okS_some, evalK_lenS, lenS_s, evalK_min, minD_2, c2, evalK_sliceS, optInt_none, optInt_some, oInt_i, cut2_some, hs, evalK_call, allLeave_cons, leaves_d, allLeave_nil, Bool.and_self, eCall_f, hc, callC_some, spentAll_cons, spentAll_nil, Nat.min_self, evalK_bin, isC_t, isC_c, Bool.or_true, bin_add, hw1, rd_mv, takeV_d, spent_mv, hl, Bool.or_self, bin_sub, hw2, exL_ret, finC_ret, resultVs_cons, resultV_t, ownV_d, resultVs_nil, consO_some, leaveC_2, leaves_tup, oks_cons, ok_d, oks_nil, ref_tup, refs_cons, ref_d, refs_nil, Nat.max_self, settle_tup, leave_pure]
    all_goals (first | done | rfl | (trace_state; sorry))
  · have c1 : (((p : Nat) : Int) < 0) = False := eq_false (by omega)
    have c2 : ((s.length : Int) < ((p : Nat) : Int)) = False := eq_false (by omega)
    rw [h3]
    simp only [f_scan_Line, argEnv_cons, Nat.zero_add, Nat.reduceAdd, argEnv_nil, exL_seq, exL_ops, runOps_n, evalK_mov, rd_c, spent_c, opC_ok, put_d, runOps_nil, thenC_nrm, rd_t, Nat.reduceEqDiff, get_ne, reduceCtorEq, get_eq, readV_d, spent_t, evalK_max, List.map_cons, List.map_nil, maxD_2, c1, ↓reduceIte, okS_some, evalK_lenS, lenS_s, evalK_min, minD_2, c2, evalK_sliceS, optInt_none, optInt_some, oInt_i, cut2_some, hs, evalK_call, allLeave_cons, leaves_d, allLeave_nil, Bool.and_self, eCall_f, hc, callC_some, spentAll_cons, spentAll_nil, Nat.min_self, evalK_bin, isC_t, isC_c, Bool.or_true, bin_add, hw1, rd_mv, takeV_d, spent_mv, hl, Bool.or_self, bin_sub, hw2, exL_ret, finC_ret, resultVs_cons, resultV_t, ownV_d, resultVs_nil, consO_some, leaveC_2, leaves_tup, oks_cons, ok_d, oks_nil, ref_tup, refs_cons, ref_d, refs_nil, Nat.max_self, settle_tup, leave_pure]
    all_goals (first | done | rfl | (trace_state; sorry))
theorem rline_loop {s : List Nat} (hz : s.length ≤ 1000000) {p : Nat} (hp : p ≤ s.length) {H : List Obj} :
    ∀ (k i : Nat), p - i = k → i ≤ p → blockC 0 [6, 7] (f_waferref11_Line_l0 pg (.d (.s s)) (.d (.i .i64 (p : Nat))) (.d (.i .i64 ((cn 10 s i + 1 : Nat) : Int))) (.d (.i .i64 ((i : Int) - lx 10 s i))) (.d (.i .i64 (i : Nat))) H H.length) =
      some (.nrm, ⟨[(6, .d (.i .i64 ((cn 10 s p + 1 : Nat) : Int))), (7, .d (.i .i64 ((p : Int) - lx 10 s p)))], H, H.length⟩) := by
  intro k
  induction k with
  | zero =>
    intro i hk hi
    obtain rfl : i = p := by omega
    have h1 : ((i : Int) < (i : Int)) = False := by simp
    rw [f_waferref11_Line_l0_eq]
    simp only [f_waferref11_Line_B0, keepV_d, exL_seq, exL_ops, runOps_n, evalK_mov, rd_t, reduceCtorEq, get_ne, Nat.reduceEqDiff, get_eq, readV_d, spent_t, opC_ok, put_d, evalK_bin, isC_t, Bool.or_self, bin_lss, h1, decide_false, okS_some, runOps_nil, thenC_nrm, exL_cond, condC_b, Bool.false_eq_true, ↓reduceIte, exL_exit, thenC_exit, blockC_exit, restrict_cons, restrict_nil]
    all_goals rfl
  | succ k ih =>
    intro i hk hi
    have h1 : ((i : Int) < (p : Int)) = True := by rw [eq_iff_iff]; simp; omega
    have hlt : i < s.length := by omega
    have hg := List.getElem?_eq_getElem hlt
    have hix := ixA hg
    have hr := lx_range 10 s i
    have hcn := cn_le 10 s i
    have hw : wr .i64 ((i : Int) + 1) = ((i + 1 : Nat) : Int) := by rw [wr_i64 (by omega) (by omega)]; omega
    have hw1 : wr .i64 ((i : Int) - lx 10 s i + 1) = (i : Int) - lx 10 s i + 1 := by rw [wr_i64 (by omega) (by omega)]
    have hw2 : wr .i64 (((cn 10 s i + 1 : Nat) : Int) + 1) = ((cn 10 s i + 1 + 1 : Nat) : Int) := by rw [wr_i64 (by omega) (by omega)]; omega
    have ih' := ih (i + 1) (by omega) (by omega)
    rw [f_waferref11_Line_l0_eq]
    rw [cn, lx, hg] at ih'
    generalize s[i] = y at hix ih'
    by_cases hc : y = 10
    · have h2 : (((y : Nat) : Int) = 10) = True := eq_true (by exact_mod_cast hc)
      rw [if_pos (by rw [hc]), if_pos (by rw [hc])] at ih'
      have e1 : cn 10 s i + 1 + 1 = cn 10 s i + 1 + 1 := rfl
      have e2 : (((i + 1 : Nat) : Int) - (i : Int)) = 1 := by omega
      rw [e2] at ih'
      simp only [f_waferref11_Line_B0, keepV_d, exL_seq, exL_ops, runOps_n, evalK_mov, rd_t, reduceCtorEq, get_ne, Nat.reduceEqDiff, get_eq, readV_d, spent_t, opC_ok, put_d, evalK_bin, isC_t, Bool.or_self, bin_lss, h1, decide_true, okS_some, runOps_nil, thenC_nrm, exL_cond, condC_b, ↓reduceIte, exL_skip, exL_block, isC_c, Bool.or_true, rd_c, bin_add, hw1, evalK_index, hix, bin_eql, h2, hw2, spent_c, blockC_nrm, restrict_cons, restrict_nil, hw, f_waferref11_Line_l0_in]
      exact ih'
    · have h2 : (((y : Nat) : Int) = 10) = False := eq_false (fun h => hc (by exact_mod_cast h))
      rw [if_neg (fun h => hc (Option.some.inj h)), if_neg (fun h => hc (Option.some.inj h))] at ih'
      have e2 : (((i + 1 : Nat) : Int) - lx 10 s i) = (i : Int) - lx 10 s i + 1 := by omega
      rw [e2, Nat.add_zero] at ih'
      simp only [f_waferref11_Line_B0, keepV_d, exL_seq, exL_ops, runOps_n, evalK_mov, rd_t, reduceCtorEq, get_ne, Nat.reduceEqDiff, get_eq, readV_d, spent_t, opC_ok, put_d, evalK_bin, isC_t, Bool.or_self, bin_lss, h1, decide_true, okS_some, runOps_nil, thenC_nrm, exL_cond, condC_b, ↓reduceIte, exL_skip, exL_block, isC_c, Bool.or_true, rd_c, bin_add, hw1, evalK_index, hix, bin_eql, h2, decide_false, Bool.false_eq_true, blockC_nrm, restrict_cons, restrict_nil, hw, f_waferref11_Line_l0_in]
      exact ih'
theorem rline_call {s : List Nat} (hz : s.length ≤ 1000000) {pos : Int} {H : List Obj} : callL pg 22 [.d (.s s), .d (.i .i64 pos)] H = some ⟨false, true, lnD s (plc s pos), H, H.length⟩ := by
  have hp := plc_le s pos
  have hcase : (pos < 0 ∧ plc s pos = 0) ∨ (0 ≤ pos ∧ (s.length : Int) < pos ∧ plc s pos = s.length) ∨ (0 ≤ pos ∧ ¬ (s.length : Int) < pos ∧ pos = (plc s pos : Int)) := by
    unfold plc
    by_cases h : pos < 0
    · left; exact ⟨h, by rw [if_pos h]⟩
    · rw [if_neg h]
      by_cases h2 : (s.length : Int) < pos
      · right; left; exact ⟨by omega, h2, by rw [if_pos h2]⟩
      · right; right; exact ⟨by omega, h2, by rw [if_neg h2]; omega⟩
  have hl := rline_loop hz hp (H := H) (plc s pos) 0 rfl (by omega)
  have z0 : ((0 : Nat) : Int) = 0 := rfl
  have z1 : ((0 + 1 : Nat) : Int) = 1 := rfl
  have z2 : (0 : Int) - lx 10 s 0 = 1 := rfl
  rw [z0, cn, z1, z2] at hl
  generalize plc s pos = p at hp hcase hl
  rw [callL_fn (fn := f_waferref11_Line) rfl rfl]
  unfold lnD
  rcases hcase with ⟨h1, rfl⟩ | ⟨h1, h2, rfl⟩ | ⟨h1, h2, h3⟩
  · have c1 : (pos < 0) = True := eq_true h1
    have c2 : ((s.length : Int) < 0) = False := eq_false (by omega)
    rw [z0] at hl
    simp only [f_waferref11_Line, f_waferref11_Line_R1, argEnv_cons, Nat.zero_add, Nat.reduceAdd, argEnv_nil, exL_seq, exL_ops, runOps_n, evalK_mov, rd_c, spent_c, opC_ok, put_d, runOps_nil, thenC_nrm, rd_t, Nat.reduceEqDiff, get_ne, reduceCtorEq, get_eq, readV_d, spent_t, evalK_max, List.map_cons, List.map_nil, maxD_2, c1, ↓reduceIte, okS_some, evalK_lenS, lenS_s, evalK_min, minD_2, c2, exL_block, f_waferref11_Line_l0_in, keepV_d, hl, exL_ret, finC_ret, resultVs_cons, resultV_t, ownV_d, resultVs_nil, consO_some, leaveC_2, leaves_tup, oks_cons, ok_d, oks_nil, Bool.and_self, ref_tup, refs_cons, ref_d, refs_nil, Nat.max_self, settle_tup, leave_pure, Int.cast_ofNat_Int]
    all_goals (first | done | rfl | (trace_state; sorry))
  · have c1 : (pos < 0) = False := eq_false (by omega)
    have c2 : ((s.length : Int) < pos) = True := eq_true h2
    simp only [f_waferref11_Line, f_waferref11_Line_R1, argEnv_cons, Nat.zero_add, Nat.reduceAdd, argEnv_nil, exL_seq, exL_ops, runOps_n, evalK_mov, rd_c, spent_c, opC_ok, put_d, runOps_nil, thenC_nrm, rd_t, Nat.reduceEqDiff, get_ne, reduceCtorEq, get_eq, readV_d, spent_t, evalK_max, List.map_cons, List.map_nil, maxD_2, c1, ↓reduceIte, okS_some, evalK_lenS, lenS_s, evalK_min, minD_2, c2, exL_block, f_waferref11_Line_l0_in, keepV_d, hl, exL_ret, finC_ret, resultVs_cons, resultV_t, ownV_d, resultVs_nil, consO_some, leaveC_2, leaves_tup, oks_cons, ok_d, oks_nil, Bool.and_self, ref_tup, refs_cons, ref_d, refs_nil, Nat.max_self, settle_tup, leave_pure]
    all_goals (first | done | rfl | (trace_state; sorry))
  · have c1 : (((p : Nat) : Int) < 0) = False := eq_false (by omega)
    have c2 : ((s.length : Int) < ((p : Nat) : Int)) = False := eq_false (by omega)
    rw [h3]
    simp only [f_waferref11_Line, f_waferref11_Line_R1, argEnv_cons, Nat.zero_add, Nat.reduceAdd, argEnv_nil, exL_seq, exL_ops, runOps_n, evalK_mov, rd_c, spent_c, opC_ok, put_d, runOps_nil, thenC_nrm, rd_t, Nat.reduceEqDiff, get_ne, reduceCtorEq, get_eq, readV_d, spent_t, evalK_max, List.map_cons, List.map_nil, maxD_2, c1, ↓reduceIte, okS_some, evalK_lenS, lenS_s, evalK_min, minD_2, c2, exL_block, f_waferref11_Line_l0_in, keepV_d, hl, exL_ret, finC_ret, resultVs_cons, resultV_t, ownV_d, resultVs_nil, consO_some, leaveC_2, leaves_tup, oks_cons, ok_d, oks_nil, Bool.and_self, ref_tup, refs_cons, ref_d, refs_nil, Nat.max_self, settle_tup, leave_pure]
    all_goals (first | done | rfl | (trace_state; sorry))
theorem place_call {pos : Int} {n : Nat} (hn : 0 < n) (hn2 : n ≤ 1000000) {H : List Obj} : ∃ q : Int, callL pg 20 [.d (.i .i64 pos), .d (.i .i64 (n : Nat))] H = some ⟨false, true, .d (.i .i64 q), H, H.length⟩ := by
  have z : (((n : Nat) : Int) = 0) = False := eq_false (by omega)
  have hr : -(n : Int) < pos.tmod n ∧ pos.tmod n < n := by
    have h1 := Int.tmod_lt_of_pos pos (b := (n : Int)) (by omega)
    have h2 := Int.lt_tmod_of_pos pos (b := (n : Int)) (by omega)
    exact ⟨h2, h1⟩
  generalize hq : pos.tmod (n : Int) = r at hr
  by_cases h : r < 0
  · have c1 : (r < 0) = True := eq_true h
    have hw : wr .i64 (r + (n : Int)) = r + (n : Int) := by rw [wr_i64 (by omega) (by omega)]
    refine ⟨r + (n : Int), ?_⟩
    rw [callL_fn (fn := f_waferhelp_Place) rfl rfl]
    simp only [f_waferhelp_Place, argEnv_cons, Nat.zero_add, Nat.reduceAdd, argEnv_nil, exL_seq, exL_ops, runOps_n, evalK_mov, rd_c, spent_c, opC_ok, put_d, runOps_nil, thenC_nrm, rd_t, reduceCtorEq, get_ne, get_eq, readV_d, spent_t, Nat.reduceEqDiff, evalK_bin, isC_t, Bool.or_self, z, bin_rem, hq, okS_some, isC_c, Bool.or_true, bin_lss, c1, decide_true, exL_cond, condC_b, ↓reduceIte, bin_add, hw, exL_ret, finC_ret, resultVs_cons, resultV_t, ownV_d, resultVs_nil, consO_some, leaveC_1, leaves_d, ref_d, settle_d, leave_pure]
    all_goals (first | done | rfl | (trace_state; sorry))
  · have c1 : (r < 0) = False := eq_false h
    refine ⟨r, ?_⟩
    rw [callL_fn (fn := f_waferhelp_Place) rfl rfl]
    simp only [f_waferhelp_Place, argEnv_cons, Nat.zero_add, Nat.reduceAdd, argEnv_nil, exL_seq, exL_ops, runOps_n, evalK_mov, rd_c, spent_c, opC_ok, put_d, runOps_nil, thenC_nrm, rd_t, reduceCtorEq, get_ne, get_eq, readV_d, spent_t, Nat.reduceEqDiff, evalK_bin, isC_t, Bool.or_self, z, bin_rem, hq, okS_some, isC_c, Bool.or_true, bin_lss, c1, decide_false, exL_cond, condC_b, Bool.false_eq_true, ↓reduceIte, exL_skip, exL_ret, finC_ret, resultVs_cons, resultV_t, ownV_d, resultVs_nil, consO_some, leaveC_1, leaves_d, ref_d, settle_d, leave_pure]
    all_goals (first | done | rfl | (trace_state; sorry))
theorem lines_law {s : List Nat} {pos : Int} : callL pg 10 [.d (.s s), .d (.i .i64 pos)] [] = some ⟨false, true, .d (.b true), [], 0⟩ := by
  obtain ⟨lo, hk⟩ := known_call
  have hz0 : ∀ n : Nat, min 0 n = 0 := Nat.zero_min
  rw [callL_fn (fn := f_waferlaw11_ScanLines) rfl rfl]
  by_cases h300 : 300 < s.length
  · have h1 : ((300 : Int) < (s.length : Int)) = True := by rw [eq_iff_iff]; simp; omega
    simp only [f_waferlaw11_ScanLines, argEnv_cons, Nat.zero_add, Nat.reduceAdd, argEnv_nil, List.length_nil, exL_seq, exL_ops, runOps_n, evalK_mov, rd_c, spent_c, opC_ok, put_d, runOps_nil, thenC_nrm, evalK_call, List.map_nil, allLeave_nil, eCall_f, hk, callC_some, spentAll_nil, hz0, evalK_un, rd_t, get_eq, readV_d, un_not, Bool.not_true, Option.map_some, okS_some, exL_cond, condC_b, Bool.false_eq_true, ↓reduceIte, exL_skip, reduceCtorEq, get_ne, spent_t, evalK_lenS, lenS_s, evalK_bin, isC_t, isC_c, Bool.or_true, bin_gtr, h1, decide_true, exL_ret, thenC_ret, finC_ret, resultVs_cons, resultV_t, ownV_d, resultVs_nil, consO_some, leaveC_1]
    all_goals (first | done | rfl | (trace_state; sorry))
  · have h1 : ((300 : Int) < (s.length : Int)) = False := by rw [eq_iff_iff]; simp; omega
    have hw : wr .i64 ((s.length : Int) + 1) = ((s.length + 1 : Nat) : Int) := by rw [wr_i64 (by omega) (by omega)]; omega
    obtain ⟨q, hq⟩ := place_call (pos := pos) (n := s.length + 1) (by omega) (by omega) (H := [])
    have l1 := fun (p : Int) => line_call (s := s) (by omega) (pos := p) (H := [])
    have l2 := fun (p : Int) => rline_call (s := s) (by omega) (pos := p) (H := [])
    simp only [lnD, List.length_nil] at l1 l2 hq
    have i0 : iaV (.d (.sl [.i .i64 pos, .i .i64 q])) (.d (.i .i64 0)) 1 none = some (.cp (.i .i64 pos)) := rfl
    have i1 : iaV (.d (.sl [.i .i64 pos, .i .i64 q])) (.d (.i .i64 1)) 1 none = some (.cp (.i .i64 q)) := rfl
    have w1 : wr .i64 1 = 1 := rfl
    have w2 : wr .i64 2 = 2 := rfl
    simp only [f_waferlaw11_ScanLines, f_waferlaw11_ScanLines_R1, argEnv_cons, Nat.zero_add, Nat.reduceAdd, argEnv_nil, List.length_nil, exL_seq, exL_ops, runOps_n, evalK_mov, rd_c, spent_c, opC_ok, put_d, runOps_nil, thenC_nrm, evalK_call, List.map_nil, allLeave_nil, eCall_f, hk, callC_some, spentAll_nil, hz0, evalK_un, rd_t, get_eq, readV_d, un_not, Bool.not_true, Option.map_some, okS_some, exL_cond, condC_b, Bool.false_eq_true, ↓reduceIte, exL_skip, reduceCtorEq, get_ne, spent_t, evalK_lenS, lenS_s, evalK_bin, isC_t, isC_c, Bool.or_true, bin_gtr, h1, decide_false, Nat.reduceEqDiff, rd_mv, takeV_d, spent_mv, bin_add, hw, List.map_cons, allLeave_cons, leaves_d, Bool.and_self, hq, spentAll_cons, evalK_buildSlice, dcells_i, List.length_cons, List.reduceReplicate, Nat.reduceLT, fillD_cons, List.set_cons_zero, List.set_cons_succ, fillD_nil, wfs_cons, one_i, wf_one, wfs_nil, slO_some, put_osl, evalK_lenL, readV_osl, lenL_sl, Int.cast_ofNat_Int, exL_block, f_waferlaw11_ScanLines_l0_in, keepV_d, keepV_osl, f_waferlaw11_ScanLines_l0_eq, f_waferlaw11_ScanLines_B0, Bool.or_self, bin_lss, Int.reduceLT, decide_true, evalK_indexAddr, i0, put_cp, evalK_load, readV_cp, loadV_cp_i, l1, put_tup, readV_tup, evalK_extract, extV_0, copy_d, extV_1, l2, bin_neq, runOps_g, wantG_bf, Bool.not_false, wantC_b, evalK_pick, pickV_b, blockC_nrm, restrict_cons, restrict_nil, Int.reduceAdd, w1, i1, w2, exL_exit, thenC_exit, blockC_exit, exL_ret, finC_ret, resultVs_cons, resultV_t, ownV_d, resultVs_nil, consO_some, leaveC_1]
    all_goals (first | done | rfl | (trace_state; sorry))
end W

