/- DictPlays: any script of names comes to just the document's numbers, within the limit: for every input. No condition. -/
import Derived.Test.YtliafhaakodnjaaRows
import Derived.WalkKit
import Derived.ProofKit
import Derived.OpenShut
import Derived.JoinedOf
import Derived.Handed
import Derived.Test.YtliafhaakodnjaaW4
set_option linter.unusedVariables false
set_option linter.unusedSimpArgs false
namespace Go.Proofs.Ytliafhaakodnjaa
open Go.ChangeShapes Go.WideShapes Go.ChangeAt Go.RowKit W
set_option maxRecDepth 100000
def maps : Maps := { fm := (List.range 30).map fun i => (i, i), tm := (List.range 59).map fun i => (i, i) }
theorem tr_2 : trFn maps Try.prog { loc := [], org := [], mv := [], bl := [], ll := [] } false Try.f2 = some f_gosem_cut_init := by kernel_rfl
theorem tr_3 : trFn maps Try.prog { loc := [], org := [], mv := [], bl := [(3, [1, 2, 3, 11, 12, 13, 42, 43, 44]), (2, [1, 2, 3, 11, 12, 42, 43, 44]), (5, [1, 2, 3, 11, 12, 42, 43, 44, 141, 142, 143]), (4, [1, 2, 3, 42, 43, 44]), (1, [1, 2, 3, 42, 43, 44]), (0, [])], ll := [(0, [1, 2, 3, 42, 43, 44]), (2, [1, 2, 3, 11, 12, 13, 42, 43, 44]), (4, [1, 2, 3, 11, 12, 42, 43, 44, 141, 142, 143])] } false Try.f3 = some f_waferlaw20_DictPlays := by kernel_rfl
theorem tr_4 : trFn maps Try.prog { loc := [], org := [], mv := [], bl := [], ll := [] } false Try.f4 = some f_waferlaw20_known := by kernel_rfl
theorem tr_5 : trFn maps Try.prog { loc := [], org := [], mv := [], bl := [], ll := [] } false Try.f5 = some f_waferhelp_Place := by kernel_rfl
theorem tr_6 : trFn maps Try.prog { loc := [], org := [], mv := [], bl := [(1, [5, 14, 15, 16]), (0, [5])], ll := [(0, [5, 14, 15, 16])] } false Try.f6 = some f_dict_New := by kernel_rfl
theorem tr_7 : trFn maps Try.prog { loc := [], org := [], mv := [], bl := [(1, [1, 5, 6]), (0, [5])], ll := [(0, [1, 5, 6])] } false Try.f7 = some f_waferref1_NewDict := by kernel_rfl
theorem tr_8 : trFn maps Try.prog { loc := [], org := [], mv := [(7, 10, 1), (7, 4, 9), (7, 7, 0)], bl := [], ll := [] } false Try.f8 = some f_dict_Dict_Put := by kernel_rfl
theorem tr_9 : trFn maps Try.prog { loc := [], org := [], mv := [(6, 10, 1), (6, 4, 9), (6, 7, 0)], bl := [], ll := [] } false Try.f9 = some f_waferref1_Dict_Put := by kernel_rfl
theorem tr_10 : trFn maps Try.prog { loc := [], org := [], mv := [], bl := [], ll := [] } false Try.f10 = some f_dict_Dict_Find := by kernel_rfl
theorem tr_11 : trFn maps Try.prog { loc := [], org := [], mv := [], bl := [(1, [0, 1, 6]), (0, [])], ll := [(0, [0, 1, 6])] } false Try.f11 = some f_waferref1_Dict_Find := by kernel_rfl
theorem tr_12 : trFn maps Try.prog { loc := [], org := [], mv := [], bl := [], ll := [] } false Try.f12 = some f_dict_Dict_Len := by kernel_rfl
theorem tr_13 : trFn maps Try.prog { loc := [], org := [], mv := [], bl := [], ll := [] } false Try.f13 = some f_dict_Dict_Get := by kernel_rfl
theorem tab : Tab Try.prog maps W.pg := by
  intro f' i hl fn' hf
  have e : f' = i := look_id hl
  subst e
  unfold W.pg prog at hf
  simp only [Bool.cond_eq_ite] at hf
  by_cases h2 : f' = 2
  · subst h2; simp at hf; subst hf; exact ⟨_, _, _, Try.func2, by decide +kernel, tr_2⟩
  rw [if_neg (by simpa using h2)] at hf
  by_cases h3 : f' = 3
  · subst h3; simp at hf; subst hf; exact ⟨_, _, _, Try.func3, by decide +kernel, tr_3⟩
  rw [if_neg (by simpa using h3)] at hf
  by_cases h4 : f' = 4
  · subst h4; simp at hf; subst hf; exact ⟨_, _, _, Try.func4, by decide +kernel, tr_4⟩
  rw [if_neg (by simpa using h4)] at hf
  by_cases h5 : f' = 5
  · subst h5; simp at hf; subst hf; exact ⟨_, _, _, Try.func5, by decide +kernel, tr_5⟩
  rw [if_neg (by simpa using h5)] at hf
  by_cases h6 : f' = 6
  · subst h6; simp at hf; subst hf; exact ⟨_, _, _, Try.func6, by decide +kernel, tr_6⟩
  rw [if_neg (by simpa using h6)] at hf
  by_cases h7 : f' = 7
  · subst h7; simp at hf; subst hf; exact ⟨_, _, _, Try.func7, by decide +kernel, tr_7⟩
  rw [if_neg (by simpa using h7)] at hf
  by_cases h8 : f' = 8
  · subst h8; simp at hf; subst hf; exact ⟨_, _, _, Try.func8, by decide +kernel, tr_8⟩
  rw [if_neg (by simpa using h8)] at hf
  by_cases h9 : f' = 9
  · subst h9; simp at hf; subst hf; exact ⟨_, _, _, Try.func9, by decide +kernel, tr_9⟩
  rw [if_neg (by simpa using h9)] at hf
  by_cases h10 : f' = 10
  · subst h10; simp at hf; subst hf; exact ⟨_, _, _, Try.func10, by decide +kernel, tr_10⟩
  rw [if_neg (by simpa using h10)] at hf
  by_cases h11 : f' = 11
  · subst h11; simp at hf; subst hf; exact ⟨_, _, _, Try.func11, by decide +kernel, tr_11⟩
  rw [if_neg (by simpa using h11)] at hf
  by_cases h12 : f' = 12
  · subst h12; simp at hf; subst hf; exact ⟨_, _, _, Try.func12, by decide +kernel, tr_12⟩
  rw [if_neg (by simpa using h12)] at hf
  by_cases h13 : f' = 13
  · subst h13; simp at hf; subst hf; exact ⟨_, _, _, Try.func13, by decide +kernel, tr_13⟩
  rw [if_neg (by simpa using h13)] at hf
  cases hf

theorem own : ownKnob Try.prog.godebug = none := by kernel_rfl
theorem bulk_ok {H : Type} : Bulk (Rows.uptoBulk (H := H)) Rows.uptoBulkAll :=
  ⟨fun _ => rfl, fun l => by cases l <;> simp [Rows.uptoBulk], rfl, fun _ _ => rfl, fun _ => rfl, rfl, fun _ _ => rfl⟩
theorem contract (H : Type) (enc : TypeId × Value → H) (w0 : World) (base : Nat) (args : Array Value) (ds gs : List (DataW H)) (before : List MemPlace)
    (hval : ∀ (j : Nat) t v, Try.f3.params[j]? = some t → args[j]? = some v → Value.okWide Try.prog w0 .any base t v)
    (hW : DataW.Whole enc Try.prog Try.f3.params.toList Rows.dictPlaysSpec.vars false w0 args.toList ds gs before) :
    Calls Try.prog 3 args w0 fun e W' => ∃ v, e = .returned v ∧ Rows.dictPlaysSpec.post enc Try.prog Try.f3 false true false false w0 args v W' := by
  have hW' := hW
  obtain ⟨p, q, hA, hV, _⟩ := hW
  have hs : Rows.dictPlaysSpec.fn H ds = { results := [.lit (.bool true)], args := ds } := by
    have hA : DataW.TrodAll enc Try.prog w0 0 (fun _ => true) true Try.f3.params.toList args.toList ds p := hA
    rw [Try.params3] at hA
    obtain ⟨v0, vs0, d0, ds0, p0, q0, _, rfl, _, _, r0⟩ := trodAll_cons hA
    obtain ⟨v1, vs1, d1, ds1, p1, q1, _, rfl, _, _, r1⟩ := trodAll_cons r0
    obtain ⟨v2, vs2, d2, ds2, p2, q2, _, rfl, _, _, r2⟩ := trodAll_cons r1
    obtain ⟨v3, vs3, d3, ds3, p3, q3, _, rfl, _, _, r3⟩ := trodAll_cons r2
    obtain ⟨_, rfl, _⟩ := trodAll_nil r3
    rfl
  refine law_contract (M := maps) (pg := W.pg) (i := 3) (ts := [3, 22, 9]) (tb := 4) (b := base) (r := .any) (by kernel_rfl) tab (fun i vs H r h => by cases h) (fun _ _ _ _ h => by cases h) (by kernel_rfl) (by decide)
    (by kernel_rfl) (by rw [Try.params3]; decide) bulk_ok hval rfl hW' hs (by kernel_rfl) Try.underlying4 (by kernel_rfl) (by rw [Try.params3]; decide +kernel) ?_
  intro xs hxs _
  rw [Try.params3] at hxs
  cases hxs with
  | cons h0 hxs => cases hxs with
    | cons h1 hxs => cases hxs with
      | cons h2 hxs => cases hxs with
        | cons h3 hxs =>
          cases hxs
          obtain ⟨most, rfl, _⟩ := arg_int Try.underlying3 h0
          obtain ⟨S, hS⟩ := arg_sl (f := D.s) Try.underlying22 h1 (fun y hy => by obtain ⟨s, h, _⟩ := arg_str Try.underlying9 hy; exact ⟨s, h⟩)
          obtain ⟨l, hl⟩ := arg_sl (f := D.s) Try.underlying22 h2 (fun y hy => by obtain ⟨s, h, _⟩ := arg_str Try.underlying9 hy; exact ⟨s, h⟩)
          obtain ⟨far, rfl, _⟩ := arg_int Try.underlying3 h3
          obtain ⟨r, hr, hp, hv⟩ := law hS hl most far
          obtain ⟨n, hn⟩ := callL_iff.1 hr
          exact ⟨n, r, hn, hp, hv⟩

theorem lifted (os : Os) (started : os.Started) (H : Type) (enc : TypeId × Value → H) :
    ReturnsInHanded {} Try.checked os 3 .any (Rows.dictPlaysSpec.pre6 enc Try.prog Try.f3 Rows.dictPlaysRow.domain false) (Rows.dictPlaysSpec.post enc Try.prog Try.f3 false true false false) := by
  refine returnsInHanded_of_change (C := Try.checked) own started (by kernel_rfl) Try.func3
    (ChangeSpec.witness6 (C := Try.checked) false ⟨#[], #[.int .i64 0, .slice none 0 0, .slice none 0 0, .int .i64 0], []⟩ 8 (by kernel_rfl) (by kernel_rfl) (by kernel_rfl) (by kernel_rfl)) ?_
  intro W base args ds gs before hval hW _ _
  exact contract H enc W base args ds gs before hval hW

theorem dictPlays_holds : Rows.DictPlaysSaid :=
  OpenClaim.holds_of_wide 3 Try.f3 rfl rfl rfl rfl rfl rfl rfl ⟨rfl, rfl, rfl, rfl, rfl⟩ rfl rfl rfl rfl rfl (by kernel_rfl) Try.func3 (by kernel_rfl)
    (of_decide_eq_true (by kernel_rfl)) (by unfold Func.isWrapper; first | (rw [if_pos (by decide +kernel)]; kernel_rfl) | (rw [if_neg (by decide +kernel)]; exact ⟨rfl, rfl⟩))
    (fun os started H enc _ => lifted os started H enc)
end Go.Proofs.Ytliafhaakodnjaa
