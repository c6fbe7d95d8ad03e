/- ScanLines: which line and column any place is in. -/
import Derived.Test.YthaolbkjkigllaaDoorW5
set_option linter.unusedVariables false
set_option linter.unusedSimpArgs false
namespace Go.Proofs.YthaolbkjkigllaaDoor
open Go.ChangeShapes Go.WideShapes Go.ChangeAt Go.RowKit W
set_option maxRecDepth 100000
def tabZ : D → List Int
  | .agg l => l.map fun d => match d with | .i _ n => n | _ => 0
  | _ => []
theorem look_mem {α : Type} {n : Nat} {x : α} : ∀ {l : List (Nat × α)}, W.look l n = some x → (n, x) ∈ l
  | [], h => by cases h
  | (m, y) :: l, h => by
    simp only [W.look, Bool.cond_eq_ite] at h
    split at h
    · rename_i hb
      cases h
      have := Nat.eq_of_beq_eq_true hb
      subst this
      exact .head _
    · exact .tail _ (look_mem h)
theorem tab_at {W : World} (hL : laidMetH Tryd.prog Rows.scanLinesRow.laid W) {name : String} {k : IntKind} {d : D} {g : Nat} {t e : TypeId} {n : Nat}
    (hg : Tryd.prog.globalNamed name = some g) (hty : (Tryd.prog.globals[g]?).map (·.type) = some t) (ht : Tryd.prog.underlying t = some (.array n e)) (he : Tryd.prog.underlying e = some (.int k)) (hce : Tryd.prog.cellsOf e = 1) (hct : Tryd.prog.cellsOf t = n)
    (hm : (name, Go.Lib.tabData k (tabZ d)) ∈ Rows.scanLinesRow.laid) (hd : d = .agg ((tabZ d).map (D.i k))) (h0 : (tabZ d).isEmpty = false) :
    ∃ name k zs, Tryd.prog.globalNamed name = some g ∧ d = .agg (zs.map (D.i k)) ∧ zs ≠ [] ∧ Go.Lib.TabIs Tryd.prog W name k zs := by
  obtain ⟨ps, hv, _⟩ := (show laidMet Tryd.prog Rows.scanLinesRow.laid W from hL)
  exact ⟨name, k, tabZ d, hg, hd, (fun h => by rw [h] at h0; cases h0), tabIs_mem hg hty ht he hce hct hv hm⟩
theorem glOk {W : World} (hL : laidMetH Tryd.prog Rows.scanLinesRow.laid W) : GlOk maps (g0 W) W := by
  refine glOk_tabs (P := Tryd.prog) ?_ fun n x hn => ?_
  · intro n hn
    obtain ⟨ps, hv, _⟩ := (show laidMet Tryd.prog Rows.scanLinesRow.laid W from hL)
    have hn : n = 3 ∨ n = 4 := by simpa [maps] using hn
    rcases hn with rfl | rfl
    · exact ifc_mem (name := "strconv.ErrSyntax") (t := 89) (by kernel_rfl) (by kernel_rfl) (by kernel_rfl) hv (.tail _ (.tail _ (.tail _ (.tail _ (.head _)))))
    · exact ifc_mem (name := "strconv.ErrRange") (t := 89) (by kernel_rfl) (by kernel_rfl) (by kernel_rfl) hv (.tail _ (.tail _ (.tail _ (.head _))))
  have hm := look_mem hn
  simp only [maps, List.mem_cons, Prod.mk.injEq, List.not_mem_nil, or_false] at hm
  rcases hm with ⟨rfl, rfl⟩ | ⟨rfl, rfl⟩ | ⟨rfl, rfl⟩ | ⟨rfl, rfl⟩
  · exact tab_at hL (name := "strings.asciiSpace") (k := .u8) (d := glD 0) (by kernel_rfl) (by kernel_rfl) Tryd.underlying79 Tryd.underlying5 (by kernel_rfl) (by kernel_rfl) (.tail _ (.tail _ (.tail _ (.tail _ (.tail _ (.tail _ (.head _))))))) rfl rfl
  · exact tab_at hL (name := "internal/strconv.uint64pow10") (k := .u64) (d := glD 5) (by kernel_rfl) (by kernel_rfl) Tryd.underlying134 Tryd.underlying29 (by kernel_rfl) (by kernel_rfl) (.tail _ (.tail _ (.head _))) rfl rfl
  · exact tab_at hL (name := "math/bits.deBruijn32tab") (k := .u8) (d := glD 6) (by kernel_rfl) (by kernel_rfl) Tryd.underlying139 Tryd.underlying5 (by kernel_rfl) (by kernel_rfl) (.head _) rfl rfl
  · exact tab_at hL (name := "math/bits.deBruijn64tab") (k := .u8) (d := glD 7) (by kernel_rfl) (by kernel_rfl) Tryd.underlying140 Tryd.underlying5 (by kernel_rfl) (by kernel_rfl) (.tail _ (.head _)) rfl rfl
theorem contract (H : Type) (enc : TypeId × Value → H) (w0 : World) (base : Nat) (args : Array Value) (ds gs : List (DataW H)) (before : List MemPlace)
    (hval : ∀ (j : Nat) t v, Tryd.f10.params[j]? = some t → args[j]? = some v → Value.okWide Tryd.prog w0 .any base t v)
    (hW : DataW.Whole enc Tryd.prog Tryd.f10.params.toList Rows.scanLinesSpec.vars false w0 args.toList ds gs before) (hL : laidMetH Tryd.prog Rows.scanLinesRow.laid w0) :
    Calls Tryd.prog 10 args w0 fun e W' => ∃ v, e = .returned v ∧ Rows.scanLinesSpec.post enc Tryd.prog Tryd.f10 false true false false w0 args v W' := by
  have hW' := hW
  obtain ⟨p, q, hA, hV, _⟩ := hW
  have hs : Rows.scanLinesSpec.fn H ds = { results := [.lit (.bool true)], args := ds } := by
    have hA : DataW.TrodAll enc Tryd.prog w0 0 (fun _ => true) true Tryd.f10.params.toList args.toList ds p := hA
    rw [Tryd.params10] at hA
    obtain ⟨v0, vs0, d0, ds0, p0, q0, _, rfl, _, _, r0⟩ := trodAll_cons hA
    obtain ⟨v1, vs1, d1, ds1, p1, q1, _, rfl, _, _, r1⟩ := trodAll_cons r0
    obtain ⟨_, rfl, _⟩ := trodAll_nil r1
    rfl
  refine law_contract (M := maps) (pg := W.pg) (i := 10) (ts := [9, 3]) (tb := 4) (b := base) (r := .any) (glOk hL) (by kernel_rfl) tab1 ext_sim ext_lo (by kernel_rfl) (by decide)
    (by kernel_rfl) (by rw [Tryd.params10]; decide) bulk_ok hval rfl hW' hs (by kernel_rfl) Tryd.underlying4 (by kernel_rfl) (by rw [Tryd.params10]; decide +kernel) ?_
  intro xs hxs _
  rw [Tryd.params10] at hxs
  cases hxs with
  | cons h0 hxs =>
    cases hxs with
    | cons h1 hxs =>
      cases hxs
      obtain ⟨s, rfl, _, _⟩ := arg_str Tryd.underlying9 h0
      obtain ⟨p, rfl, _⟩ := arg_int Tryd.underlying3 h1
      have hr := lines_law (s := s) (pos := p)
      obtain ⟨n, hn⟩ := callL_iff.1 hr
      exact ⟨n, _, hn, rfl, rfl⟩
noncomputable def laidWorld (os : Os) : World := World.laidAll Tryd.prog os Rows.scanLinesRow.laid
theorem laid_met (os : Os) : laidMetH Tryd.prog Rows.scanLinesRow.laid ((laidWorld os).forCall (fun _ _ => 0) ⟨#[], #[.string ⟨#[]⟩, .int .i64 0], []⟩).memory :=
  laidMet_laidAll (P := Tryd.prog) (os := os) (laid := Rows.scanLinesRow.laid) #[.string ⟨#[]⟩, .int .i64 0] (by kernel_rfl) (by kernel_rfl)
theorem reads (os : Os) {H : Type} (enc : TypeId × Value → H) : ∃ places, DataW.whole enc Tryd.prog ((laidWorld os).forCall (fun _ _ => 0) ⟨#[], #[.string ⟨#[]⟩, .int .i64 0], []⟩).memory Tryd.f10.params.toList Rows.scanLinesSpec.vars false #[Value.string ⟨#[]⟩, .int .i64 0].toList 8 = some ([.lit (.string []), .lit (.int .i64 0)], [], places) :=
  ⟨[], by kernel_rfl⟩
theorem lifted (os : Os) (started : os.Started) (H : Type) (enc : TypeId × Value → H) (F : Stop.Interp) :
    ReturnsInHanded {} Tryd.checked os 10 .any ((OpenSpec.ofChange Rows.scanLinesSpec).preRow enc Tryd.prog Tryd.f10 Rows.scanLinesRow.domain false Rows.scanLinesRow.laid) (((OpenSpec.ofChange Rows.scanLinesSpec).at F).post enc Tryd.prog Tryd.f10 false true false false) := by
  obtain ⟨places, hx⟩ := reads os enc
  refine returnsInHanded_of_row (C := Tryd.checked) (s := OpenSpec.ofChange Rows.scanLinesSpec) own started (by kernel_rfl) Tryd.func10
    (witness_row_atRef (enc := enc) (C := Tryd.checked) false (laidWorld os) #[.string ⟨#[]⟩, .int .i64 0] (World.laidAll_os _ _ _) (by kernel_rfl) (by kernel_rfl) (by kernel_rfl)
      (OpenSpec.preRow_of_cond 8 hx (by kernel_rfl) (fun k hk => by cases hk) (by kernel_rfl) (laid_met os))) ?_
  intro W base args ds gs before hval hW _ _ _ hL _ _
  exact contract H enc W base args ds gs before hval hW hL
theorem said : Rows.ScanLinesSaid :=
  OpenClaim.holds_of_cond 10 Tryd.f10 rfl rfl rfl rfl rfl rfl rfl ⟨rfl, rfl, rfl, rfl, rfl⟩ rfl rfl rfl rfl rfl (by kernel_rfl) Tryd.func10 (by kernel_rfl)
    (of_decide_eq_true (by kernel_rfl)) (by unfold Func.isWrapper; first | (rw [if_pos (by decide +kernel)]; kernel_rfl) | (rw [if_neg (by decide +kernel)]; exact ⟨rfl, rfl⟩))
    (fun os started H enc _ F => by rw [OpenClaim.pre_eq_preRow]; exact lifted os started H enc F)
theorem plain (f : FuncId) (fn : Func) (hf : Tryd.pinned.checked.prog.funcNamed "wafer/waferlaw11.ScanLines" = some f) (hfn : Tryd.pinned.checked.prog.funcs[f]? = some fn) :
    true = Tryd.pinned.checked.prog.looks [] ∧ ∀ (j : Nat) t, fn.params[j]? = some t → Tryd.pinned.checked.prog.wantsStandIn t = false := by
  obtain rfl : f = 10 := Option.some.inj ((show Tryd.prog.funcNamed "wafer/waferlaw11.ScanLines" = some 10 by kernel_rfl).symm.trans hf) |>.symm
  obtain rfl : fn = Tryd.f10 := (Option.some.inj (Tryd.func10.symm.trans hfn)).symm
  refine ⟨by kernel_rfl, fun j t ht => ?_⟩
  rw [Tryd.params10] at ht
  have ht := Array.mem_of_getElem? ht
  simp only [List.mem_toArray, List.mem_cons, List.not_mem_nil, or_false] at ht
  rcases ht with rfl | rfl
  · exact (show Tryd.prog.wantsStandIn 9 = false by kernel_rfl)
  · exact (show Tryd.prog.wantsStandIn 3 = false by kernel_rfl)
theorem scanLines_holds : Rows.ScanLinesCardSaid :=
  Claim7.holds_tied_plain_at .later [] _ _ _ _ said (fun _ h => by cases h) (by kernel_rfl) (fun _ h => by cases h) scanLines_row_tie rfl ⟨rfl, rfl⟩ (by kernel_rfl) rfl plain (by kernel_rfl)
end Go.Proofs.YthaolbkjkigllaaDoor
