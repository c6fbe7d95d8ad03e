/- ScanBlanks: blanks and comments between symbols say nothing but where they stand. -/
import Derived.Test.YthaolbkjkigllaaDoorW7
set_option linter.unusedVariables false
set_option linter.unusedSimpArgs false
namespace Go.Proofs.YthaolbkjkigllaaDoor
open Go.ChangeShapes Go.WideShapes Go.ChangeAt Go.RowKit W
set_option maxRecDepth 100000
def qtb : D → List Int
  | .agg l => l.map fun d => match d with | .i _ n => n | _ => 0
  | _ => []
theorem qnQ {α : Type} {n : Nat} {x : α} : ∀ {l : List (Nat × α)}, W.look l n = some x → (n, x) ∈ l
  | [], h => by cases h
  | (m, y) :: l, h => by
    simp only [W.look, Bool.cond_eq_ite] at h
    split at h
    · rename_i hb
      cases h
      have := Nat.eq_of_beq_eq_true hb
      subst this
      exact .head _
    · exact .tail _ (qnQ h)
theorem qlS {W : World} (hL : laidMetH Tryd.prog Rows.scanBlanksRow.laid W) {name : String} {k : IntKind} {d : D} {g : Nat} {t e : TypeId} {n : Nat}
    (hg : Tryd.prog.globalNamed name = some g) (hty : (Tryd.prog.globals[g]?).map (·.type) = some t) (ht : Tryd.prog.underlying t = some (.array n e)) (he : Tryd.prog.underlying e = some (.int k)) (hce : Tryd.prog.cellsOf e = 1) (hct : Tryd.prog.cellsOf t = n)
    (hm : (name, Go.Lib.tabData k (qtb d)) ∈ Rows.scanBlanksRow.laid) (hd : d = .agg ((qtb d).map (D.i k))) (h0 : (qtb d).isEmpty = false) :
    ∃ name k zs, Tryd.prog.globalNamed name = some g ∧ d = .agg (zs.map (D.i k)) ∧ zs ≠ [] ∧ Go.Lib.TabIs Tryd.prog W name k zs := by
  obtain ⟨ps, hv, _⟩ := (show laidMet Tryd.prog Rows.scanBlanksRow.laid W from hL)
  exact ⟨name, k, qtb d, hg, hd, (fun h => by rw [h] at h0; cases h0), qlo hg hty ht he hce hct hv hm⟩
theorem qzM {W : World} (hL : laidMetH Tryd.prog Rows.scanBlanksRow.laid W) : GlOk maps (g0 W) W := by
  refine qp9 (P := Tryd.prog) ?_ fun n x hn => ?_
  · intro n hn
    obtain ⟨ps, hv, _⟩ := (show laidMet Tryd.prog Rows.scanBlanksRow.laid W from hL)
    have hn : n = 3 ∨ n = 4 := by simpa [maps] using hn
    rcases hn with rfl | rfl
    · exact qmp (name := "strconv.ErrSyntax") (t := 89) (by kernel_rfl) (by kernel_rfl) (by kernel_rfl) hv (.tail _ (.tail _ (.tail _ (.tail _ (.head _)))))
    · exact qmp (name := "strconv.ErrRange") (t := 89) (by kernel_rfl) (by kernel_rfl) (by kernel_rfl) hv (.tail _ (.tail _ (.tail _ (.head _))))
  have hm := qnQ hn
  simp only [maps, List.mem_cons, Prod.mk.injEq, List.not_mem_nil, or_false] at hm
  rcases hm with ⟨rfl, rfl⟩ | ⟨rfl, rfl⟩ | ⟨rfl, rfl⟩ | ⟨rfl, rfl⟩
  · exact qlS hL (name := "strings.asciiSpace") (k := .u8) (d := glD 0) (by kernel_rfl) (by kernel_rfl) Tryd.underlying79 Tryd.underlying5 (by kernel_rfl) (by kernel_rfl) (.tail _ (.tail _ (.tail _ (.tail _ (.tail _ (.tail _ (.head _))))))) rfl rfl
  · exact qlS hL (name := "internal/strconv.uint64pow10") (k := .u64) (d := glD 5) (by kernel_rfl) (by kernel_rfl) Tryd.underlying134 Tryd.underlying29 (by kernel_rfl) (by kernel_rfl) (.tail _ (.tail _ (.head _))) rfl rfl
  · exact qlS hL (name := "math/bits.deBruijn32tab") (k := .u8) (d := glD 6) (by kernel_rfl) (by kernel_rfl) Tryd.underlying139 Tryd.underlying5 (by kernel_rfl) (by kernel_rfl) (.head _) rfl rfl
  · exact qlS hL (name := "math/bits.deBruijn64tab") (k := .u8) (d := glD 7) (by kernel_rfl) (by kernel_rfl) Tryd.underlying140 Tryd.underlying5 (by kernel_rfl) (by kernel_rfl) (.tail _ (.head _)) rfl rfl
theorem contract (H : Type) (enc : TypeId × Value → H) (w0 : World) (base : Nat) (args : Array Value) (ds gs : List (DataW H)) (before : List MemPlace)
    (hval : ∀ (j : Nat) t v, Tryd.f5.params[j]? = some t → args[j]? = some v → Value.okWide Tryd.prog w0 .any base t v)
    (hW : DataW.Whole enc Tryd.prog Tryd.f5.params.toList Rows.scanBlanksSpec.vars false w0 args.toList ds gs before) (hL : laidMetH Tryd.prog Rows.scanBlanksRow.laid w0) :
    Calls Tryd.prog 5 args w0 fun e W' => ∃ v, e = .returned v ∧ Rows.scanBlanksSpec.post enc Tryd.prog Tryd.f5 false true false false w0 args v W' := by
  have hW' := hW
  obtain ⟨p, q, hA, hV, _⟩ := hW
  have hs : Rows.scanBlanksSpec.fn H ds = { results := [.lit (.bool true)], args := ds } := by
    have hA : DataW.TrodAll enc Tryd.prog w0 0 (fun _ => true) true Tryd.f5.params.toList args.toList ds p := hA
    rw [Tryd.params5] at hA
    obtain ⟨v0, vs0, d0, ds0, p0, q0, _, rfl, _, _, r0⟩ := trodAll_cons hA
    obtain ⟨v1, vs1, d1, ds1, p1, q1, _, rfl, _, _, r1⟩ := trodAll_cons r0
    obtain ⟨_, rfl, _⟩ := trodAll_nil r1
    rfl
  refine ql1 (M := maps) (pg := W.pg) (i := 5) (ts := [22, 23, 33, 5]) (tb := 4) (b := base) (r := .any) (qzM hL) (by kernel_rfl) qzj qsF qrK (by kernel_rfl) (by decide)
    (by kernel_rfl) (by rw [Tryd.params5]; decide) qtq hval rfl hW' hs (by kernel_rfl) Tryd.underlying4 (by kernel_rfl) (by rw [Tryd.params5]; decide +kernel) ?_
  intro xs hxs _
  rw [Tryd.params5] at hxs
  cases hxs with
  | cons h0 hxs =>
    cases hxs with
    | cons h1 hxs =>
      cases hxs
      obtain ⟨L, hL'⟩ := qse (f := eU) Tryd.underlying22 h0 (fun y hy => by
        obtain ⟨z, rfl, hz⟩ := qpj Tryd.underlying23 hy
        simp [Lit.wf, IntKind.min, IntKind.max, IntKind.bits, IntKind.signed] at hz
        exact ⟨⟨z, by omega⟩, rfl⟩)
      obtain ⟨G, hG'⟩ := qse (f := eBy) Tryd.underlying33 h1 (fun y hy => by
        obtain ⟨z, rfl, hz⟩ := qpj Tryd.underlying5 hy
        exact ⟨⟨z.toNat, by simp [Lit.wf, IntKind.min, IntKind.max, IntKind.bits, IntKind.signed] at hz; omega⟩, by simp [Lit.wf, IntKind.min, IntKind.max, IntKind.bits, IntKind.signed] at hz; simp only [eBy]; congr 1; omega⟩)
      have hr := qoY hL' hG'
      obtain ⟨n, hn⟩ := qdo.1 hr
      exact ⟨n, _, hn, rfl, rfl⟩
noncomputable def qix (os : Os) : World := World.laidAll Tryd.prog os Rows.scanBlanksRow.laid
theorem qsj (os : Os) : laidMetH Tryd.prog Rows.scanBlanksRow.laid ((qix os).forCall (fun _ _ => 0) ⟨#[], #[.slice none 0 0, .slice none 0 0], []⟩).memory :=
  laidMet_laidAll (P := Tryd.prog) (os := os) (laid := Rows.scanBlanksRow.laid) #[.slice none 0 0, .slice none 0 0] (by kernel_rfl) (by kernel_rfl)
theorem reads (os : Os) {H : Type} (enc : TypeId × Value → H) : ∃ places, DataW.whole enc Tryd.prog ((qix os).forCall (fun _ _ => 0) ⟨#[], #[.slice none 0 0, .slice none 0 0], []⟩).memory Tryd.f5.params.toList Rows.scanBlanksSpec.vars false #[Value.slice none 0 0, .slice none 0 0].toList 8 = some ([.nil, .nil], [], places) :=
  ⟨[], by kernel_rfl⟩
theorem lifted (os : Os) (started : os.Started) (H : Type) (enc : TypeId × Value → H) (F : Stop.Interp) :
    ReturnsInHanded {} Tryd.checked os 5 .any ((OpenSpec.ofChange Rows.scanBlanksSpec).preRow enc Tryd.prog Tryd.f5 Rows.scanBlanksRow.domain false Rows.scanBlanksRow.laid) (((OpenSpec.ofChange Rows.scanBlanksSpec).at F).post enc Tryd.prog Tryd.f5 false true false false) := by
  obtain ⟨places, hx⟩ := reads os enc
  refine returnsInHanded_of_row (C := Tryd.checked) (s := OpenSpec.ofChange Rows.scanBlanksSpec) own started (by kernel_rfl) Tryd.func5
    (witness_row_atRef (enc := enc) (C := Tryd.checked) false (qix os) #[.slice none 0 0, .slice none 0 0] (World.laidAll_os _ _ _) (by kernel_rfl) (by kernel_rfl) (by kernel_rfl)
      (OpenSpec.preRow_of_cond 8 hx (by kernel_rfl) (fun k hk => by cases hk) (by kernel_rfl) (qsj os))) ?_
  intro W base args ds gs before hval hW _ _ _ hL _ _
  exact contract H enc W base args ds gs before hval hW hL
theorem said : Rows.ScanBlanksSaid :=
  OpenClaim.holds_of_cond 5 Tryd.f5 rfl rfl rfl rfl rfl rfl rfl ⟨rfl, rfl, rfl, rfl, rfl⟩ rfl rfl rfl rfl rfl (by kernel_rfl) Tryd.func5 (by kernel_rfl)
    (of_decide_eq_true (by kernel_rfl)) (by unfold Func.isWrapper; first | (rw [if_pos (by decide +kernel)]; kernel_rfl) | (rw [if_neg (by decide +kernel)]; exact ⟨rfl, rfl⟩))
    (fun os started H enc _ F => by rw [OpenClaim.pre_eq_preRow]; exact lifted os started H enc F)
theorem plain (f : FuncId) (fn : Func) (hf : Tryd.pinned.checked.prog.funcNamed "wafer/waferlaw11.ScanBlanks" = some f) (hfn : Tryd.pinned.checked.prog.funcs[f]? = some fn) :
    true = Tryd.pinned.checked.prog.looks [] ∧ ∀ (j : Nat) t, fn.params[j]? = some t → Tryd.pinned.checked.prog.wantsStandIn t = false := by
  obtain rfl : f = 5 := Option.some.inj ((show Tryd.prog.funcNamed "wafer/waferlaw11.ScanBlanks" = some 5 by kernel_rfl).symm.trans hf) |>.symm
  obtain rfl : fn = Tryd.f5 := (Option.some.inj (Tryd.func5.symm.trans hfn)).symm
  refine ⟨by kernel_rfl, fun j t ht => ?_⟩
  rw [Tryd.params5] at ht
  have ht := Array.mem_of_getElem? ht
  simp only [List.mem_toArray, List.mem_cons, List.not_mem_nil, or_false] at ht
  rcases ht with rfl | rfl
  · exact (show Tryd.prog.wantsStandIn 22 = false by kernel_rfl)
  · exact (show Tryd.prog.wantsStandIn 33 = false by kernel_rfl)
theorem scanBlanks_holds : Rows.ScanBlanksCardSaid :=
  Claim7.holds_tied_plain_at .later [] _ _ _ _ said (fun _ h => by cases h) (by kernel_rfl) (fun _ h => by cases h) scanBlanks_row_tie rfl ⟨rfl, rfl⟩ (by kernel_rfl) rfl plain (by kernel_rfl)
end Go.Proofs.YthaolbkjkigllaaDoor
