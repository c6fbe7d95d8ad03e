/- CheckMods: a module is looked at beside others: what it imports is there, and exported. -/
import Derived.Test.YtdgbjjpdepdmmaaGreatDoorW12
set_option linter.unusedVariables false
set_option linter.unusedSimpArgs false
namespace Go.Proofs.YtdgbjjpdepdmmaaGreatDoor
open Go.ChangeShapes Go.WideShapes Go.ChangeAt Go.RowKit W
set_option maxRecDepth 100000
def qBg : D → List Int
  | .agg l => l.map fun d => match d with | .i _ n => n | _ => 0
  | _ => []
theorem qtQ {α : Type} {n : Nat} {x : α} : ∀ {l : List (Nat × α)}, W.look l n = some x → (n, x) ∈ l
  | [], h => by cases h
  | (m, y) :: l, h => by
    simp only [W.look, Bool.cond_eq_ite] at h
    split at h
    · rename_i hb
      cases h
      have := Nat.eq_of_beq_eq_true hb
      subst this
      exact .head _
    · exact .tail _ (qtQ h)
theorem qsH {W : World} (hL : laidMetH Tryz.prog Rows.checkModsRow.laid W) {name : String} {k : IntKind} {d : D} {g : Nat} {t e : TypeId} {n : Nat}
    (hg : Tryz.prog.globalNamed name = some g) (hty : (Tryz.prog.globals[g]?).map (·.type) = some t) (ht : Tryz.prog.underlying t = some (.array n e)) (he : Tryz.prog.underlying e = some (.int k)) (hce : Tryz.prog.cellsOf e = 1) (hct : Tryz.prog.cellsOf t = n)
    (hm : (name, Go.Lib.tabData k (qBg d)) ∈ Rows.checkModsRow.laid) (hd : d = .agg ((qBg d).map (D.i k))) (h0 : (qBg d).isEmpty = false) :
    ∃ name k zs, Tryz.prog.globalNamed name = some g ∧ d = .agg (zs.map (D.i k)) ∧ zs ≠ [] ∧ Go.Lib.TabIs Tryz.prog W name k zs := by
  obtain ⟨ps, hv, _⟩ := (show laidMet Tryz.prog Rows.checkModsRow.laid W from hL)
  exact ⟨name, k, qBg d, hg, hd, (fun h => by rw [h] at h0; cases h0), qrA hg hty ht he hce hct hv hm⟩
theorem qFh {W : World} (hL : laidMetH Tryz.prog Rows.checkModsRow.laid W) : GlOk maps (g0 W) W := by
  refine qyC (P := Tryz.prog) ?_ fun n x hn => ?_
  · intro n hn
    obtain ⟨ps, hv, _⟩ := (show laidMet Tryz.prog Rows.checkModsRow.laid W from hL)
    have hn : n = 3 ∨ n = 4 := by simpa [maps] using hn
    rcases hn with rfl | rfl
    · exact qsB (name := "strconv.ErrSyntax") (t := 278) (by kernel_rfl) (by kernel_rfl) (by kernel_rfl) hv (.tail _ (.tail _ (.tail _ (.tail _ (.head _)))))
    · exact qsB (name := "strconv.ErrRange") (t := 278) (by kernel_rfl) (by kernel_rfl) (by kernel_rfl) hv (.tail _ (.tail _ (.tail _ (.head _))))
  have hm := qtQ hn
  simp only [maps, List.mem_cons, Prod.mk.injEq, List.not_mem_nil, or_false] at hm
  rcases hm with ⟨rfl, rfl⟩ | ⟨rfl, rfl⟩ | ⟨rfl, rfl⟩ | ⟨rfl, rfl⟩
  · exact qsH hL (name := "strings.asciiSpace") (k := .u8) (d := glD 0) (by kernel_rfl) (by kernel_rfl) Tryz.underlying219 Tryz.underlying5 (by kernel_rfl) (by kernel_rfl) (.tail _ (.tail _ (.tail _ (.tail _ (.tail _ (.tail _ (.head _))))))) rfl rfl
  · exact qsH hL (name := "internal/strconv.uint64pow10") (k := .u64) (d := glD 5) (by kernel_rfl) (by kernel_rfl) Tryz.underlying358 Tryz.underlying276 (by kernel_rfl) (by kernel_rfl) (.tail _ (.tail _ (.head _))) rfl rfl
  · exact qsH hL (name := "math/bits.deBruijn32tab") (k := .u8) (d := glD 6) (by kernel_rfl) (by kernel_rfl) Tryz.underlying362 Tryz.underlying5 (by kernel_rfl) (by kernel_rfl) (.head _) rfl rfl
  · exact qsH hL (name := "math/bits.deBruijn64tab") (k := .u8) (d := glD 7) (by kernel_rfl) (by kernel_rfl) Tryz.underlying363 Tryz.underlying5 (by kernel_rfl) (by kernel_rfl) (.tail _ (.head _)) rfl rfl
theorem contract (H : Type) (enc : TypeId × Value → H) (w0 : World) (base : Nat) (args : Array Value) (ds gs : List (DataW H)) (before : List MemPlace)
    (hval : ∀ (j : Nat) t v, Tryz.f7.params[j]? = some t → args[j]? = some v → Value.okWide Tryz.prog w0 .any base t v)
    (hW : DataW.Whole enc Tryz.prog Tryz.f7.params.toList Rows.checkModsSpec.vars false w0 args.toList ds gs before) (hL : laidMetH Tryz.prog Rows.checkModsRow.laid w0) :
    Calls Tryz.prog 7 args w0 fun e W' => ∃ v, e = .returned v ∧ Rows.checkModsSpec.post enc Tryz.prog Tryz.f7 false true false false w0 args v W' := by
  have hW' := hW
  obtain ⟨p, q, hA, hV, _⟩ := hW
  have hs : Rows.checkModsSpec.fn H ds = { results := [.lit (.bool true)], args := ds } := by
    have hA : DataW.TrodAll enc Tryz.prog w0 0 (fun _ => true) true Tryz.f7.params.toList args.toList ds p := hA
    rw [Tryz.params7] at hA
    obtain ⟨v0, vs0, d0, ds0, p0, q0, _, rfl, _, _, r0⟩ := trodAll_cons hA
    obtain ⟨v1, vs1, d1, ds1, p1, q1, _, rfl, _, _, r1⟩ := trodAll_cons r0
    obtain ⟨v2, vs2, d2, ds2, p2, q2, _, rfl, _, _, r2⟩ := trodAll_cons r1
    obtain ⟨_, rfl, _⟩ := trodAll_nil r2
    rfl
  refine qsM (M := maps) (pg := W.pgK) (i := 7) (ts := [5, 4]) (tb := 4) (b := base) (r := .any) (qFh hL) (by kernel_rfl) qFq qBA qlN (by kernel_rfl) (by decide)
    (by kernel_rfl) (by rw [Tryz.params7]; decide) qAM hval rfl hW' hs (by kernel_rfl) Tryz.underlying4 (by kernel_rfl) (by rw [Tryz.params7]; decide +kernel) ?_
  intro xs hxs _
  rw [Tryz.params7] at hxs
  cases hxs with
  | cons h0 hxs =>
    cases hxs with
    | cons h1 hxs =>
      cases hxs with
      | cons h2 hxs =>
        cases hxs
        obtain ⟨a, rfl, ha⟩ := qwZ Tryz.underlying5 h0
        obtain ⟨b, rfl, hb⟩ := qwZ Tryz.underlying5 h1
        obtain ⟨c, rfl⟩ := qAi Tryz.underlying4 h2
        simp [Lit.wf, IntKind.min, IntKind.max, IntKind.bits, IntKind.signed] at ha hb
        obtain ⟨a, rfl⟩ := Int.eq_ofNat_of_zero_le ha.1
        obtain ⟨b, rfl⟩ := Int.eq_ofNat_of_zero_le hb.1
        obtain ⟨lo, hr⟩ := qAx (mask := a) (u := b) (i := c)
        obtain ⟨n, hn⟩ := qcz.1 hr
        exact ⟨n, _, hn, rfl, rfl⟩
noncomputable def qob (os : Os) : World := World.laidAll Tryz.prog os Rows.checkModsRow.laid
theorem qy9 (os : Os) : laidMetH Tryz.prog Rows.checkModsRow.laid ((qob os).forCall (fun _ _ => 0) ⟨#[], #[.int .u8 0, .int .u8 0, .bool false], []⟩).memory :=
  laidMet_laidAll (P := Tryz.prog) (os := os) (laid := Rows.checkModsRow.laid) #[.int .u8 0, .int .u8 0, .bool false] (by kernel_rfl) (by kernel_rfl)
theorem reads (os : Os) {H : Type} (enc : TypeId × Value → H) : ∃ places, DataW.whole enc Tryz.prog ((qob os).forCall (fun _ _ => 0) ⟨#[], #[.int .u8 0, .int .u8 0, .bool false], []⟩).memory Tryz.f7.params.toList Rows.checkModsSpec.vars false #[Value.int .u8 0, .int .u8 0, .bool false].toList 8 = some ([.lit (.int .u8 0), .lit (.int .u8 0), .lit (.bool false)], [], places) :=
  ⟨[], by kernel_rfl⟩
theorem lifted (os : Os) (started : os.Started) (H : Type) (enc : TypeId × Value → H) (F : Stop.Interp) :
    ReturnsInHanded {} Tryz.checked os 7 .any ((OpenSpec.ofChange Rows.checkModsSpec).preRow enc Tryz.prog Tryz.f7 Rows.checkModsRow.domain false Rows.checkModsRow.laid) (((OpenSpec.ofChange Rows.checkModsSpec).at F).post enc Tryz.prog Tryz.f7 false true false false) := by
  obtain ⟨places, hx⟩ := reads os enc
  refine returnsInHanded_of_row (C := Tryz.checked) (s := OpenSpec.ofChange Rows.checkModsSpec) own started (by kernel_rfl) Tryz.func7
    (witness_row_atRef (enc := enc) (C := Tryz.checked) false (qob os) #[.int .u8 0, .int .u8 0, .bool false] (World.laidAll_os _ _ _) (by kernel_rfl) (by kernel_rfl) (by kernel_rfl)
      (OpenSpec.preRow_of_cond 8 hx (by kernel_rfl) (fun k hk => by cases hk) (by kernel_rfl) (qy9 os))) ?_
  intro W base args ds gs before hval hW _ _ _ hL _ _
  exact contract H enc W base args ds gs before hval hW hL
theorem jf1 : laidOutB Tryz.prog = true := by kernel_rfl
theorem jf2 : mapsRowed Tryz.prog = true := by kernel_rfl
theorem jf3 : (Rows.checkModsRow.inPlace == Tryz.prog.inPlace 7) = true := by kernel_rfl
theorem jf4 : (Rows.checkModsRow.unfollowed == Tryz.prog.unfollowed 7) = true := by kernel_rfl
theorem jf5 : (Rows.checkModsRow.recurses == Tryz.prog.recurses 7) = true := by kernel_rfl
theorem jf6 : (Rows.checkModsRow.named == Tryz.prog.varsNamed 7) = true := by kernel_rfl
theorem jf7 : (Rows.checkModsRow.plainKeys == Tryz.prog.plainKeys) = true := by kernel_rfl
theorem jf8 : Tryz.prog.stopsHeard = true := by kernel_rfl
theorem jf9 : Tryz.prog.mayEnter = true := by kernel_rfl
theorem qFo : (Rows.checkModsRow.lifted == Tryz.prog.liftsFinal) = true := by kernel_rfl
theorem qFr : (Tryz.prog.make == some Rows.checkModsRow.make) = true := by kernel_rfl
theorem closed : joinedFacts Tryz.prog 7 Tryz.f7 (OpenSpec.ofChange Rows.checkModsSpec).bare Rows.checkModsRow = true := by
  simp only [joinedFacts, Bool.and_eq_true]
  repeat' (apply And.intro)
  all_goals first | (with_reducible exact jf1) | (with_reducible exact jf2) | (with_reducible exact jf3) | (with_reducible exact jf4) | (with_reducible exact jf5) | (with_reducible exact jf6) | (with_reducible exact jf7) | (with_reducible exact jf8) | (with_reducible exact jf9) | (with_reducible exact qFo) | (with_reducible exact qFr) | kernel_rfl
theorem said : Rows.CheckModsSaid :=
  OpenClaim.holds_of_cond 7 Tryz.f7 rfl rfl rfl rfl rfl rfl rfl ⟨rfl, rfl, rfl, rfl, rfl⟩ rfl rfl rfl rfl rfl (by kernel_rfl) Tryz.func7 closed
    (of_decide_eq_true (by kernel_rfl)) (by unfold Func.isWrapper; first | (rw [if_pos (by decide +kernel)]; kernel_rfl) | (rw [if_neg (by decide +kernel)]; exact ⟨rfl, rfl⟩))
    (fun os started H enc _ F => by rw [OpenClaim.pre_eq_preRow]; exact lifted os started H enc F)
theorem plain (f : FuncId) (fn : Func) (hf : Tryz.pinned.checked.prog.funcNamed "wafer/waferlaw17.CheckMods" = some f) (hfn : Tryz.pinned.checked.prog.funcs[f]? = some fn) :
    true = Tryz.pinned.checked.prog.looks [] ∧ ∀ (j : Nat) t, fn.params[j]? = some t → Tryz.pinned.checked.prog.wantsStandIn t = false := by
  obtain rfl : f = 7 := Option.some.inj ((show Tryz.prog.funcNamed "wafer/waferlaw17.CheckMods" = some 7 by kernel_rfl).symm.trans hf) |>.symm
  obtain rfl : fn = Tryz.f7 := (Option.some.inj (Tryz.func7.symm.trans hfn)).symm
  refine ⟨by kernel_rfl, fun j t ht => ?_⟩
  rw [Tryz.params7] at ht
  have ht := Array.mem_of_getElem? ht
  simp only [List.mem_toArray, List.mem_cons, List.not_mem_nil, or_false] at ht
  rcases ht with rfl | rfl | rfl
  · exact (show Tryz.prog.wantsStandIn 5 = false by kernel_rfl)
  · exact (show Tryz.prog.wantsStandIn 5 = false by kernel_rfl)
  · exact (show Tryz.prog.wantsStandIn 4 = false by kernel_rfl)
theorem checkMods_holds : Rows.CheckModsCardSaid :=
  Claim7.holds_tied_plain_at .later [] _ _ _ _ said (fun _ h => by cases h) (by kernel_rfl) (fun _ h => by cases h) checkMods_row_tie rfl ⟨rfl, rfl⟩ (by kernel_rfl) rfl plain (by kernel_rfl)
end Go.Proofs.YtdgbjjpdepdmmaaGreatDoor
