/- CheckNames: names that are declared twice, or may not be, are refused, wherever they are. -/
import Derived.Test.YtdgbjjpdepdmmaaGreatDoorW7
set_option linter.unusedVariables false
set_option linter.unusedSimpArgs false
namespace Go.Proofs.YtdgbjjpdepdmmaaGreatDoor
open Go.ChangeShapes Go.WideShapes Go.ChangeAt Go.RowKit W
set_option maxRecDepth 100000
def qw9 : D → List Int
  | .agg l => l.map fun d => match d with | .i _ n => n | _ => 0
  | _ => []
theorem qow {α : Type} {n : Nat} {x : α} : ∀ {l : List (Nat × α)}, W.look l n = some x → (n, x) ∈ l
  | [], h => by cases h
  | (m, y) :: l, h => by
    simp only [W.look, Bool.cond_eq_ite] at h
    split at h
    · rename_i hb
      cases h
      have := Nat.eq_of_beq_eq_true hb
      subst this
      exact .head _
    · exact .tail _ (qow h)
theorem qnv {W : World} (hL : laidMetH Tryz.prog Rows.checkNamesRow.laid W) {name : String} {k : IntKind} {d : D} {g : Nat} {t e : TypeId} {n : Nat}
    (hg : Tryz.prog.globalNamed name = some g) (hty : (Tryz.prog.globals[g]?).map (·.type) = some t) (ht : Tryz.prog.underlying t = some (.array n e)) (he : Tryz.prog.underlying e = some (.int k)) (hce : Tryz.prog.cellsOf e = 1) (hct : Tryz.prog.cellsOf t = n)
    (hm : (name, Go.Lib.tabData k (qw9 d)) ∈ Rows.checkNamesRow.laid) (hd : d = .agg ((qw9 d).map (D.i k))) (h0 : (qw9 d).isEmpty = false) :
    ∃ name k zs, Tryz.prog.globalNamed name = some g ∧ d = .agg (zs.map (D.i k)) ∧ zs ≠ [] ∧ Go.Lib.TabIs Tryz.prog W name k zs := by
  obtain ⟨ps, hv, _⟩ := (show laidMet Tryz.prog Rows.checkNamesRow.laid W from hL)
  exact ⟨name, k, qw9 d, hg, hd, (fun h => by rw [h] at h0; cases h0), qmf hg hty ht he hce hct hv hm⟩
theorem qDu {W : World} (hL : laidMetH Tryz.prog Rows.checkNamesRow.laid W) : GlOk maps (g0 W) W := by
  refine qsL (P := Tryz.prog) ?_ fun n x hn => ?_
  · intro n hn
    obtain ⟨ps, hv, _⟩ := (show laidMet Tryz.prog Rows.checkNamesRow.laid W from hL)
    have hn : n = 3 ∨ n = 4 := by simpa [maps] using hn
    rcases hn with rfl | rfl
    · exact qmY (name := "strconv.ErrSyntax") (t := 278) (by kernel_rfl) (by kernel_rfl) (by kernel_rfl) hv (.tail _ (.tail _ (.tail _ (.tail _ (.head _)))))
    · exact qmY (name := "strconv.ErrRange") (t := 278) (by kernel_rfl) (by kernel_rfl) (by kernel_rfl) hv (.tail _ (.tail _ (.tail _ (.head _))))
  have hm := qow hn
  simp only [maps, List.mem_cons, Prod.mk.injEq, List.not_mem_nil, or_false] at hm
  rcases hm with ⟨rfl, rfl⟩ | ⟨rfl, rfl⟩ | ⟨rfl, rfl⟩ | ⟨rfl, rfl⟩
  · exact qnv hL (name := "strings.asciiSpace") (k := .u8) (d := glD 0) (by kernel_rfl) (by kernel_rfl) Tryz.underlying219 Tryz.underlying5 (by kernel_rfl) (by kernel_rfl) (.tail _ (.tail _ (.tail _ (.tail _ (.tail _ (.tail _ (.head _))))))) rfl rfl
  · exact qnv hL (name := "internal/strconv.uint64pow10") (k := .u64) (d := glD 5) (by kernel_rfl) (by kernel_rfl) Tryz.underlying358 Tryz.underlying276 (by kernel_rfl) (by kernel_rfl) (.tail _ (.tail _ (.head _))) rfl rfl
  · exact qnv hL (name := "math/bits.deBruijn32tab") (k := .u8) (d := glD 6) (by kernel_rfl) (by kernel_rfl) Tryz.underlying362 Tryz.underlying5 (by kernel_rfl) (by kernel_rfl) (.head _) rfl rfl
  · exact qnv hL (name := "math/bits.deBruijn64tab") (k := .u8) (d := glD 7) (by kernel_rfl) (by kernel_rfl) Tryz.underlying363 Tryz.underlying5 (by kernel_rfl) (by kernel_rfl) (.tail _ (.head _)) rfl rfl
theorem contract (H : Type) (enc : TypeId × Value → H) (w0 : World) (base : Nat) (args : Array Value) (ds gs : List (DataW H)) (before : List MemPlace)
    (hval : ∀ (j : Nat) t v, Tryz.f6.params[j]? = some t → args[j]? = some v → Value.okWide Tryz.prog w0 .any base t v)
    (hW : DataW.Whole enc Tryz.prog Tryz.f6.params.toList Rows.checkNamesSpec.vars false w0 args.toList ds gs before) (hL : laidMetH Tryz.prog Rows.checkNamesRow.laid w0) :
    Calls Tryz.prog 6 args w0 fun e W' => ∃ v, e = .returned v ∧ Rows.checkNamesSpec.post enc Tryz.prog Tryz.f6 false true false false w0 args v W' := by
  have hW' := hW
  obtain ⟨p, q, hA, hV, _⟩ := hW
  have hs : Rows.checkNamesSpec.fn H ds = { results := [.lit (.bool true)], args := ds } := by
    have hA : DataW.TrodAll enc Tryz.prog w0 0 (fun _ => true) true Tryz.f6.params.toList args.toList ds p := hA
    rw [Tryz.params6] at hA
    obtain ⟨v0, vs0, d0, ds0, p0, q0, _, rfl, _, _, r0⟩ := trodAll_cons hA
    obtain ⟨v1, vs1, d1, ds1, p1, q1, _, rfl, _, _, r1⟩ := trodAll_cons r0
    obtain ⟨v2, vs2, d2, ds2, p2, q2, _, rfl, _, _, r2⟩ := trodAll_cons r1
    obtain ⟨v3, vs3, d3, ds3, p3, q3, _, rfl, _, _, r3⟩ := trodAll_cons r2
    obtain ⟨v4, vs4, d4, ds4, p4, q4, _, rfl, _, _, r4⟩ := trodAll_cons r3
    obtain ⟨_, rfl, _⟩ := trodAll_nil r4
    rfl
  refine qmH (M := maps) (pg := W.pgK) (i := 6) (ts := [5]) (tb := 4) (b := base) (r := .any) (qDu hL) (by kernel_rfl) qDt qxk qqW (by kernel_rfl) (by decide)
    (by kernel_rfl) (by rw [Tryz.params6]; decide) qwN hval rfl hW' hs (by kernel_rfl) Tryz.underlying4 (by kernel_rfl) (by rw [Tryz.params6]; decide +kernel) ?_
  intro xs hxs _
  rw [Tryz.params6] at hxs
  cases hxs with
  | cons h0 hxs =>
    cases hxs with
    | cons h1 hxs =>
      cases hxs with
      | cons h2 hxs =>
        cases hxs with
        | cons h3 hxs =>
          cases hxs with
          | cons h4 hxs =>
            cases hxs
            obtain ⟨a, rfl, ha⟩ := qi5 Tryz.underlying5 h0
            obtain ⟨b, rfl, hb⟩ := qi5 Tryz.underlying5 h1
            obtain ⟨c, rfl, hc⟩ := qi5 Tryz.underlying5 h2
            obtain ⟨d, rfl, hd⟩ := qi5 Tryz.underlying5 h3
            obtain ⟨e, rfl, he⟩ := qi5 Tryz.underlying5 h4
            simp [Lit.wf, IntKind.min, IntKind.max, IntKind.bits, IntKind.signed] at ha hb hc hd he
            obtain ⟨a, rfl⟩ := Int.eq_ofNat_of_zero_le ha.1
            obtain ⟨b, rfl⟩ := Int.eq_ofNat_of_zero_le hb.1
            obtain ⟨c, rfl⟩ := Int.eq_ofNat_of_zero_le hc.1
            obtain ⟨d, rfl⟩ := Int.eq_ofNat_of_zero_le hd.1
            obtain ⟨e, rfl⟩ := Int.eq_ofNat_of_zero_le he.1
            obtain ⟨lo, hr⟩ := qsY (a := a) (b := b) (c := c) (d := d) (e := e)
            obtain ⟨n, hn⟩ := qcy.1 hr
            exact ⟨n, _, hn, rfl, rfl⟩
noncomputable def qjd (os : Os) : World := World.laidAll Tryz.prog os Rows.checkNamesRow.laid
theorem qvm (os : Os) : laidMetH Tryz.prog Rows.checkNamesRow.laid ((qjd os).forCall (fun _ _ => 0) ⟨#[], #[.int .u8 0, .int .u8 0, .int .u8 0, .int .u8 0, .int .u8 0], []⟩).memory :=
  laidMet_laidAll (P := Tryz.prog) (os := os) (laid := Rows.checkNamesRow.laid) #[.int .u8 0, .int .u8 0, .int .u8 0, .int .u8 0, .int .u8 0] (by kernel_rfl) (by kernel_rfl)
theorem reads (os : Os) {H : Type} (enc : TypeId × Value → H) : ∃ places, DataW.whole enc Tryz.prog ((qjd os).forCall (fun _ _ => 0) ⟨#[], #[.int .u8 0, .int .u8 0, .int .u8 0, .int .u8 0, .int .u8 0], []⟩).memory Tryz.f6.params.toList Rows.checkNamesSpec.vars false #[Value.int .u8 0, .int .u8 0, .int .u8 0, .int .u8 0, .int .u8 0].toList 8 = some ([.lit (.int .u8 0), .lit (.int .u8 0), .lit (.int .u8 0), .lit (.int .u8 0), .lit (.int .u8 0)], [], places) :=
  ⟨[], by kernel_rfl⟩
theorem lifted (os : Os) (started : os.Started) (H : Type) (enc : TypeId × Value → H) (F : Stop.Interp) :
    ReturnsInHanded {} Tryz.checked os 6 .any ((OpenSpec.ofChange Rows.checkNamesSpec).preRow enc Tryz.prog Tryz.f6 Rows.checkNamesRow.domain false Rows.checkNamesRow.laid) (((OpenSpec.ofChange Rows.checkNamesSpec).at F).post enc Tryz.prog Tryz.f6 false true false false) := by
  obtain ⟨places, hx⟩ := reads os enc
  refine returnsInHanded_of_row (C := Tryz.checked) (s := OpenSpec.ofChange Rows.checkNamesSpec) own started (by kernel_rfl) Tryz.func6
    (witness_row_atRef (enc := enc) (C := Tryz.checked) false (qjd os) #[.int .u8 0, .int .u8 0, .int .u8 0, .int .u8 0, .int .u8 0] (World.laidAll_os _ _ _) (by kernel_rfl) (by kernel_rfl) (by kernel_rfl)
      (OpenSpec.preRow_of_cond 8 hx (by kernel_rfl) (fun k hk => by cases hk) (by kernel_rfl) (qvm os))) ?_
  intro W base args ds gs before hval hW _ _ _ hL _ _
  exact contract H enc W base args ds gs before hval hW hL
theorem jf1 : laidOutB Tryz.prog = true := by kernel_rfl
theorem jf2 : mapsRowed Tryz.prog = true := by kernel_rfl
theorem jf3 : (Rows.checkNamesRow.inPlace == Tryz.prog.inPlace 6) = true := by kernel_rfl
theorem jf4 : (Rows.checkNamesRow.unfollowed == Tryz.prog.unfollowed 6) = true := by kernel_rfl
theorem jf5 : (Rows.checkNamesRow.recurses == Tryz.prog.recurses 6) = true := by kernel_rfl
theorem jf6 : (Rows.checkNamesRow.named == Tryz.prog.varsNamed 6) = true := by kernel_rfl
theorem jf7 : (Rows.checkNamesRow.plainKeys == Tryz.prog.plainKeys) = true := by kernel_rfl
theorem jf8 : Tryz.prog.stopsHeard = true := by kernel_rfl
theorem jf9 : Tryz.prog.mayEnter = true := by kernel_rfl
theorem qEf : (Rows.checkNamesRow.lifted == Tryz.prog.liftsFinal) = true := by kernel_rfl
theorem qDJ : (Tryz.prog.make == some Rows.checkNamesRow.make) = true := by kernel_rfl
theorem closed : joinedFacts Tryz.prog 6 Tryz.f6 (OpenSpec.ofChange Rows.checkNamesSpec).bare Rows.checkNamesRow = true := by
  simp only [joinedFacts, Bool.and_eq_true]
  repeat' (apply And.intro)
  all_goals first | (with_reducible exact jf1) | (with_reducible exact jf2) | (with_reducible exact jf3) | (with_reducible exact jf4) | (with_reducible exact jf5) | (with_reducible exact jf6) | (with_reducible exact jf7) | (with_reducible exact jf8) | (with_reducible exact jf9) | (with_reducible exact qEf) | (with_reducible exact qDJ) | kernel_rfl
theorem said : Rows.CheckNamesSaid :=
  OpenClaim.holds_of_cond 6 Tryz.f6 rfl rfl rfl rfl rfl rfl rfl ⟨rfl, rfl, rfl, rfl, rfl⟩ rfl rfl rfl rfl rfl (by kernel_rfl) Tryz.func6 closed
    (of_decide_eq_true (by kernel_rfl)) (by unfold Func.isWrapper; first | (rw [if_pos (by decide +kernel)]; kernel_rfl) | (rw [if_neg (by decide +kernel)]; exact ⟨rfl, rfl⟩))
    (fun os started H enc _ F => by rw [OpenClaim.pre_eq_preRow]; exact lifted os started H enc F)
theorem plain (f : FuncId) (fn : Func) (hf : Tryz.pinned.checked.prog.funcNamed "wafer/waferlaw17.CheckNames" = some f) (hfn : Tryz.pinned.checked.prog.funcs[f]? = some fn) :
    true = Tryz.pinned.checked.prog.looks [] ∧ ∀ (j : Nat) t, fn.params[j]? = some t → Tryz.pinned.checked.prog.wantsStandIn t = false := by
  obtain rfl : f = 6 := Option.some.inj ((show Tryz.prog.funcNamed "wafer/waferlaw17.CheckNames" = some 6 by kernel_rfl).symm.trans hf) |>.symm
  obtain rfl : fn = Tryz.f6 := (Option.some.inj (Tryz.func6.symm.trans hfn)).symm
  refine ⟨by kernel_rfl, fun j t ht => ?_⟩
  rw [Tryz.params6] at ht
  obtain rfl : t = 5 := by simpa using Array.mem_of_getElem? ht
  exact (show Tryz.prog.wantsStandIn 5 = false by kernel_rfl)
theorem checkNames_holds : Rows.CheckNamesCardSaid :=
  Claim7.holds_tied_plain_at .later [] _ _ _ _ said (fun _ h => by cases h) (by kernel_rfl) (fun _ h => by cases h) checkNames_row_tie rfl ⟨rfl, rfl⟩ (by kernel_rfl) rfl plain (by kernel_rfl)
end Go.Proofs.YtdgbjjpdepdmmaaGreatDoor
