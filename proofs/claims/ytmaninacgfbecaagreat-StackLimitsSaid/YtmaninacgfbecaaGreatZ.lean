/- StackLimits: what code refuses to be made: of expressions that need too many registers, of too many words, of too great a heap. -/
import Derived.Test.YtmaninacgfbecaaGreatW24
set_option linter.unusedVariables false
set_option linter.unusedSimpArgs false
namespace Go.Proofs.YtmaninacgfbecaaGreat
open Go.ChangeShapes Go.WideShapes Go.ChangeAt Go.RowKit W
set_option maxRecDepth 100000
theorem quz {g : Gh} {w : World} {vs : List V} {H : List W.Obj} {r : Cr} (h : ixX vs H = some r) {argv : List Value} (ha : ArgsRep maps g w 0 vs argv) (hH : RelH maps g w H) : qpd Tryz.prog 306 argv.toArray w (qB maps g w r) :=
  qwK Tryz.func306 (by decide +kernel) (by kernel_rfl) (by kernel_rfl) (by kernel_rfl) h ha hH
theorem qBy : Tab Tryz.prog maps W.pg := ⟨fun f' i hl fn' hf => tab.1 f' i hl fn' (by
  unfold W.pg at hf
  simp only [Bool.cond_eq_ite] at hf
  split at hf
  · cases hf
  · exact hf), tab.2⟩
theorem qCl : qE Tryz.prog maps W.pg.ext := by
  intro i vs H r h f' hl g w argv ha hH
  have e : f' = i := qlL hl
  subst e
  unfold W.pg at h
  simp only [Bool.cond_eq_ite] at h
  split at h
  · rename_i hb
    have e2 : f' = 306 := by simpa using hb
    subst e2
    exact quz h ha hH
  · cases h
theorem s1 (n : Nat) : qE Tryz.prog maps (jn W.pg n) := sound (by kernel_rfl) qBy qCl kS n
theorem qCs : Tab Tryz.prog maps W.pg2 := ⟨fun f' i hl fn' hf => qBy.1 f' i hl fn' (by
  unfold W.pg2 at hf
  simp only [Bool.cond_eq_ite] at hf
  split at hf
  · cases hf
  · split at hf
    · cases hf
    · exact hf), tab.2⟩
theorem qCd : qE Tryz.prog maps W.pg2.ext := by
  intro i vs H r h f' hl g w argv ha hH
  have e : f' = i := qlL hl
  subst e
  unfold W.pg2 at h
  simp only [Bool.cond_eq_ite] at h
  split at h
  · rename_i hb
    have e2 : f' = 306 := by simpa using hb
    subst e2
    exact quz h ha hH
  · exact qqf (fun e he => ⟨W.pg, s1, qwG e he⟩) _ _ _ _ h _ hl g w argv ha hH
theorem s2 (n : Nat) : qE Tryz.prog maps (jn W.pg2 n) := sound (by kernel_rfl) qCs qCd qeL n
theorem qCn : Tab Tryz.prog maps W.pgL := ⟨fun f' i hl fn' hf => tab.1 f' i hl fn' (by
  unfold W.pgL at hf
  simp only [Bool.cond_eq_ite] at hf
  split at hf
  · rename_i hb
    cases hf
    obtain rfl := Nat.eq_of_beq_eq_true hb
    rfl
  · cases hf), tab.2⟩
theorem qCr : qE Tryz.prog maps W.pgL.ext := qqf fun e he => (qAs e he).elim (fun h => ⟨_, s1, h⟩) (fun h => ⟨_, s2, h⟩)
theorem qCa (W : World) : GlOk maps (g0 W) W := ⟨fun n x h => (by cases h), fun n hn => absurd hn (by simp [maps])⟩
theorem contract (H : Type) (enc : TypeId × Value → H) (w0 : World) (base : Nat) (args : Array Value) (ds gs : List (DataW H)) (before : List MemPlace)
    (hval : ∀ (j : Nat) t v, Tryz.f4.params[j]? = some t → args[j]? = some v → Value.okWide Tryz.prog w0 .any base t v)
    (hW : DataW.Whole enc Tryz.prog Tryz.f4.params.toList Rows.stackLimitsSpec.vars false w0 args.toList ds gs before) :
    Calls Tryz.prog 4 args w0 fun e W' => ∃ v, e = .returned v ∧ Rows.stackLimitsSpec.post enc Tryz.prog Tryz.f4 false true false false w0 args v W' := by
  have hW' := hW
  obtain ⟨p, q, hA, hV, _⟩ := hW
  have hs : Rows.stackLimitsSpec.fn H ds = { results := [.lit (.bool true)], args := ds } := by
    have hA : DataW.TrodAll enc Tryz.prog w0 0 (fun _ => true) true Tryz.f4.params.toList args.toList ds p := hA
    rw [Tryz.params4] at hA
    obtain ⟨v0, vs0, d0, ds0, p0, q0, _, rfl, _, _, r0⟩ := trodAll_cons hA
    obtain ⟨v1, vs1, d1, ds1, p1, q1, _, rfl, _, _, r1⟩ := trodAll_cons r0
    obtain ⟨_, rfl, _⟩ := trodAll_nil r1
    rfl
  refine qoS (M := maps) (pg := W.pgL) (i := 4) (ts := [5]) (tb := 4) (b := base) (r := .any) (qCa _) (by kernel_rfl) qCn qCr qwe (by kernel_rfl) (by decide)
    (by kernel_rfl) (by rw [Tryz.params4]; decide) qwy hval rfl hW' hs (by kernel_rfl) Tryz.underlying4 (by kernel_rfl) (by rw [Tryz.params4]; decide +kernel) ?_
  intro xs hxs _
  rw [Tryz.params4] at hxs
  cases hxs with
  | cons h0 hxs =>
    cases hxs with
    | cons h1 hxs =>
      cases hxs
      obtain ⟨a, rfl, ha⟩ := qso Tryz.underlying5 h0
      obtain ⟨b, rfl, hb⟩ := qso Tryz.underlying5 h1
      simp [Lit.wf, IntKind.min, IntKind.max, IntKind.bits, IntKind.signed] at ha hb
      obtain ⟨a, rfl⟩ := Int.eq_ofNat_of_zero_le ha.1
      obtain ⟨b, rfl⟩ := Int.eq_ofNat_of_zero_le hb.1
      obtain ⟨lo, hr⟩ := qwi (n := a) (w := b)
      obtain ⟨n, hn⟩ := yC.1 hr
      exact ⟨n, _, hn, rfl, rfl⟩
theorem lifted (os : Os) (started : os.Started) (H : Type) (enc : TypeId × Value → H) :
    ReturnsInHanded {} Tryz.checked os 4 .any (Rows.stackLimitsSpec.pre6 enc Tryz.prog Tryz.f4 Rows.stackLimitsRow.domain false) (Rows.stackLimitsSpec.post enc Tryz.prog Tryz.f4 false true false false) := by
  refine returnsInHanded_of_change (C := Tryz.checked) own started (by kernel_rfl) Tryz.func4
    (ChangeSpec.witness6 (C := Tryz.checked) false ⟨#[], #[.int .u8 0, .int .u8 0], []⟩ 8 (by kernel_rfl) (by kernel_rfl) (by kernel_rfl) (by kernel_rfl)) ?_
  intro W base args ds gs before hval hW _ _
  exact contract H enc W base args ds gs before hval hW
theorem jf1 : laidOutB Tryz.prog = true := by kernel_rfl
theorem jf2 : mapsRowed Tryz.prog = true := by kernel_rfl
theorem jf3 : (Rows.stackLimitsRow.inPlace == Tryz.prog.inPlace 4) = true := by kernel_rfl
theorem jf4 : (Rows.stackLimitsRow.unfollowed == Tryz.prog.unfollowed 4) = true := by kernel_rfl
theorem jf5 : (Rows.stackLimitsRow.recurses == Tryz.prog.recurses 4) = true := by kernel_rfl
theorem jf6 : (Rows.stackLimitsRow.named == Tryz.prog.varsNamed 4) = true := by kernel_rfl
theorem jf7 : (Rows.stackLimitsRow.plainKeys == Tryz.prog.plainKeys) = true := by kernel_rfl
theorem jf8 : Tryz.prog.stopsHeard = true := by kernel_rfl
theorem jf9 : Tryz.prog.mayEnter = true := by kernel_rfl
theorem qCx : (Rows.stackLimitsRow.lifted == Tryz.prog.liftsFinal) = true := by kernel_rfl
theorem qCq : (Tryz.prog.make == some Rows.stackLimitsRow.make) = true := by kernel_rfl
theorem closed : joinedFacts Tryz.prog 4 Tryz.f4 (OpenSpec.ofChange Rows.stackLimitsSpec).bare Rows.stackLimitsRow = true := by
  simp only [joinedFacts, Bool.and_eq_true]
  repeat' (apply And.intro)
  all_goals first | (with_reducible exact jf1) | (with_reducible exact jf2) | (with_reducible exact jf3) | (with_reducible exact jf4) | (with_reducible exact jf5) | (with_reducible exact jf6) | (with_reducible exact jf7) | (with_reducible exact jf8) | (with_reducible exact jf9) | (with_reducible exact qCx) | (with_reducible exact qCq) | kernel_rfl
theorem stackLimits_holds : Rows.StackLimitsSaid :=
  OpenClaim.holds_of_wide 4 Tryz.f4 rfl rfl rfl rfl rfl rfl rfl ⟨rfl, rfl, rfl, rfl, rfl⟩ rfl rfl rfl rfl rfl (by kernel_rfl) Tryz.func4 closed
    (of_decide_eq_true (by kernel_rfl)) (by unfold Func.isWrapper; first | (rw [if_pos (by decide +kernel)]; kernel_rfl) | (rw [if_neg (by decide +kernel)]; exact ⟨rfl, rfl⟩))
    (fun os started H enc _ => lifted os started H enc)
end Go.Proofs.YtmaninacgfbecaaGreat
