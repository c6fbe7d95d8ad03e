/- CheckLits: which constants are right, of any type. -/
import Derived.Test.YtdgbjjpdepdmmaaGreatDoorW7
set_option linter.unusedVariables false
set_option linter.unusedSimpArgs false
namespace Go.Proofs.YtdgbjjpdepdmmaaGreatDoor
open Go.ChangeShapes Go.WideShapes Go.ChangeAt Go.RowKit W
set_option maxRecDepth 100000
def qw5 : D → List Int
  | .agg l => l.map fun d => match d with | .i _ n => n | _ => 0
  | _ => []
theorem qpl {α : Type} {n : Nat} {x : α} : ∀ {l : List (Nat × α)}, W.look l n = some x → (n, x) ∈ l
  | [], h => by cases h
  | (m, y) :: l, h => by
    simp only [W.look, Bool.cond_eq_ite] at h
    split at h
    · rename_i hb
      cases h
      have := Nat.eq_of_beq_eq_true hb
      subst this
      exact .head _
    · exact .tail _ (qpl h)
theorem qnM {W : World} (hL : laidMetH Tryz.prog Rows.checkLitsRow.laid W) {name : String} {k : IntKind} {d : D} {g : Nat} {t e : TypeId} {n : Nat}
    (hg : Tryz.prog.globalNamed name = some g) (hty : (Tryz.prog.globals[g]?).map (·.type) = some t) (ht : Tryz.prog.underlying t = some (.array n e)) (he : Tryz.prog.underlying e = some (.int k)) (hce : Tryz.prog.cellsOf e = 1) (hct : Tryz.prog.cellsOf t = n)
    (hm : (name, Go.Lib.tabData k (qw5 d)) ∈ Rows.checkLitsRow.laid) (hd : d = .agg ((qw5 d).map (D.i k))) (h0 : (qw5 d).isEmpty = false) :
    ∃ name k zs, Tryz.prog.globalNamed name = some g ∧ d = .agg (zs.map (D.i k)) ∧ zs ≠ [] ∧ Go.Lib.TabIs Tryz.prog W name k zs := by
  obtain ⟨ps, hv, _⟩ := (show laidMet Tryz.prog Rows.checkLitsRow.laid W from hL)
  exact ⟨name, k, qw5 d, hg, hd, (fun h => by rw [h] at h0; cases h0), qmG hg hty ht he hce hct hv hm⟩
theorem qC6 {W : World} (hL : laidMetH Tryz.prog Rows.checkLitsRow.laid W) : GlOk maps (g0 W) W := by
  refine qtq (P := Tryz.prog) ?_ fun n x hn => ?_
  · intro n hn
    obtain ⟨ps, hv, _⟩ := (show laidMet Tryz.prog Rows.checkLitsRow.laid W from hL)
    have hn : n = 3 ∨ n = 4 := by simpa [maps] using hn
    rcases hn with rfl | rfl
    · exact qm9 (name := "strconv.ErrSyntax") (t := 278) (by kernel_rfl) (by kernel_rfl) (by kernel_rfl) hv (.tail _ (.tail _ (.tail _ (.tail _ (.head _)))))
    · exact qm9 (name := "strconv.ErrRange") (t := 278) (by kernel_rfl) (by kernel_rfl) (by kernel_rfl) hv (.tail _ (.tail _ (.tail _ (.head _))))
  have hm := qpl hn
  simp only [maps, List.mem_cons, Prod.mk.injEq, List.not_mem_nil, or_false] at hm
  rcases hm with ⟨rfl, rfl⟩ | ⟨rfl, rfl⟩ | ⟨rfl, rfl⟩ | ⟨rfl, rfl⟩
  · exact qnM hL (name := "strings.asciiSpace") (k := .u8) (d := glD 0) (by kernel_rfl) (by kernel_rfl) Tryz.underlying219 Tryz.underlying5 (by kernel_rfl) (by kernel_rfl) (.tail _ (.tail _ (.tail _ (.tail _ (.tail _ (.tail _ (.head _))))))) rfl rfl
  · exact qnM hL (name := "internal/strconv.uint64pow10") (k := .u64) (d := glD 5) (by kernel_rfl) (by kernel_rfl) Tryz.underlying358 Tryz.underlying276 (by kernel_rfl) (by kernel_rfl) (.tail _ (.tail _ (.head _))) rfl rfl
  · exact qnM hL (name := "math/bits.deBruijn32tab") (k := .u8) (d := glD 6) (by kernel_rfl) (by kernel_rfl) Tryz.underlying362 Tryz.underlying5 (by kernel_rfl) (by kernel_rfl) (.head _) rfl rfl
  · exact qnM hL (name := "math/bits.deBruijn64tab") (k := .u8) (d := glD 7) (by kernel_rfl) (by kernel_rfl) Tryz.underlying363 Tryz.underlying5 (by kernel_rfl) (by kernel_rfl) (.tail _ (.head _)) rfl rfl
theorem qgB : ∀ (k n : Nat) {xs : List D}, Ty Tryz.prog n 48 xs → ∃ f m nm o, xs = [.i .i64 f, .i .i64 m, .s nm, o] ∧ TyA k (.agg xs) ∧ (o = .nil ∨ ∃ l, o = .sl l)
  | k, 0, xs, h => h.elim
  | k, n + 1, xs, h => by
    simp only [Ty, Tryz.underlying48] at h
    obtain ⟨yss, rfl, hl, hq⟩ := h
    match yss, hl, hq with
    | [q0, q1, q2, q3], _, hq =>
      have h0 := hq 0 _ q0 rfl rfl
      have h1 := hq 1 _ q1 rfl rfl
      have h2 := hq 2 _ q2 rfl rfl
      have h3 := hq 3 _ q3 rfl rfl
      cases n with
      | zero => exact h0.elim
      | succ n =>
        simp only [Ty, Tryz.underlying3, Tryz.underlying9, Tryz.underlying46] at h0 h1 h2 h3
        obtain ⟨a, rfl, _⟩ := h0
        obtain ⟨b, rfl, _⟩ := h1
        obtain ⟨s, rfl, _, _⟩ := h2
        rcases h3 with rfl | ⟨zss, rfl, _, hz⟩
        · refine ⟨a, b, s, .nil, rfl, ?_, .inl rfl⟩
          cases k with
          | zero => exact ⟨a, b, s, .nil, rfl, rfl⟩
          | succ k => exact ⟨a, b, s, .inl rfl⟩
        · refine ⟨a, b, s, .sl _, rfl, ?_, .inr ⟨_, rfl⟩⟩
          cases k with
          | zero => exact ⟨a, b, s, _, rfl, rfl⟩
          | succ k =>
            refine ⟨a, b, s, .inr ⟨_, rfl, trivial, fun y hy => ?_⟩⟩
            obtain ⟨q, hq', rfl⟩ := List.mem_map.1 hy
            obtain ⟨f, m, nm, o, rfl, ht, _⟩ := qgB k n (hz q hq')
            have e : qdN Tryz.prog 48 = true := by simp [qdN, Tryz.underlying48]
            rw [e]
            exact ht
theorem quE {x : D} (h : Arg Tryz.prog 51 x) : ∃ op f n i1 nm s1 o xx, x = .agg [.i .i64 op, .i .i64 f, .i .i64 n, .s nm, o, .i .i32 i1, .s s1, xx] ∧ TyA 8 (.agg [.i .i64 f, .i .i64 n, .s nm, o]) ∧ (o = .nil ∨ ∃ l, o = .sl l) ∧ (xx = .nil ∨ ∃ l, xx = .sl l) ∧ ∀ c ∈ s1, c < 256 := by
  obtain ⟨n, xs, ht, rfl⟩ := h
  cases n with
  | zero => exact ht.elim
  | succ n =>
    simp only [Ty, Tryz.underlying51] at ht
    obtain ⟨yss, rfl, hl, hq⟩ := ht
    match yss, hl, hq with
    | [q0, q1, q2, q3, q4], _, hq =>
      have h0 := hq 0 _ q0 rfl rfl
      have h1 := hq 1 _ q1 rfl rfl
      have h2 := hq 2 _ q2 rfl rfl
      have h3 := hq 3 _ q3 rfl rfl
      have h4 := hq 4 _ q4 rfl rfl
      obtain ⟨f, m, nm, o, rfl, hT, ho⟩ := qgB 8 n h1
      cases n with
      | zero => exact h0.elim
      | succ n =>
        simp only [Ty, Tryz.underlying3, Tryz.underlying9, Tryz.underlying21, Tryz.underlying49] at h0 h2 h3 h4
        obtain ⟨a, rfl, _⟩ := h0
        obtain ⟨b, rfl, _⟩ := h2
        obtain ⟨s, rfl, _, hc⟩ := h3
        have e : qdN Tryz.prog 51 = true := by simp [qdN, Tryz.underlying51]
        rw [e]
        rcases h4 with rfl | ⟨zss, rfl, _, hz⟩
        · exact ⟨a, f, m, b, nm, s, o, .nil, rfl, hT, ho, .inl rfl, hc⟩
        · exact ⟨a, f, m, b, nm, s, o, _, rfl, hT, ho, .inr ⟨_, rfl⟩, hc⟩
theorem contract (H : Type) (enc : TypeId × Value → H) (w0 : World) (base : Nat) (args : Array Value) (ds gs : List (DataW H)) (before : List MemPlace)
    (hval : ∀ (j : Nat) t v, Tryz.f5.params[j]? = some t → args[j]? = some v → Value.okWide Tryz.prog w0 .any base t v)
    (hW : DataW.Whole enc Tryz.prog Tryz.f5.params.toList Rows.checkLitsSpec.vars false w0 args.toList ds gs before) (hL : laidMetH Tryz.prog Rows.checkLitsRow.laid w0) :
    Calls Tryz.prog 5 args w0 fun e W' => ∃ v, e = .returned v ∧ Rows.checkLitsSpec.post enc Tryz.prog Tryz.f5 false true false false w0 args v W' := by
  have hW' := hW
  obtain ⟨p, q, hA, hV, _⟩ := hW
  have hs : Rows.checkLitsSpec.fn H ds = { results := [.lit (.bool true)], args := ds } := by
    have hA : DataW.TrodAll enc Tryz.prog w0 0 (fun _ => true) true Tryz.f5.params.toList args.toList ds p := hA
    rw [Tryz.params5] at hA
    obtain ⟨v0, vs0, d0, ds0, p0, q0, _, rfl, _, _, r0⟩ := trodAll_cons hA
    obtain ⟨v1, vs1, d1, ds1, p1, q1, _, rfl, _, _, r1⟩ := trodAll_cons r0
    obtain ⟨v2, vs2, d2, ds2, p2, q2, _, rfl, _, _, r2⟩ := trodAll_cons r1
    obtain ⟨v3, vs3, d3, ds3, p3, q3, _, rfl, _, _, r3⟩ := trodAll_cons r2
    obtain ⟨_, rfl, _⟩ := trodAll_nil r3
    rfl
  refine qn9 (M := maps) (pg := W.pgK) (i := 5) (ts := [51, 3, 48, 9, 46, 21, 49, 5]) (tb := 4) (b := base) (r := .any) (qC6 hL) (by kernel_rfl) qC5 qxm qrR (by kernel_rfl) (by decide)
    (by kernel_rfl) (by rw [Tryz.params5]; decide) qxM hval rfl hW' hs (by kernel_rfl) Tryz.underlying4 (by kernel_rfl) (by rw [Tryz.params5]; decide +kernel) ?_
  intro xs hxs _
  rw [Tryz.params5] at hxs
  cases hxs with
  | cons h0 hxs =>
    cases hxs with
    | cons h1 hxs =>
      cases hxs with
      | cons h2 hxs =>
        cases hxs with
        | cons h3 hxs =>
          cases hxs
          obtain ⟨op, f, n, i1, nm, s1, o, xx, rfl, hT, ho, hx, hc1⟩ := quE h0
          obtain ⟨z, rfl, _⟩ := qry Tryz.underlying5 h1
          obtain ⟨i, rfl, _⟩ := qry Tryz.underlying21 h2
          obtain ⟨s, rfl, _, hc⟩ := qxQ Tryz.underlying9 h3
          obtain ⟨lo, hr⟩ := qwg (op := op) (i1 := i1) (i := i) (z := z) hT ho hx hc1 hc
          obtain ⟨n, hn⟩ := qdr.1 hr
          exact ⟨n, _, hn, rfl, rfl⟩
noncomputable def qjP (os : Os) : World := World.laidAll Tryz.prog os Rows.checkLitsRow.laid
theorem quU (os : Os) : laidMetH Tryz.prog Rows.checkLitsRow.laid ((qjP os).forCall (fun _ _ => 0) ⟨#[], #[.agg #[.int .i64 0, .int .i64 0, .int .i64 0, .string ⟨#[]⟩, .slice none 0 0, .int .i32 0, .string ⟨#[]⟩, .slice none 0 0], .int .u8 0, .int .i32 0, .string ⟨#[]⟩], []⟩).memory :=
  laidMet_laidAll (P := Tryz.prog) (os := os) (laid := Rows.checkLitsRow.laid) #[.agg #[.int .i64 0, .int .i64 0, .int .i64 0, .string ⟨#[]⟩, .slice none 0 0, .int .i32 0, .string ⟨#[]⟩, .slice none 0 0], .int .u8 0, .int .i32 0, .string ⟨#[]⟩] (by kernel_rfl) (by kernel_rfl)
theorem reads (os : Os) {H : Type} (enc : TypeId × Value → H) : ∃ places, DataW.whole enc Tryz.prog ((qjP os).forCall (fun _ _ => 0) ⟨#[], #[.agg #[.int .i64 0, .int .i64 0, .int .i64 0, .string ⟨#[]⟩, .slice none 0 0, .int .i32 0, .string ⟨#[]⟩, .slice none 0 0], .int .u8 0, .int .i32 0, .string ⟨#[]⟩], []⟩).memory Tryz.f5.params.toList Rows.checkLitsSpec.vars false #[Value.agg #[.int .i64 0, .int .i64 0, .int .i64 0, .string ⟨#[]⟩, .slice none 0 0, .int .i32 0, .string ⟨#[]⟩, .slice none 0 0], .int .u8 0, .int .i32 0, .string ⟨#[]⟩].toList 8 = some ([.agg [.lit (.int .i64 0), .agg [.lit (.int .i64 0), .lit (.int .i64 0), .lit (.string []), .nil], .lit (.int .i32 0), .lit (.string []), .nil], .lit (.int .u8 0), .lit (.int .i32 0), .lit (.string [])], [], places) :=
  ⟨[], by kernel_rfl⟩
theorem lifted (os : Os) (started : os.Started) (H : Type) (enc : TypeId × Value → H) (F : Stop.Interp) :
    ReturnsInHanded {} Tryz.checked os 5 .any ((OpenSpec.ofChange Rows.checkLitsSpec).preRow enc Tryz.prog Tryz.f5 Rows.checkLitsRow.domain false Rows.checkLitsRow.laid) (((OpenSpec.ofChange Rows.checkLitsSpec).at F).post enc Tryz.prog Tryz.f5 false true false false) := by
  obtain ⟨places, hx⟩ := reads os enc
  refine returnsInHanded_of_row (C := Tryz.checked) (s := OpenSpec.ofChange Rows.checkLitsSpec) own started (by kernel_rfl) Tryz.func5
    (witness_row_atRef (enc := enc) (C := Tryz.checked) false (qjP os) #[.agg #[.int .i64 0, .int .i64 0, .int .i64 0, .string ⟨#[]⟩, .slice none 0 0, .int .i32 0, .string ⟨#[]⟩, .slice none 0 0], .int .u8 0, .int .i32 0, .string ⟨#[]⟩] (World.laidAll_os _ _ _) (by kernel_rfl) (by kernel_rfl) (by kernel_rfl)
      (OpenSpec.preRow_of_cond 8 hx (by kernel_rfl) (fun k hk => by cases hk) (by kernel_rfl) (quU os))) ?_
  intro W base args ds gs before hval hW _ _ _ hL _ _
  exact contract H enc W base args ds gs before hval hW hL
theorem jf1 : laidOutB Tryz.prog = true := by kernel_rfl
theorem jf2 : mapsRowed Tryz.prog = true := by kernel_rfl
theorem jf3 : (Rows.checkLitsRow.inPlace == Tryz.prog.inPlace 5) = true := by kernel_rfl
theorem jf4 : (Rows.checkLitsRow.unfollowed == Tryz.prog.unfollowed 5) = true := by kernel_rfl
theorem jf5 : (Rows.checkLitsRow.recurses == Tryz.prog.recurses 5) = true := by kernel_rfl
theorem jf6 : (Rows.checkLitsRow.named == Tryz.prog.varsNamed 5) = true := by kernel_rfl
theorem jf7 : (Rows.checkLitsRow.plainKeys == Tryz.prog.plainKeys) = true := by kernel_rfl
theorem jf8 : Tryz.prog.stopsHeard = true := by kernel_rfl
theorem jf9 : Tryz.prog.mayEnter = true := by kernel_rfl
theorem qDm : (Rows.checkLitsRow.lifted == Tryz.prog.liftsFinal) = true := by kernel_rfl
theorem qDc : (Tryz.prog.make == some Rows.checkLitsRow.make) = true := by kernel_rfl
theorem closed : joinedFacts Tryz.prog 5 Tryz.f5 (OpenSpec.ofChange Rows.checkLitsSpec).bare Rows.checkLitsRow = true := by
  simp only [joinedFacts, Bool.and_eq_true]
  repeat' (apply And.intro)
  all_goals first | (with_reducible exact jf1) | (with_reducible exact jf2) | (with_reducible exact jf3) | (with_reducible exact jf4) | (with_reducible exact jf5) | (with_reducible exact jf6) | (with_reducible exact jf7) | (with_reducible exact jf8) | (with_reducible exact jf9) | (with_reducible exact qDm) | (with_reducible exact qDc) | kernel_rfl
theorem said : Rows.CheckLitsSaid :=
  OpenClaim.holds_of_cond 5 Tryz.f5 rfl rfl rfl rfl rfl rfl rfl ⟨rfl, rfl, rfl, rfl, rfl⟩ rfl rfl rfl rfl rfl (by kernel_rfl) Tryz.func5 closed
    (of_decide_eq_true (by kernel_rfl)) (by unfold Func.isWrapper; first | (rw [if_pos (by decide +kernel)]; kernel_rfl) | (rw [if_neg (by decide +kernel)]; exact ⟨rfl, rfl⟩))
    (fun os started H enc _ F => by rw [OpenClaim.pre_eq_preRow]; exact lifted os started H enc F)
theorem plain (f : FuncId) (fn : Func) (hf : Tryz.pinned.checked.prog.funcNamed "wafer/waferlaw17.CheckLits" = some f) (hfn : Tryz.pinned.checked.prog.funcs[f]? = some fn) :
    true = Tryz.pinned.checked.prog.looks [] ∧ ∀ (j : Nat) t, fn.params[j]? = some t → Tryz.pinned.checked.prog.wantsStandIn t = false := by
  obtain rfl : f = 5 := Option.some.inj ((show Tryz.prog.funcNamed "wafer/waferlaw17.CheckLits" = some 5 by kernel_rfl).symm.trans hf) |>.symm
  obtain rfl : fn = Tryz.f5 := (Option.some.inj (Tryz.func5.symm.trans hfn)).symm
  refine ⟨by kernel_rfl, fun j t ht => ?_⟩
  rw [Tryz.params5] at ht
  have ht := Array.mem_of_getElem? ht
  simp only [List.mem_toArray, List.mem_cons, List.not_mem_nil, or_false] at ht
  rcases ht with rfl | rfl | rfl | rfl
  · exact (show Tryz.prog.wantsStandIn 51 = false by kernel_rfl)
  · exact (show Tryz.prog.wantsStandIn 5 = false by kernel_rfl)
  · exact (show Tryz.prog.wantsStandIn 21 = false by kernel_rfl)
  · exact (show Tryz.prog.wantsStandIn 9 = false by kernel_rfl)
theorem checkLits_holds : Rows.CheckLitsCardSaid :=
  Claim7.holds_tied_plain_at .later [] _ _ _ _ said (fun _ h => by cases h) (by kernel_rfl) (fun _ h => by cases h) checkLits_row_tie rfl ⟨rfl, rfl⟩ (by kernel_rfl) rfl plain (by kernel_rfl)
end Go.Proofs.YtdgbjjpdepdmmaaGreatDoor
