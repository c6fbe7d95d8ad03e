/-
  RiscInstrs: any instruction is the document's word, and read back, or refused, and how it is told: part 4 of what the proof rests on (a value semantics for a part of the language, sound against the model; the walks).
-/
import Derived.Below
import Derived.Lib.Join
import Derived.Test.YteejlnlcjmaibaaDoorW3
/-
  Every operation.
-/
set_option linter.unusedSimpArgs false
set_option linter.unusedVariables false
namespace W
open Go (World Value Addr IntKind Program TypeId FuncId Operand Act Oper Next Result Sem BinOp UnOp Ending Exit)

section
variable {P : Program} {M : Maps} {g : Gh} {w : World} {β : Nat → Nat} {st : St} {o : Oper} {a : Act} {call : Call}

/-- What an operation's model leaves to do. -/
structure Ends (P : Program) (M : Maps) (g : Gh) (w : World) (o : Oper) (a : Act) (r : Or) (K : Act → World → Prop) (Q : Exit → Act → World → Prop) : Prop where
  k : r.pan = false → ∀ c w' g' β', Rel M g' w' β' (put o.dst r.v r.st) (a.put o.dst c).tmps → Evo g w g' w' → K (a.put o.dst c) w'
  q : r.pan = true → ∀ cv w' g', RelH M g' w' r.st.H → Evo g w g' w' → RepA M g' w' 0 r.v cv → Q (.panic [{ v := cv, recovered := false }]) a w'

theorem Left1.wp {r : Or} {K : Act → World → Prop} {Q : Exit → Act → World → Prop} (h : Left1 P M g w o a r) (hp : r.pan = false) (he : Ends P M g w o a r K Q) : o.wp P a w K Q := by
  obtain ⟨c, w', g', β', hy, hR, hE⟩ := h
  exact hy.wp (he.k hp c w' g' β' hR hE)

theorem sim_panic (hR : Rel M g w β st a.tmps) {x : Operand} {x' : O} (hx : opnd M false x = some x') (ho : o.op = .panic x) {r : Or} (hr : ePanic x' st = some r) {K : Act → World → Prop} {Q : Exit → Act → World → Prop}
    (he : Ends P M g w o a r K Q) : o.wp P a w K Q := by
  have h1 := rd_rep hR hx
  unfold ePanic at hr
  split at hr
  · rename_i t y hv
    simp only [Option.some.injEq] at hr
    subst hr
    rw [hv] at h1
    generalize hc : a.eval x = c at h1
    cases h1 with
    | s h1 =>
      have h2 := h1
      cases h1 with
      | ifc _ t' _ cv ht hcv =>
        have hrun : (Go.execOp a.eval o).run P w = .halt (.panic (.iface t' cv)) w := by
          simp only [Go.execOp, ho, hc, Go.Instr.panic, Sem.run_bind]
          rfl
        unfold Oper.wp
        rw [hrun]
        exact he.q rfl _ w g hR.toH (Evo.refl g w) (.s h2)
  · cases hr

theorem sim_op (hcs : CallSim P M call) (hd : DstOk o a) (hR : Rel M g w β st a.tmps) {A : Ann} {m : Nat → Bool} {loc : Bool} {k : OpK} (htr : trOp M P A m loc o.op = some k) (hloc : loc = true → o.dst ≠ none)
    {r : Or} (hr : evalK call k st = some r) {K : Act → World → Prop} {Q : Exit → Act → World → Prop} (he : Ends P M g w o a r K Q) : o.wp P a w K Q := by
  have fin : k.mayPan = false → Left1 P M g w o a r → o.wp P a w K Q := fun hk h => h.wp (pan_evalK hr hk) he
  cases hop : o.op with
  | move x =>
    simp only [hop, trOp, Option.map_eq_some_iff] at htr
    obtain ⟨y, hy, rfl⟩ := htr
    exact fin rfl (sim_mov hd hR hy (.inl hop) hr)
  | assign x =>
    simp only [hop, trOp, Option.map_eq_some_iff] at htr
    obtain ⟨y, hy, rfl⟩ := htr
    exact fin rfl (sim_mov hd hR hy (.inr hop) hr)
  | pick c x y =>
    simp only [hop, trOp, Option.bind_eq_bind, Option.bind_eq_some_iff, Option.pure_def, Option.some.injEq] at htr
    obtain ⟨c', hc, x', hx, y', hy, rfl⟩ := htr
    exact fin rfl (sim_pick hd hR hc hx hy hop hr)
  | alloc t =>
    simp only [hop, trOp, Option.bind_eq_bind, Option.bind_eq_some_iff, Option.pure_def, Option.some.injEq] at htr
    obtain ⟨z, hz, rfl⟩ := htr
    exact fin rfl (sim_alloc hd hR hz hop hloc hr)
  | box t x =>
    simp only [hop, trOp, Option.bind_eq_bind, Option.bind_eq_some_iff, Option.pure_def, Option.some.injEq] at htr
    obtain ⟨x', hx, rfl⟩ := htr
    exact fin rfl (sim_box hd hR hx hop hloc hr)
  | build t ps =>
    simp only [hop, trOp] at htr
    split at htr
    · rename_i fs hu
      split at htr
      · rename_i hpl
        simp only [Option.bind_eq_bind, Option.bind_eq_some_iff, Option.pure_def, Option.some.injEq] at htr
        obtain ⟨z, hz, ps', hps, rfl⟩ := htr
        exact fin rfl (sim_buildStruct hd hR hop hu hpl hz hps hr)
      · cases htr
    · rename_i n e hu
      simp only [Option.bind_eq_bind, Option.bind_eq_some_iff, Option.pure_def, Option.some.injEq] at htr
      obtain ⟨z, hz, l, hl, ps', hps, rfl⟩ := htr
      exact fin rfl (sim_buildArray hd hR hop hu hl hz hps hr)
    · cases htr
  | buildSlice t n ps =>
    simp only [hop, trOp] at htr
    split at htr
    · rename_i e hu
      split at htr
      · rename_i l z hl hz
        split at htr
        · rename_i hs
          split at htr
          · split at htr
            · rename_i h1n
              simp only [Option.bind_eq_bind, Option.bind_eq_some_iff, Option.pure_def, Option.some.injEq] at htr
              obtain ⟨ps', hps, rfl⟩ := htr
              exact fin rfl (sim_buildRow hd hR hop hu hl hz hs h1n hps hr)
            · cases htr
          · simp only [Option.bind_eq_bind, Option.bind_eq_some_iff, Option.pure_def, Option.some.injEq] at htr
            obtain ⟨ps', hps, rfl⟩ := htr
            exact fin rfl (sim_buildSlice hd hR hop hu hl hz hs hps hr)
        · cases htr
      · cases htr
    · cases htr
  | load t x =>
    simp only [hop, trOp, Option.bind_eq_bind, Option.bind_eq_some_iff, Option.pure_def, Option.some.injEq] at htr
    obtain ⟨l, hl, x', hx, rfl⟩ := htr
    refine fin rfl ?_
    simp only [evalK] at hr
    cases hm : m 9 with
    | false => rw [hm] at hr; exact sim_load hd hR hl hx hop hr
    | true => rw [hm] at hr; exact sim_loadMv hd hR hl hx hop hr
  | store t p x =>
    simp only [hop, trOp, Option.bind_eq_bind, Option.bind_eq_some_iff, Option.pure_def, Option.some.injEq] at htr
    obtain ⟨l, hl, p', hp, x', hx, rfl⟩ := htr
    exact fin rfl (sim_store hd hR hl hp hx hop hr)
  | nilCheck x =>
    simp only [hop, trOp, Option.map_eq_some_iff] at htr
    obtain ⟨y, hy, rfl⟩ := htr
    exact fin rfl (sim_nilCheck hd hR hy hop hr)
  | binOp op t x y yt =>
    simp only [hop, trOp, Option.bind_eq_bind, Option.bind_eq_some_iff, Option.pure_def, Option.some.injEq] at htr
    obtain ⟨kd, hk, x', hx, y', hy, rfl⟩ := htr
    exact fin rfl (sim_bin hd hR hx hy hk hop hr)
  | unOp op t x =>
    simp only [hop, trOp, Option.bind_eq_bind, Option.bind_eq_some_iff, Option.pure_def, Option.some.injEq] at htr
    obtain ⟨x', hx, rfl⟩ := htr
    exact fin rfl (sim_un hd hR hx hop hr)
  | convert s t x =>
    simp only [hop, trOp] at htr
    split at htr
    · rename_i k1 k2 h1 h2
      simp only [Option.bind_eq_bind, Option.bind_eq_some_iff, Option.pure_def, Option.some.injEq] at htr
      obtain ⟨x', hx, rfl⟩ := htr
      exact fin rfl (sim_conv hd hR hx h1 h2 hop hr)
    · rename_i h1 h2
      simp only [Option.bind_eq_bind, Option.bind_eq_some_iff, Option.pure_def, Option.some.injEq] at htr
      obtain ⟨x', hx, rfl⟩ := htr
      exact fin rfl (sim_convS hd hR hx h1 h2 hop hr)
    · rename_i e h1 h2
      split at htr
      · rename_i h3
        simp only [Option.bind_eq_bind, Option.bind_eq_some_iff, Option.pure_def, Option.some.injEq] at htr
        obtain ⟨x', hx, rfl⟩ := htr
        exact fin rfl (sim_bytes hd hR hx h1 h2 h3 hop hr)
      · cases htr
    · rename_i e h1 h2
      split at htr
      · rename_i h3
        simp only [Option.bind_eq_bind, Option.bind_eq_some_iff, Option.pure_def, Option.some.injEq] at htr
        obtain ⟨x', hx, rfl⟩ := htr
        exact fin rfl (sim_text hd hR hx h1 h2 h3 hop hr)
      · cases htr
    · cases htr
  | typeAssert x xt t c =>
    cases c with
    | false => simp [hop, trOp] at htr
    | true =>
      simp only [hop, trOp] at htr
      split at htr
      · cases htr
      · cases htr
      · rename_i dd hni hu
        split at htr
        · rename_i t' ht
          split at htr
          · rename_i hinj
            simp only [Option.bind_eq_bind, Option.bind_eq_some_iff, Option.pure_def, Option.some.injEq] at htr
            obtain ⟨z, hz, x', hx, rfl⟩ := htr
            exact fin rfl (sim_assertOk hd hR ht hinj hu (fun m e => hni m e) hz hx hop hr)
          · cases htr
        · cases htr
  | makeInterface t x =>
    simp only [hop, trOp] at htr
    split at htr
    · cases htr
    · cases htr
    · rename_i dd hni hu
      simp only [Option.bind_eq_bind, Option.bind_eq_some_iff, Option.pure_def, Option.some.injEq] at htr
      obtain ⟨t', ht, x', hx, rfl⟩ := htr
      exact fin rfl (sim_mkIfc hd hR ht hu (fun m e => hni m e) hx hop hr)
  | makeFunc fn xs ys =>
    cases fn with
    | func f =>
      simp only [hop, trOp, Option.bind_eq_bind, Option.bind_eq_some_iff, Option.pure_def, Option.some.injEq] at htr
      obtain ⟨f', hf, xs', hx, ys', hy, rfl⟩ := htr
      exact fin rfl (sim_mkFn hd hR hf hx hy hop hr)
    | _ => simp [hop, trOp] at htr
  | makeMap t x =>
    cases x with
    | none =>
      simp only [hop, trOp] at htr
      split at htr
      · simp only [Option.some.injEq] at htr
        subst htr
        exact fin rfl (sim_mkMap hd hR hop hr)
      · cases htr
    | some x => simp [hop, trOp] at htr
  | makeSlice t x y =>
    simp only [hop, trOp] at htr
    split at htr
    · rename_i e hu
      split at htr
      · rename_i i z hi hz
        split at htr
        · rename_i hs
          simp only [Option.bind_eq_bind, Option.bind_eq_some_iff, Option.pure_def, Option.some.injEq] at htr
          obtain ⟨x', hx, y', hy, rfl⟩ := htr
          exact fin rfl (sim_mkSlice hd hR hu hi hz hs hx hy hop hr)
        · cases htr
      · cases htr
    · cases htr
  | slice t x lo hi mx =>
    cases mx with
    | some z =>
      cases hi with
      | none => simp [hop, trOp] at htr
      | some h =>
        simp only [hop, trOp] at htr
        split at htr
        · rename_i e hu
          simp only [Option.bind_eq_bind, Option.bind_eq_some_iff, Option.pure_def, Option.some.injEq] at htr
          obtain ⟨l, hl, x', hx, lo', hlo, hi', hhi, mx', hmx, rfl⟩ := htr
          exact fin rfl (sim_sliceM hd hR hu hl hx hlo hhi hmx hop hr)
        · cases htr
    | none =>
      simp only [hop, trOp] at htr
      split at htr
      · rename_i hu
        simp only [Option.bind_eq_bind, Option.bind_eq_some_iff, Option.pure_def, Option.some.injEq] at htr
        obtain ⟨x', hx, lo', hlo, hi', hhi, rfl⟩ := htr
        refine fin rfl ?_
        exact sim_sliceS hd hR hu hx hlo hhi hop hr
      · rename_i e hu
        simp only [Option.bind_eq_bind, Option.bind_eq_some_iff, Option.pure_def, Option.some.injEq] at htr
        obtain ⟨l, hl, x', hx, lo', hlo, hi', hhi, rfl⟩ := htr
        exact fin rfl (sim_sliceL hd hR hu hl hx hlo hhi hop hr)
      · rename_i n e hu
        split at htr
        · rename_i i hi1
          split at htr
          · rename_i h1s
            simp only [Option.bind_eq_bind, Option.bind_eq_some_iff, Option.pure_def, Option.some.injEq] at htr
            obtain ⟨x', hx, lo', hlo, hi', hhi, rfl⟩ := htr
            exact fin rfl (sim_sliceA hd hR hu hi1 h1s hx hlo hhi hop hr)
          · cases htr
        · cases htr
      · cases htr
  | fieldAddr t x f =>
    simp only [hop, trOp] at htr
    split at htr
    · rename_i fs hu
      split at htr
      · rename_i fd hfd
        split at htr
        · rename_i l hl
          split at htr
          · cases htr
          · rename_i h0
            simp only [Option.bind_eq_bind, Option.bind_eq_some_iff, Option.pure_def, Option.some.injEq] at htr
            obtain ⟨x', hx, rfl⟩ := htr
            exact fin rfl (sim_fieldAddr hd hR hu hfd hl h0 hx hop hr)
        · cases htr
      · cases htr
    · cases htr
  | field t x f =>
    simp only [hop, trOp] at htr
    split at htr
    · rename_i fs hu
      split at htr
      · rename_i fd hfd
        simp only [Option.bind_eq_bind, Option.bind_eq_some_iff, Option.pure_def, Option.some.injEq] at htr
        obtain ⟨x', hx, l, hl, rfl⟩ := htr
        exact fin rfl (sim_field hd hR hu hfd hl hx hop hr)
      · cases htr
    · cases htr
  | indexAddr t x i =>
    simp only [hop, trOp] at htr
    split at htr
    · rename_i e hu
      simp only [Option.bind_eq_bind, Option.bind_eq_some_iff, Option.pure_def, Option.some.injEq] at htr
      obtain ⟨x', hx, i', hi, l, hl, rfl⟩ := htr
      exact fin rfl (sim_indexAddrS hd hR hu hl hx hi hop hr)
    · rename_i n e hu
      simp only [Option.bind_eq_bind, Option.bind_eq_some_iff, Option.pure_def, Option.some.injEq] at htr
      obtain ⟨x', hx, i', hi, l, hl, rfl⟩ := htr
      exact fin rfl (sim_indexAddrA hd hR hu hl hx hi hop hr)
    · cases htr
  | index t x i =>
    simp only [hop, trOp] at htr
    split at htr
    · rename_i hu
      simp only [Option.bind_eq_bind, Option.bind_eq_some_iff, Option.pure_def, Option.some.injEq] at htr
      obtain ⟨x', hx, i', hi, rfl⟩ := htr
      exact fin rfl (sim_index hd hR hu hx hi hop hr)
    · cases htr
  | lookup t x i c =>
    simp only [hop, trOp] at htr
    split at htr
    · rename_i k e hu
      simp only [Option.bind_eq_bind, Option.bind_eq_some_iff, Option.pure_def, Option.some.injEq] at htr
      obtain ⟨kk, hk, z, hz, x', hx, i', hi, rfl⟩ := htr
      exact fin rfl (sim_lookup hd hR hu hk hz hx hi hop hr)
    · cases htr
  | mapUpdate t p i x =>
    simp only [hop, trOp] at htr
    split at htr
    · rename_i k e hu
      simp only [Option.bind_eq_bind, Option.bind_eq_some_iff, Option.pure_def, Option.some.injEq] at htr
      obtain ⟨kk, hk, p', hp, i', hi, x', hx, rfl⟩ := htr
      exact fin rfl (sim_mapUpdate hd hR hu hk hp hi hx (.inl hop) hr)
    · cases htr
  | insert t p i x =>
    simp only [hop, trOp] at htr
    split at htr
    · rename_i k e hu
      simp only [Option.bind_eq_bind, Option.bind_eq_some_iff, Option.pure_def, Option.some.injEq] at htr
      obtain ⟨kk, hk, p', hp, i', hi, x', hx, rfl⟩ := htr
      exact fin rfl (sim_mapUpdate hd hR hu hk hp hi hx (.inr hop) hr)
    · cases htr
  | extract t i =>
    cases t with
    | tmp t =>
      simp only [hop, trOp, Option.some.injEq] at htr
      subst htr
      exact fin rfl (sim_extract hd hR hop hr)
    | _ => simp [hop, trOp] at htr
  | panic x =>
    simp only [hop, trOp, Option.bind_eq_bind, Option.bind_eq_some_iff, Option.pure_def, Option.some.injEq] at htr
    obtain ⟨x', hx, rfl⟩ := htr
    exact sim_panic hR hx hop hr he
  | call c =>
    simp only [hop, trOp] at htr
    split at htr
    · rename_i hcal
      split at htr
      · rename_i s hats
        split at htr
        · rename_i hu
          simp only [Option.bind_eq_bind, Option.bind_eq_some_iff, Option.pure_def, Option.some.injEq] at htr
          obtain ⟨l, hl, rfl⟩ := htr
          refine fin rfl ?_
          rcases l with _ | ⟨x', _ | ⟨y', l⟩⟩
          · simp [evalK, eBi] at hr
          · exact sim_lenS hd hR hcal hats hu hl hop hr
          · simp [evalK, eBi] at hr
        · rename_i e hu
          simp only [Option.bind_eq_bind, Option.bind_eq_some_iff, Option.pure_def, Option.some.injEq] at htr
          obtain ⟨l, hl, rfl⟩ := htr
          refine fin rfl ?_
          rcases l with _ | ⟨x', _ | ⟨y', l⟩⟩
          · simp [evalK, eBi] at hr
          · exact sim_lenL hd hR hcal hats hu hl hop hr
          · simp [evalK, eBi] at hr
        · rename_i k e hu
          simp only [Option.bind_eq_bind, Option.bind_eq_some_iff, Option.pure_def, Option.some.injEq] at htr
          obtain ⟨l, hl, rfl⟩ := htr
          refine fin rfl ?_
          rcases l with _ | ⟨x', _ | ⟨y', l⟩⟩
          · simp [evalK, eBi] at hr
          · exact sim_lenM hd hR hcal hats hu hl hop hr
          · simp [evalK, eBi] at hr
        · cases htr
      · cases htr
    · rename_i hcal
      simp only [Option.bind_eq_bind, Option.bind_eq_some_iff, Option.pure_def, Option.some.injEq] at htr
      obtain ⟨l, hl, rfl⟩ := htr
      refine fin rfl ?_
      have hr' : (match maxD (l.map (rd st.env)) with | some v => ok v st | none => none) = some r := hr
      split at hr'
      · rename_i v hv
        exact sim_max hd hR hcal hl hop hv hr'
      · cases hr'
    · rename_i hcal
      simp only [Option.bind_eq_bind, Option.bind_eq_some_iff, Option.pure_def, Option.some.injEq] at htr
      obtain ⟨l, hl, rfl⟩ := htr
      refine fin rfl ?_
      have hr' : (match minD (l.map (rd st.env)) with | some v => ok v st | none => none) = some r := hr
      split at hr'
      · rename_i v hv
        exact sim_min hd hR hcal hl hop hv hr'
      · cases hr'
    · rename_i hcal
      split at htr
      · rename_i s u hats
        split at htr
        · rename_i e e2 hu hu2
          split at htr
          · rename_i i z hi hz
            split at htr
            · rename_i hzl
              simp only [Option.bind_eq_bind, Option.bind_eq_some_iff, Option.pure_def, Option.some.injEq] at htr
              obtain ⟨l, hl, rfl⟩ := htr
              refine fin rfl ?_
              rcases l with _ | ⟨x', _ | ⟨y', _ | ⟨z', l⟩⟩⟩
              · simp [evalK, eBi] at hr
              · simp [evalK, eBi] at hr
              · exact sim_append hd hR hcal hats hu (.inr ⟨_, hu2⟩) hi hz hzl hl hop hr
              · simp [evalK, eBi] at hr
            · cases htr
          · cases htr
        · rename_i e hu hu2
          split at htr
          · rename_i i z hi hz
            split at htr
            · rename_i hzl
              simp only [Option.bind_eq_bind, Option.bind_eq_some_iff, Option.pure_def, Option.some.injEq] at htr
              obtain ⟨l, hl, rfl⟩ := htr
              refine fin rfl ?_
              rcases l with _ | ⟨x', _ | ⟨y', _ | ⟨z', l⟩⟩⟩
              · simp [evalK, eBi] at hr
              · simp [evalK, eBi] at hr
              · exact sim_append hd hR hcal hats hu (.inl hu2) hi hz hzl hl hop hr
              · simp [evalK, eBi] at hr
            · cases htr
          · cases htr
        · cases htr
      · cases htr
    · rename_i f hcal
      simp only [Option.bind_eq_bind, Option.bind_eq_some_iff, Option.pure_def] at htr
      obtain ⟨f', hf, l, hl, htr⟩ := htr
      split at htr
      · rename_i hnd
        simp only [Option.some.injEq] at htr
        subst htr
        exact sim_call hcs hd hR hcal hf hl hnd hop hr he.k he.q
      · cases htr
    · cases htr
  | _ => simp [hop, trOp] at htr

end
end W

/-
  Regions in their order, code, loops.
-/
set_option linter.unusedSimpArgs false
set_option linter.unusedVariables false
namespace W
open Go (World Value Addr IntKind Program TypeId FuncId Operand Act Oper Next Result Sem BinOp UnOp Ending Exit Code)

structure Good (M : Maps) (g : Gh) (w : World) (a : Act) (st' : St) (a' : Act) (w' : World) : Prop where
  r : ∃ g' β', Rel M g' w' β' st' a'.tmps ∧ Evo g w g' w'
  size : a'.tmps.size = a.tmps.size
  defers : a'.defers = a.defers

structure BadEnd (M : Maps) (g : Gh) (w : World) (a : Act) (v : V) (st' : St) (ch : List Go.PanicEntry) (a' : Act) (w' : World) : Prop where
  r : ∃ g' cv, ch = [{ v := cv, recovered := false }] ∧ RelH M g' w' st'.H ∧ Evo g w g' w' ∧ RepA M g' w' 0 v cv
  defers : a'.defers = a.defers

def Post (M : Maps) (g : Gh) (w : World) (a : Act) (e : Ex) (st' : St) : Exit → Act → World → Prop := fun x a' w' =>
  match e, x with
  | .nrm, .normal => Good M g w a st' a' w'
  | .exit id, .exit id' => id' = id ∧ Good M g w a st' a' w'
  | .ret, .ret => Good M g w a st' a' w'
  | .pan v, .panic ch => BadEnd M g w a v st' ch a' w'
  | _, _ => False

theorem Good.trans {M : Maps} {g g1 : Gh} {w w1 : World} {a a1 : Act} {st' : St} {a' : Act} {w' : World} (hE : Evo g w g1 w1) (hs : a1.tmps.size = a.tmps.size) (hd : a1.defers = a.defers) (h : Good M g1 w1 a1 st' a' w') : Good M g w a st' a' w' :=
  let ⟨⟨g', β', h1, h2⟩, h3, h4⟩ := h
  ⟨⟨g', β', h1, hE.trans h2⟩, h3.trans hs, h4.trans hd⟩

theorem Post.trans {M : Maps} {g g1 : Gh} {w w1 : World} {a a1 : Act} {e : Ex} {st' : St} (hE : Evo g w g1 w1) (hs : a1.tmps.size = a.tmps.size) (hd : a1.defers = a.defers) {x : Exit} {a' : Act} {w' : World}
    (h : Post M g1 w1 a1 e st' x a' w') : Post M g w a e st' x a' w' := by
  unfold Post at *
  split at h
  · exact h.trans hE hs hd
  · exact ⟨h.1, h.2.trans hE hs hd⟩
  · exact h.trans hE hs hd
  · obtain ⟨⟨g', cv, h1, h2, h3, h4⟩, h5⟩ := h
    exact ⟨⟨g', cv, h1, h2, hE.trans h3, h4⟩, h5.trans hd⟩
  · exact h.elim

theorem put_size (a : Act) (d : Option Nat) (c : Value) : (a.put d c).tmps.size = a.tmps.size := by cases d <;> simp [Act.put]
theorem put_defers (a : Act) (d : Option Nat) (c : Value) : (a.put d c).defers = a.defers := by cases d <;> rfl

section
variable {P : Program} {M : Maps} {g : Gh} {w : World} {β : Nat → Nat} {st : St} {a : Act} {call : Call}

theorem wanted_rep (hR : Rel M g w β st a.tmps) {ops : Array Oper} {o : Oper} {g' : Option (Nat × Bool)} (hg : gOf ops o.guard = some g') {b : Bool} (hw : wanted g' st.env = some b) :
    Go.Region.wanted o (Go.yielded ops a.tmps) = b := by
  unfold Go.Region.wanted
  cases ho : o.guard with
  | none =>
    rw [ho] at hg
    simp only [gOf, Option.some.injEq] at hg
    subst hg
    simpa [wanted] using hw
  | some jw =>
    obtain ⟨j, want⟩ := jw
    rw [ho] at hg
    simp only [gOf] at hg
    split at hg
    · rename_i o' ho'
      split at hg
      · rename_i d hd
        simp only [Option.some.injEq] at hg
        subst hg
        have hy : Go.yielded ops a.tmps j = match a.tmps[d]? with | some (.bool b) => some b | _ => none := by
          simp only [Go.yielded, ho', Option.bind_some, hd]
          rfl
        simp only [hy]
        have he := hR.e d
        simp only [wanted] at hw
        split at hw
        · rename_i z hz
          simp only [Option.some.injEq] at hw
          rw [hz] at he
          have hv : a.tmps.getD d Go.undef = .bool z := by
            generalize a.tmps.getD d Go.undef = c at he
            cases he with
            | s h => cases h with | d _ _ h => cases h; rfl
          rw [Array.getD_eq_getD_getElem?] at hv
          cases hq : a.tmps[d]? with
          | none => rw [hq] at hv; simp [Go.undef] at hv
          | some c =>
            rw [hq] at hv
            simp only [Option.getD_some] at hv
            subst hv
            rw [← hw]
            simp
        · rename_i hz
          simp only [Option.some.injEq] at hw
          rw [hz] at he
          have hv : a.tmps.getD d Go.undef = .tuple #[] := by
            generalize a.tmps.getD d Go.undef = c at he
            cases he with
            | s h => cases h with | tup _ vs h => 
              have : vs = #[] := Array.ext' (by
                generalize vs.toList = l at h
                cases h; rfl)
              rw [this]
          rw [Array.getD_eq_getD_getElem?] at hv
          rw [← hw]
          cases hq : a.tmps[d]? with
          | none => rfl
          | some c =>
            rw [hq] at hv
            simp only [Option.getD_some] at hv
            subst hv
            rfl
        · cases hw
      · cases hg
    · cases hg

theorem rel_skip (hR : Rel M g w β st a.tmps) {o : Oper} (hd : DstOk o a) : Rel M g w β (put o.dst (.tup []) st) (a.put o.dst Go.undef).tmps :=
  hR.putV hd (.s (.tup [] #[] .nil))

/-- Operations in their order. -/
theorem sim_ops (hcs : CallSim P M call) {A : Ann} {rid nt : Nat} {ops : Array Oper} : ∀ (rest : List Oper) (i : Nat) (l : List Op) (st : St) (g : Gh) (w : World) (β : Nat → Nat) (a : Act), ops.toList.drop i = rest →
    trOps M P A rid ops i rest = some l → (∀ o ∈ rest, ∀ d, o.dst = some d → d < nt) → nt ≤ a.tmps.size → ∀ (e : Ex) (st' : St), runOps call l st = some (e, st') → Rel M g w β st a.tmps →
    ∀ Q : Exit → Act → World → Prop, (∀ x a' w', Post M g w a e st' x a' w' → Q x a' w') → Go.wpOps P ops Q (List.range' i rest.length) a w
  | [], i, l, st, g, w, β, a, hdrop, htr, hdst, hnt, e, st', hrun, hR, Q, hQ => by
    simp only [trOps, Option.some.injEq] at htr
    subst htr
    simp only [runOps, Option.some.injEq, Prod.mk.injEq] at hrun
    obtain ⟨rfl, rfl⟩ := hrun
    exact hQ _ _ _ (show Post M g w a .nrm st .normal a w from ⟨⟨g, β, hR, Evo.refl g w⟩, rfl, rfl⟩)
  | o :: rest, i, l, st, g, w, β, a, hdrop, htr, hdst, hnt, e, st', hrun, hR, Q, hQ => by
    simp only [trOps] at htr
    split at htr
    · rename_i g' r hg hr
      simp only [Option.some.injEq] at htr
      subst htr
      have hoi : ops[i]? = some o := by
        have : (ops.toList.drop i)[0]? = some o := by rw [hdrop]; rfl
        rw [List.getElem?_drop] at this
        simpa using this
      have hdrop' : ops.toList.drop (i + 1) = rest := by
        have : (ops.toList.drop i).drop 1 = rest := by rw [hdrop]; rfl
        rwa [List.drop_drop] at this
      have hd : DstOk o a := fun n hn => Nat.lt_of_lt_of_le (hdst o (by simp) n hn) hnt
      have hdst' : ∀ o ∈ rest, ∀ d, o.dst = some d → d < nt := fun o ho => hdst o (by simp [ho])
      rw [List.length_cons, List.range'_succ, Go.wpOps_cons]
      unfold Go.wpOp
      simp only [hoi]
      simp only [runOps] at hrun
      split at hrun
      · rename_i hw
        rw [wanted_rep hR hg hw]
        simp only [if_true]
        refine .inl ?_
        split at hrun
        · rename_i q hq
          refine sim_op hcs hd hR (orStuck_some hq) (fun hloc hn => ?_) hq ⟨fun hp c w1 g1 β1 hR1 hE1 => ?_, fun hp cv w1 g1 hH hE1 hv => ?_⟩
          · rw [hn] at hloc; simp at hloc
          · simp only [hp, cond_false] at hrun
            exact sim_ops hcs rest (i + 1) r _ g1 w1 β1 _ hdrop' hr hdst' (by rw [put_size]; exact hnt) e st' hrun hR1 Q (fun x a' w' hpost => hQ x a' w' (hpost.trans hE1 (put_size _ _ _) (put_defers _ _ _)))
          · simp only [hp, cond_true, Option.some.injEq, Prod.mk.injEq] at hrun
            obtain ⟨rfl, rfl⟩ := hrun
            exact hQ _ _ _ (show Post M g w a (.pan q.v) q.st (.panic _) a w1 from ⟨⟨g1, cv, rfl, hH, hE1, hv⟩, rfl⟩)
        · cases hrun
      · rename_i hw
        rw [wanted_rep hR hg hw]
        simp only [Bool.false_eq_true, if_false]
        exact sim_ops hcs rest (i + 1) r _ g w β _ hdrop' hr hdst' (by rw [put_size]; exact hnt) e st' hrun (rel_skip hR hd) Q (fun x a' w' hpost => hQ x a' w' (hpost.trans (Evo.refl g w) (put_size _ _ _) (put_defers _ _ _)))
      · cases hrun
    · cases htr

theorem get_restrict (live : List Nat) (e : Env) (k : Nat) : get k (restrict live e) = (if k ∈ live then (match get k e with | .lp _ _ => .undef | v => v) else .undef) := by
  unfold restrict
  induction live with
  | nil => simp [get]
  | cons n l ih =>
    simp only [List.map_cons, get_cons, ih]
    by_cases h : k = n
    · subst h; simp; cases get k e <;> rfl
    · simp [h]

theorem Rel.restrict {tmps : Array Value} (hR : Rel M g w β st tmps) (live : List Nat) : Rel M g w β { st with env := W.restrict live st.env } tmps := by
  refine ⟨hR.n, fun k => ?_, hR.h, hR.fresh, hR.gl⟩
  show RepT M g w β k (get k (W.restrict live st.env)) _
  rw [get_restrict]
  split
  · have := hR.e k
    generalize get k st.env = v at this
    generalize tmps.getD k Go.undef = c at this
    cases this with
    | s h => cases h <;> exact .s (by constructor <;> assumption)
    | osl h => exact .osl h
    | lp s off => exact .s (.undef _)
    | cp x b off vs hr hc hp => exact .cp x b off vs hr hc hp
    | box cs arr T hb ho hp hl hr => exact .box cs arr T hb ho hp hl hr
  · exact .s (.undef _)

end

/-- Code is simulated. -/
def ExSim (P : Program) (M : Maps) (ex : C → St → Option (Ex × St)) : Prop :=
  ∀ (A : Ann) (blk : Nat) (code : Code) (c : C), trC M P A blk code = some c → ∀ st e st', ex c st = some (e, st') → ∀ g w β a nt, dstIn nt code = true → nt ≤ a.tmps.size → Rel M g w β st a.tmps →
    ∀ Q : Exit → Act → World → Prop, (∀ x a' w', Post M g w a e st' x a' w' → Q x a' w') → code.wp P Q a w

noncomputable def least (p : Nat → Prop) : Nat := open Classical in if h : ∃ n, p n ∧ ∀ m, m < n → ¬ p m then Classical.choose h else 0
theorem least_spec {p : Nat → Prop} {n : Nat} (h : p n) : p (least p) ∧ least p ≤ n := by
  have ex : ∃ n, p n ∧ ∀ m, m < n → ¬ p m := by
    induction n using Nat.strongRecOn with
    | _ n ih =>
      by_cases hm : ∃ m, m < n ∧ p m
      · obtain ⟨m, h1, h2⟩ := hm; exact ih m h1 h2
      · exact ⟨n, h, fun m h1 h2 => hm ⟨m, h1, h2⟩⟩
  unfold least
  rw [dif_pos ex]
  obtain ⟨h1, h2⟩ := Classical.choose_spec ex
  refine ⟨h1, ?_⟩
  rcases Nat.lt_or_ge n (Classical.choose ex) with hlt | hge
  · exact absurd h (h2 n hlt)
  · exact hge

/-- A region whose order is open is simulated. -/
def OpenSim (P : Program) (M : Maps) (call : Call) : Prop :=
  ∀ (A : Ann) (rid : Nat) (ops : Array Oper) (l : List Op), trOps M P A rid ops 0 ops.toList = some l → lexI ops = true → orderOk ops l = true →
    ∀ st e st', runOpsD call (l.zipIdx.map fun (o, i) => (o, !o.k.free, notYet ops l i)) st = some (e, st') → ∀ g w β a nt, (∀ o ∈ ops.toList, ∀ d, o.dst = some d → d < nt) → nt ≤ a.tmps.size → Rel M g w β st a.tmps →
    ∀ Q : Exit → Act → World → Prop, (∀ x a' w', Post M g w a e st' x a' w' → Q x a' w') → (Code.region rid ops true).wp P Q a w

theorem dst_of_in {nt : Nat} {rid : Nat} {ops : Array Oper} {b : Bool} (h : dstIn nt (.region rid ops b) = true) : ∀ o ∈ ops.toList, ∀ d, o.dst = some d → d < nt := fun o ho d hd => by
  simp only [dstIn, List.all_eq_true] at h
  have := h o ho
  rw [hd] at this
  simp only [Nat.blt_eq] at this
  exact this

theorem sim_exec {P : Program} {M : Maps} {pg : Pg} (hC : ∀ n, ExSim P M (exec pg n) → CallSim P M (callWith pg (exec pg n))) (hO : ∀ n, CallSim P M (callWith pg (exec pg n)) → OpenSim P M (callWith pg (exec pg n))) : ∀ n, ExSim P M (exec pg n) := by
  intro n
  induction n using Nat.strongRecOn with
  | _ n IH =>
  cases n with
  | zero => intro A blk code c _ st e st' h; simp [exec] at h
  | succ n =>
    have ih := IH n (Nat.lt_succ_self n)
    have hcs := hC n ih
    intro A blk code c htr st e st' hrun g w β a nt hdst hnt hR Q hQ
    have hrun : step (callWith pg (exec pg n)) (exec pg n) c st = some (e, st') := hrun
    cases code with
    | skip =>
      simp only [trC, Option.some.injEq] at htr
      subst htr
      simp only [step, Option.some.injEq, Prod.mk.injEq] at hrun
      obtain ⟨rfl, rfl⟩ := hrun
      exact Go.wp_skip (hQ _ _ _ (show Post M g w a .nrm st .normal a w from ⟨⟨g, β, hR, Evo.refl g w⟩, rfl, rfl⟩))
    | region rid ops draw =>
      simp only [trC] at htr
      split at htr
      · rename_i l hl
        cases draw with
        | false =>
          simp only [Bool.false_eq_true, if_false, Option.some.injEq] at htr
          subst htr
          refine Go.wp_region ?_
          have := sim_ops hcs (rid := rid) (nt := nt) ops.toList 0 l st g w β a (by simp) hl (dst_of_in hdst) hnt e st' hrun hR Q hQ
          rwa [show List.range ops.size = List.range' 0 ops.toList.length by simp [List.range_eq_range']]
        | true =>
          simp only [if_true] at htr
          split at htr
          · rename_i hc
            simp only [Bool.and_eq_true] at hc
            simp only [Option.some.injEq] at htr
            subst htr
            exact hO _ hcs A rid ops l hl hc.1 hc.2 st e st' hrun g w β a nt (dst_of_in hdst) hnt hR Q hQ
          · simp only [Option.some.injEq] at htr
            subst htr
            cases hrun
      · simp only [Option.some.injEq] at htr
        subst htr
        cases hrun
    | seq x y =>
      simp only [trC] at htr
      split at htr
      · rename_i cx cy hx hy
        simp only [Option.some.injEq] at htr
        subst htr
        simp only [dstIn, Bool.and_eq_true] at hdst
        simp only [step] at hrun
        refine Go.wp_seq ?_
        split at hrun
        · rename_i st1 h1
          refine ih A blk x cx hx st _ st1 h1 g w β a nt hdst.1 hnt hR _ (fun ex a1 w1 hp => ?_)
          unfold Post at hp
          split at hp
          · obtain ⟨⟨g1, β1, hR1, hE1⟩, hs1, hd1⟩ := hp
            exact ih A blk y cy hy st1 e st' hrun g1 w1 β1 a1 nt hdst.2 (by rw [hs1]; exact hnt) hR1 Q (fun x a' w' hp => hQ x a' w' (hp.trans hE1 hs1 hd1))
          all_goals first | exact hp.elim | (rename_i h; cases h)
        · rename_i hne
          refine ih A blk x cx hx st e st' hrun g w β a nt hdst.1 hnt hR _ (fun ex a1 w1 hp => ?_)
          have hq := hQ ex a1 w1 hp
          cases ex with
          | normal =>
            exfalso
            cases e with
            | nrm => exact hne st' hrun
            | _ => exact hp
          | _ => exact hq
      · cases htr
    | cond o x y =>
      simp only [trC] at htr
      split at htr
      · rename_i o' cx cy ho hx hy
        simp only [Option.some.injEq] at htr
        subst htr
        simp only [dstIn, Bool.and_eq_true] at hdst
        have ho1 := rd_rep hR ho
        simp only [step] at hrun
        split at hrun
        · rename_i hv
          rw [hv] at ho1
          exact Go.wp_cond_true (repD_b ho1.inv_d) (ih A blk x cx hx st e st' hrun g w β a nt hdst.1 hnt hR Q hQ)
        · rename_i hv
          rw [hv] at ho1
          exact Go.wp_cond_false (repD_b ho1.inv_d) (ih A blk y cy hy st e st' hrun g w β a nt hdst.2 hnt hR Q hQ)
        · cases hrun
      · cases htr
    | block id x =>
      simp only [trC] at htr
      split at htr
      · rename_i cx hx
        simp only [Option.some.injEq] at htr
        subst htr
        simp only [dstIn] at hdst
        simp only [step] at hrun
        refine Go.wp_block ?_
        have res : ∀ {st1 : St} {a1 : Act} {w1 : World}, Good M g w a st1 a1 w1 → Good M g w a { st1 with env := restrict ((look A.bl id).getD []) st1.env } a1 w1 := fun h => by
          obtain ⟨⟨g1, β1, hR1, hE1⟩, hs1, hd1⟩ := h
          exact ⟨⟨g1, β1, hR1.restrict _, hE1⟩, hs1, hd1⟩
        split at hrun
        · rename_i st1 h1
          simp only [Option.some.injEq, Prod.mk.injEq] at hrun
          obtain ⟨rfl, rfl⟩ := hrun
          refine ih A id x cx hx st _ st1 h1 g w β a nt hdst hnt hR _ (fun ex a1 w1 hp => ?_)
          cases ex <;> first | exact hQ _ _ _ (show Post M g w a .nrm _ .normal a1 w1 from res hp) | exact hp.elim
        · rename_i j st1 h1
          rw [Bool.cond_eq_ite] at hrun
          split at hrun
          · rename_i hj
            have hj := Nat.eq_of_beq_eq_true hj
            simp only [Option.some.injEq, Prod.mk.injEq] at hrun
            obtain ⟨rfl, rfl⟩ := hrun
            refine ih A id x cx hx st _ st1 h1 g w β a nt hdst hnt hR _ (fun ex a1 w1 hp => ?_)
            cases ex with
            | exit id' =>
              obtain ⟨h2, h3⟩ := hp
              simp only [Exit.inBlock, h2, hj, if_true]
              exact hQ _ _ _ (show Post M g w a .nrm _ .normal a1 w1 from res h3)
            | _ => exact hp.elim
          · rename_i hj
            have hj : j ≠ id := fun e => hj (by subst e; simp)
            simp only [Option.some.injEq, Prod.mk.injEq] at hrun
            obtain ⟨rfl, rfl⟩ := hrun
            refine ih A id x cx hx st _ st1 h1 g w β a nt hdst hnt hR _ (fun ex a1 w1 hp => ?_)
            cases ex with
            | exit id' =>
              have h2 := hp.1
              subst h2
              simp only [Exit.inBlock, hj, if_false]
              exact hQ _ _ _ hp
            | _ => exact hp.elim
        · rename_i hne1 hne2
          refine ih A id x cx hx st e st' hrun g w β a nt hdst hnt hR _ (fun ex a1 w1 hp => ?_)
          cases e with
          | nrm => exact (hne1 st' hrun).elim
          | exit j => exact (hne2 j st' hrun).elim
          | _ => cases ex <;> first | exact hQ _ _ _ hp | exact hp.elim
      · cases htr
    | loop x =>
      simp only [trC] at htr
      split at htr
      · rename_i cx hx
        simp only [Option.some.injEq] at htr
        subst htr
        simp only [dstIn] at hdst
        let live := (look A.ll blk).getD []
        let J : Act → World → Nat → Prop := fun a1 w1 k => k ≤ n + 1 ∧ ∃ st1 g1 β1, Rel M g1 w1 β1 st1 a1.tmps ∧ Evo g w g1 w1 ∧ a1.tmps.size = a.tmps.size ∧ a1.defers = a.defers ∧ exec pg k (.loop live cx) st1 = some (e, st')
        refine Go.wp_loop (fun a1 w1 => ∃ k, J a1 w1 k) (fun a1 w1 => least (J a1 w1)) ⟨n + 1, Nat.le_refl _, st, g, β, hR, Evo.refl g w, rfl, rfl, hrun⟩ (fun a1 w1 hI => ?_)
        obtain ⟨k0, hk0⟩ := hI
        have hk := (least_spec hk0).1
        generalize least (J a1 w1) = k at hk
        obtain ⟨hkn, st1, g1, β1, hR1, hE1, hs1, hd1, hrun1⟩ := hk
        cases k with
        | zero => simp [exec] at hrun1
        | succ k =>
          have hrun1 : step (callWith pg (exec pg k)) (exec pg k) (.loop live cx) st1 = some (e, st') := hrun1
          have ihk := IH k (by omega)
          simp only [step] at hrun1
          split at hrun1
          · rename_i st2 h2
            refine ihk A blk x cx hx _ _ st2 h2 g1 w1 β1 a1 nt hdst (by rw [hs1]; exact hnt) (hR1.restrict live) _ (fun ex a2 w2 hp => ?_)
            cases ex with
            | normal =>
              obtain ⟨⟨g2, β2, hR2, hE2⟩, hs2, hd2⟩ := (hp : Good M g1 w1 a1 st2 a2 w2)
              have hJ : J a2 w2 k := ⟨by omega, st2, g2, β2, hR2, hE1.trans hE2, hs2.trans hs1, hd2.trans hd1, hrun1⟩
              exact ⟨⟨k, hJ⟩, Nat.lt_succ_of_le (least_spec hJ).2⟩
            | _ => exact hp.elim
          · rename_i hne
            refine ihk A blk x cx hx _ e st' hrun1 g1 w1 β1 a1 nt hdst (by rw [hs1]; exact hnt) (hR1.restrict live) _ (fun ex a2 w2 hp => ?_)
            have hq := hQ ex a2 w2 (hp.trans hE1 hs1 hd1)
            cases ex with
            | normal =>
              exfalso
              cases e with
              | nrm => exact hne st' hrun1
              | _ => exact hp
            | _ => exact hq
      · cases htr
    | exit id =>
      simp only [trC, Option.some.injEq] at htr
      subst htr
      simp only [step, Option.some.injEq, Prod.mk.injEq] at hrun
      obtain ⟨rfl, rfl⟩ := hrun
      exact Go.wp_exit (hQ _ _ _ (show Post M g w a (.exit id) st (.exit id) a w from ⟨rfl, ⟨g, β, hR, Evo.refl g w⟩, rfl, rfl⟩))
    | ret =>
      simp only [trC, Option.some.injEq] at htr
      subst htr
      simp only [step, Option.some.injEq, Prod.mk.injEq] at hrun
      obtain ⟨rfl, rfl⟩ := hrun
      exact Go.wp_ret (hQ _ _ _ (show Post M g w a .ret st .ret a w from ⟨⟨g, β, hR, Evo.refl g w⟩, rfl, rfl⟩))
    | _ =>
      simp only [trC, Option.some.injEq] at htr
      subst htr
      cases hrun

end W

/-
  A function's body, as its caller sees it.
-/
set_option linter.unusedSimpArgs false
set_option linter.unusedVariables false
namespace W
open Go (World Value Addr IntKind Program TypeId FuncId Operand Act Oper Next Result Sem BinOp UnOp Ending Exit Code Func Calls)

section
variable {P : Program} {M : Maps} {g : Gh} {w : World} {β : Nat → Nat} {st : St} {a : Act}

theorem get_args : ∀ (vs : List V) (j k : Nat), get k (argEnv j vs) = if j ≤ k then (vs[k - j]?).getD .undef else .undef
  | [], j, k => by simp [argEnv, get]
  | v :: l, j, k => by
    simp only [argEnv, get_cons, get_args l (j + 1) k]
    by_cases h : k = j
    · subst h; simp
    · by_cases h2 : j + 1 ≤ k
      · have e : k - j = (k - (j + 1)) + 1 := by omega
        simp [h, h2, show j ≤ k by omega, e]
      · simp [h, h2, show ¬ j ≤ k by omega]

theorem ArgsRep.get : ∀ {vs : List V} {cs : List Value} {j : Nat}, ArgsRep M g w j vs cs → ∀ i v, vs[i]? = some v → ∃ c, cs[i]? = some c ∧ RepA M g w (j + i) v c
  | _, _, _, .nil _, i, v, h => by simp at h
  | _, _, j, .cons h hl, 0, v, hv => by simp at hv; subst hv; exact ⟨_, rfl, h⟩
  | _, _, j, .cons h hl, i + 1, v, hv => by
    obtain ⟨c, h1, h2⟩ := hl.get i v (by simpa using hv)
    exact ⟨c, by simpa using h1, by rwa [show j + 1 + i = j + (i + 1) by omega] at h2⟩

theorem ArgsRep.length : ∀ {vs : List V} {cs : List Value} {j : Nat}, ArgsRep M g w j vs cs → vs.length = cs.length
  | _, _, _, .nil _ => rfl
  | _, _, _, .cons h hl => by simp [hl.length]

theorem entry_rel {H : List Obj} {vs : List V} {cs : List Value} (ha : ArgsRep M g w 0 vs cs) (hH : RelH M g w H) (n lo : Nat) :
    Rel M g w β { env := argEnv 0 vs, H := H, lo := lo } (cs.toArray ++ Array.replicate n Go.undef) := by
  refine ⟨hH.n, fun k => ?_, hH.h, hH.fresh, hH.gl⟩
  show RepT M g w β k (get k (argEnv 0 vs)) _
  rw [get_args]
  simp only [Nat.zero_le, if_true, Nat.sub_zero]
  cases hv : vs[k]? with
  | none => exact .s (.undef _)
  | some v =>
    obtain ⟨c, h1, h2⟩ := ha.get k v hv
    have hlt : k < cs.length := (List.getElem?_eq_some_iff.1 h1).1
    have e : (cs.toArray ++ Array.replicate n Go.undef).getD k Go.undef = c := by
      rw [Array.getD_eq_getD_getElem?, Array.getElem?_append_left (by simpa using hlt)]
      simp [h1]
    rw [e]
    simp only [Option.getD_some, Nat.zero_add] at h2 ⊢
    cases h2 with
    | s h => exact .s h
    | osl h => exact .osl h

/-- One result, as the model takes it. -/
def res1 (tmps : Array Value) : Go.ResultVar → Sem Value
  | .tmp t => pure (tmps.getD t Go.undef)
  | .cell b t => do Go.loadVar t (← Go.asAddr (tmps.getD b Go.undef))

theorem results_eq (fn : Func) (tmps : Array Value) : Go.results fn tmps = (do
    let vs ← fn.results.mapM (res1 tmps)
    pure (if h : vs.size = 1 then vs[0] else .tuple vs)) := by
  rfl

/-- One result. -/
theorem result_rep (hR : Rel M g w β st a.tmps) {rv : Go.ResultVar} {r : Rv} (ht : trRv P rv = some r) {own : Bool} {v : V} (hv : resultV own st r = some v) (hl : v.leaves = true) :
    ∃ c, (res1 a.tmps rv).run P w = .ok c w ∧
      (RepS M g w v c ∨ ∃ n xs, v = .osl xs ∧ OwnSl g w (.slot n) xs c) := by
  cases rv with
  | tmp t =>
    simp only [trRv, Option.some.injEq] at ht
    subst ht
    refine ⟨a.tmps.getD t Go.undef, rfl, ?_⟩
    simp only [resultV] at hv
    have he := hR.e t
    generalize get t st.env = x at he hv
    generalize a.tmps.getD t Go.undef = c at he
    cases he with
    | s h =>
      have hx : v = x ∨ v = copy x := by
        cases h <;> simp only [Option.some.injEq] at hv <;> cases own <;> simp only [cond_true, cond_false] at hv <;> first | exact .inl hv.symm | exact .inr hv.symm
      rcases hx with rfl | rfl
      · exact .inl h
      · exact .inl (copy_rep h)
    | osl h =>
      simp only [Option.some.injEq] at hv
      cases own with
      | true => simp only [cond_true] at hv; subst hv; exact .inr ⟨t, _, rfl, h⟩
      | false => simp only [cond_false, copy] at hv; subst hv; exact .inl (.d _ _ h.rep)
    | lp s off =>
      simp only [Option.some.injEq] at hv
      cases own <;> simp only [cond_true, cond_false, copy] at hv <;> subst hv <;> simp [V.leaves, V.ok] at hl
    | cp x b off vs hr hc hp =>
      simp only [Option.some.injEq] at hv
      cases own <;> simp only [cond_true, cond_false, copy] at hv <;> subst hv <;> simp [V.leaves, V.ok] at hl
    | box cs arr T hb ho hp hl' hr => cases hv
  | cell b t =>
    simp only [trRv, Option.map_eq_some_iff] at ht
    obtain ⟨l, hlay, rfl⟩ := ht
    simp only [resultV] at hv
    have he := hR.e b
    split at hv
    · rename_i cs hbox
      rw [hbox] at he
      generalize htm : a.tmps.getD b Go.undef = c at he
      cases he with
      | s h => cases h
      | box _ arr T hb ho hp hl' hr =>
        obtain ⟨c, h1, h2⟩ := part_rep (P := P) hlay hb hl' hr hv
        refine ⟨c, ?_, .inl h2⟩
        simp only [res1, htm, Go.asAddr, Sem.run_bind, Sem.run_pure, Result.andThen_ok, h1]
    · cases hv

theorem oks_leaves : ∀ {vs : List V}, V.ok.oks vs = true → ∀ v ∈ vs, v.ok = true
  | [], _, v, h => by simp at h
  | x :: l, h, v, hv => by
    simp only [V.ok.oks, Bool.and_eq_true] at h
    rcases List.mem_cons.1 hv with e | hv
    · subst e; exact h.1
    · exact oks_leaves h.2 v hv

theorem leaves_of_ok {v : V} (h : v.ok = true) : v.leaves = true := by cases v <;> first | exact h | rfl

/-- Several results. -/
theorem results_rep (hR : Rel M g w β st a.tmps) {own : Bool} : ∀ {rvs : List Go.ResultVar} {rs : List Rv} {vs : List V}, trRvs P rvs = some rs → resultVs own st rs = some vs → (∀ v ∈ vs, v.ok = true) →
    ∃ cs, (rvs.mapM (res1 a.tmps)).run P w = .ok cs w ∧ RepSL M g w vs cs
  | [], rs, vs, ht, hv, _ => by
    simp only [trRvs, Option.some.injEq] at ht
    subst ht
    simp only [resultVs, Option.some.injEq] at hv
    subst hv
    exact ⟨[], by simp, .nil⟩
  | rv :: rvs, rs, vs, ht, hv, hok => by
    simp only [trRvs] at ht
    split at ht
    · rename_i r l hr hl
      simp only [Option.some.injEq] at ht
      subst ht
      simp only [resultVs] at hv
      split at hv
      · rename_i v hv1
        split at hv
        · rename_i vs' hv2
          simp only [Option.some.injEq] at hv
          subst hv
          have hvok := hok v (by simp)
          obtain ⟨c, h1, h2⟩ := result_rep (P := P) hR hr hv1 (leaves_of_ok hvok)
          obtain ⟨cs, h3, h4⟩ := results_rep hR hl hv2 (fun v hv => hok v (by simp [hv]))
          have h2' : RepS M g w v c := by
            rcases h2 with h | ⟨n, xs, rfl, _⟩
            · exact h
            · cases hvok
          refine ⟨c :: cs, ?_, .cons _ _ _ _ h2' h4⟩
          rw [List.mapM_cons]
          simp only [Sem.run_bind, h1, Result.andThen_ok, h3, Sem.run_pure]
        · cases hv
      · cases hv
    · cases ht

theorem setOwn_relH {H : List Obj} (h : RelH M g w H) {b n : Nat} (hb : g.own b = some (.slot n)) (hlt : b < w.heap.size) (ℓ : Option Loc) : RelH M (g.setOwn b ℓ) w H :=
  ⟨h.n, fun id o ho => (h.h id o ho).mono (setOwn_grow g w b ℓ) (Nat.le_refl _) (fun _ _ => rfl) (by rw [h.n]; exact (List.getElem?_eq_some_iff.1 ho).1) (setOwn_kept ℓ hb (by simp)) (fun i => setOwn_kept ℓ hb (by simp)), fun x hx => by
    have : x ≠ b := by omega
    simpa [Gh.setOwn, this] using h.fresh x hx, h.gl.mono (setOwn_grow g w b ℓ)⟩

theorem run_results {fn : Func} {rs : List Rv} (htr : trRvs P fn.results.toList = some rs) (hR : Rel M g w β st a.tmps) {own : Bool} {vs : List V} (hv : resultVs own st rs = some vs) (hl : (tupOf vs).leaves = true) :
    ∃ c g', (Go.results fn a.tmps).run P w = .ok c w ∧ RelH M g' w st.H ∧ Evo g w g' w ∧ RepA M g' w 0 (tupOf vs) c := by
  have hm : ∀ cs, (fn.results.toList.mapM (res1 a.tmps)).run P w = .ok cs w →
      (Go.results fn a.tmps).run P w = .ok (match cs with | [c] => c | cs => .tuple cs.toArray) w := by
    intro cs h
    rw [results_eq, Array.mapM_eq_mapM_toList]
    simp only [Sem.run_bind, map_eq_pure_bind, h, Result.andThen_ok, Sem.run_pure]
    rcases cs with _ | ⟨c, _ | ⟨c2, cs⟩⟩ <;> simp
  by_cases h1 : ∃ v, vs = [v]
  · obtain ⟨v, rfl⟩ := h1
    simp only [tupOf] at hl ⊢
    -- one
    cases hrs : fn.results.toList with
    | nil =>
      rw [hrs] at htr
      simp only [trRvs, Option.some.injEq] at htr
      subst htr
      simp [resultVs] at hv
    | cons rv l =>
      rw [hrs] at htr
      simp only [trRvs] at htr
      split at htr
      · rename_i r rl hr hrl
        simp only [Option.some.injEq] at htr
        subst htr
        simp only [resultVs] at hv
        split at hv
        · rename_i v1 hv1
          split at hv
          · rename_i vs' hv2
            simp only [Option.some.injEq, List.cons.injEq] at hv
            obtain ⟨rfl, rfl⟩ := hv
            obtain ⟨c, k1, k2⟩ := result_rep (P := P) hR hr hv1 hl
            obtain ⟨cs, k3, k4⟩ := results_rep hR hrl hv2 (by simp)
            cases k4
            have hrun := hm [c] (by rw [hrs, List.mapM_cons]; simp only [Sem.run_bind, k1, Result.andThen_ok, k3, Sem.run_pure])
            rcases k2 with k2 | ⟨n, xs, rfl, k2⟩
            · exact ⟨c, g, hrun, hR.toH, Evo.refl g w, .s k2⟩
            · rcases k2.setOwn with ⟨b, hb, hlt, hv'⟩ | hv'
              case inr => exact ⟨c, g, hrun, hR.toH, Evo.refl g w, .osl (hv' _)⟩
              exact ⟨c, g.setOwn b (some (.slot 0)), hrun, setOwn_relH hR.toH hb hlt _, setOwn_evo _ hb (by simp), .osl (hv' _)⟩
          · cases hv
        · cases hv
      · cases htr
  · have e : tupOf vs = .tup vs := by
      rcases vs with _ | ⟨v, _ | ⟨v2, vs⟩⟩
      · rfl
      · exact absurd ⟨v, rfl⟩ h1
      · rfl
    rw [e] at hl ⊢
    have hok : V.ok.oks vs = true := by simpa [V.leaves, V.ok] using hl
    obtain ⟨cs, k1, k2⟩ := results_rep hR htr hv (oks_leaves hok)
    have hlen := k2.length
    refine ⟨.tuple cs.toArray, g, ?_, hR.toH, Evo.refl g w, .s (.tup _ _ (by simpa using k2))⟩
    rw [hm cs k1]
    rcases cs with _ | ⟨c, _ | ⟨c2, cs⟩⟩
    · rfl
    · exfalso
      apply h1
      match vs, hlen with
      | [v], _ => exact ⟨v, rfl⟩
    · rfl

end

/-- The functions of the table are the program's. -/
def Tab (P : Program) (M : Maps) (pg : Pg) : Prop :=
  ∀ f' i, look M.fm f' = some i → ∀ fn', pg.fn i = some fn' → ∃ fn A own, P.funcs[f']? = some fn ∧ (fn.name == "runtime.NumGoroutine") = false ∧ trFn M P A own fn = some fn'

theorem calls_callWith {P : Program} {M : Maps} {pg : Pg} (hT : Tab P M pg) {ex : C → St → Option (Ex × St)} (hlo : ∀ c st e st', ex c st = some (e, st') → LoOk st st') (he : ExSim P M ex)
    {i : Nat} {vs : List V} {H : List Obj} {r : Cr} (hcall : callWith pg ex i vs H = some r) {f' : FuncId} (hlook : look M.fm f' = some i) (hext : pg.fn i ≠ none) {g : Gh} {w : World} {argv : List Value} (hargs : ArgsRep M g w 0 vs argv) (hH : RelH M g w H) :
    Calls P f' argv.toArray w (CallPost M g w r) ∧ (Go.callFunc f' argv.toArray).run P w = .ok (.enter f' argv.toArray) w := by
  unfold callWith at hcall
  split at hcall
  · rename_i hn; exact absurd hn hext
  · rename_i fn' hfn'
    obtain ⟨fn, A, own, hf, hname, htr⟩ := hT f' i hlook fn' hfn'
    unfold trFn at htr
    split at htr
    · rename_i c hbody
      split at htr
      · cases htr
      · rename_i hdst
        split at htr
        · rename_i c' rs hc hrs
          simp only [Option.some.injEq] at htr
          subst htr
          simp only at hcall
          split at hcall
          · rename_i hnp
            have hrel := entry_rel (β := fun _ => 0) hargs hH (fn.ntmps - argv.toArray.size) H.length
            have hsize : fn.ntmps ≤ (argv.toArray ++ Array.replicate (fn.ntmps - argv.toArray.size) Go.undef).size := by simp; omega
            have hdst' : dstIn fn.ntmps c = true := by simpa using hdst
            have main : ∀ (e : Ex) (st' : St), ex c' { env := argEnv 0 vs, H, lo := H.length } = some (e, st') → 
                (∀ x a' w', Post M g w { tmps := argv.toArray ++ Array.replicate (fn.ntmps - argv.toArray.size) Go.undef, defers := [] } e st' x a' w' → Go.bodyPost P fn (CallPost M g w r) x a' w') → Calls P f' argv.toArray w (CallPost M g w r) ∧ (Go.callFunc f' argv.toArray).run P w = .ok (.enter f' argv.toArray) w := by
              intro e st' hrun hpost
              have hwp := he A 0 c c' hc _ e st' hrun g w _ { tmps := argv.toArray ++ Array.replicate (fn.ntmps - argv.toArray.size) Go.undef, defers := [] } fn.ntmps hdst' hsize hrel _ hpost
              have hcalls := Go.calls_of_wp (args := argv.toArray) hf hbody hwp
              have hrun' : (Go.callFunc f' argv.toArray).run P w = .ok (.enter f' argv.toArray) w := by
                have hn : ¬ fn.name = "runtime.NumGoroutine" := by simpa using hname
                simp [Go.callFunc, hf, hn, hbody]
              exact ⟨hcalls, hrun'⟩
            have keyR : ∀ {st' : St}, ex c' { env := argEnv 0 vs, H, lo := H.length } = some (.nrm, st') ∨ ex c' { env := argEnv 0 vs, H, lo := H.length } = some (.ret, st') → ∀ {vs' : List V}, resultVs own st' rs = some vs' → leave H false (tupOf vs') st' = some r →
                ∀ a' w', Good M g w { tmps := argv.toArray ++ Array.replicate (fn.ntmps - argv.toArray.size) Go.undef, defers := [] } st' a' w' →
                  a'.defers = [] ∧ ∃ v, (Go.results fn a'.tmps).run P w' = .ok v w' ∧ CallPost M g w r (.returned v) w' := by
              intro st' hrun vs' hvs hleave a' w' hg
              obtain ⟨⟨g1, β1, hR1, hE1⟩, hs1, hd1⟩ := hg
              have hl : (tupOf vs').leaves = true := by
                unfold leave at hleave
                cases hq : (tupOf vs').leaves with
                | true => rfl
                | false => simp [hq] at hleave
              obtain ⟨v, g2, k1, k2, k3, k4⟩ := run_results hrs hR1 hvs hl
              have hlo' : LoOk { env := argEnv 0 vs, H, lo := H.length } st' := by
                rcases hrun with h | h <;> exact hlo _ _ _ _ h
              obtain ⟨h1, h2⟩ := leave_post hH k2 (hE1.trans k3) (fun id h1 h2 => hlo'.old id h1 h2) k4 hleave
              exact ⟨hd1, v, k1, h1, h2⟩
            split at hcall
            · rename_i st' hrun
              split at hcall
              · rename_i vs' hvs
                refine main .nrm st' hrun (fun x a' w' hp => ?_)
                cases x with
                | normal => exact keyR (.inl hrun) hvs hcall a' w' hp
                | _ => exact hp.elim
              · cases hcall
            · rename_i st' hrun
              split at hcall
              · rename_i vs' hvs
                refine main .ret st' hrun (fun x a' w' hp => ?_)
                cases x with
                | ret => exact keyR (.inr hrun) hvs hcall a' w' hp
                | _ => exact hp.elim
              · cases hcall
            · rename_i v st' hrun
              refine main (.pan v) st' hrun (fun x a' w' hp => ?_)
              cases x with
              | panic ch =>
                obtain ⟨⟨g1, cv, rfl, hH1, hE1, hv1⟩, hd1⟩ := (hp : BadEnd M g w _ v st' ch a' w')
                have hlo' := hlo _ _ _ _ hrun
                obtain ⟨h1, g2, h2, h3, h4⟩ := leave_post hH hH1 hE1 (fun id h1 h2 => hlo'.old id h1 h2) hv1 hcall
                exact ⟨hd1, h1, g2, cv, rfl, h2, h3, h4⟩
              | _ => exact hp.elim
            · cases hcall
          · cases hcall
        · cases htr
    · cases htr

theorem does_of_calls {P : Program} {f' : FuncId} {args : Array Value} {w : World} {M : Maps} {g : Gh} {r : Cr} (h : Calls P f' args w (CallPost M g w r) ∧ (Go.callFunc f' args).run P w = .ok (.enter f' args) w) : Does P f' args w (CallPost M g w r) := by
  intro o a K Q hK hQ
  rw [h.2, Oper.upon_enter]
  refine h.1.mono (fun en w' hp => ?_)
  cases en with
  | returned v => exact hK v w' hp
  | panicked ch => exact hQ ch w' hp
  | outgrown => exact hp.elim

theorem sim_callWith {P : Program} {M : Maps} {pg : Pg} (hT : Tab P M pg) (hx : CallSim P M pg.ext) {ex : C → St → Option (Ex × St)} (hlo : ∀ c st e st', ex c st = some (e, st') → LoOk st st') (he : ExSim P M ex) :
    CallSim P M (callWith pg ex) := by
  intro i vs H r hcall f' hlook g w argv hargs hH
  cases hn : pg.fn i with
  | none =>
    have : pg.ext i vs H = some r := by
      unfold callWith at hcall
      rw [hn] at hcall
      exact hcall
    exact hx i vs H r this f' hlook g w argv hargs hH
  | some fn' => exact does_of_calls (calls_callWith hT hlo he hcall hlook (by rw [hn]; simp) hargs hH)

end W

/-
  What an operation looks at, and what it changes.
-/
set_option linter.unusedSimpArgs false
set_option linter.unusedVariables false
namespace W
open Go (IntKind BinOp UnOp)

/-- The same operation in two states. -/
structure Fr (k : OpK) (st st2 : St) (r r2 : Or) : Prop where
  pan : r2.pan = r.pan
  same : r2.same = r.same
  v : r2.v = r.v
  inn : ∀ s, s ∈ k.boxW → get s r2.st.env = get s r.st.env
  out1 : ∀ s, s ∉ k.boxW → get s r.st.env = get s st.env
  out2 : ∀ s, s ∉ k.boxW → get s r2.st.env = get s st2.env
  H1 : k.free = true → r.same = true → r.st.H = st.H ∧ r2.st.H = st2.H
  H2 : st2.H = st.H → r2.st.H = r.st.H
  lp : ∀ n, noLp n r.st.env = noLp n st.env
  lp2 : ∀ n, noLp n r2.st.env = noLp n st2.env

def Sees (k : OpK) (e e2 : Env) : Prop := ∀ s, s ∈ oSlots k.rds ∨ s ∈ k.boxR → get s e2 = get s e

theorem rd_congr {e e2 : Env} {x : O} (h : ∀ s, s ∈ oSlots [x] → get s e2 = get s e) : rd e2 x = rd e x := by
  cases x with
  | t n => simp only [rd]; rw [h n (by simp [oSlots])]
  | mv n => simp only [rd]; rw [h n (by simp [oSlots])]
  | c x => rfl
  | f i => rfl
  | g i x => rfl

theorem oSlots_append (a b : List O) : oSlots (a ++ b) = oSlots a ++ oSlots b := by
  induction a with
  | nil => rfl
  | cons x l ih => cases x <;> simp [oSlots, ih]
theorem oSlots_cons (x : O) (l : List O) : oSlots (x :: l) = oSlots [x] ++ oSlots l := oSlots_append [x] l

theorem rds_congr {e e2 : Env} : ∀ {l : List O}, (∀ s, s ∈ oSlots l → get s e2 = get s e) → l.map (rd e2) = l.map (rd e)
  | [], _ => rfl
  | x :: l, h => by
    rw [oSlots_cons] at h
    simp only [List.map_cons]
    rw [rd_congr (fun s hs => h s (by simp [hs])), rds_congr (fun s hs => h s (by simp [hs]))]

theorem optInt_congr {e e2 : Env} {x : Option O} (h : ∀ s, s ∈ oSlots x.toList → get s e2 = get s e) : optInt e2 x = optInt e x := by
  cases x with
  | none => rfl
  | some x => simp only [optInt]; rw [rd_congr (x := x) (by simpa using h)]

theorem noLp_cons_undef (n m : Nat) (e : Env) : noLp n ((m, .undef) :: e) = noLp n e := rfl
theorem noLp_spent (n : Nat) (x : O) (e : Env) : noLp n (spent x e) = noLp n e := by cases x <;> rfl
theorem noLp_spentAll (n : Nat) : ∀ (l : List O) (e : Env), noLp n (spentAll l e) = noLp n e
  | [], _ => rfl
  | x :: l, e => by simp only [spentAll]; rw [noLp_spentAll n l, noLp_spent]
theorem get_spent (x : O) (e : Env) (k : Nat) : get k (spent x e) = if k ∈ mvsOf [x] then .undef else get k e := get_spentAll [x] e k

variable {st st2 : St} {r : Or}

/-- An operation that changes nothing. -/
theorem fr_pure {k : OpK} (hst : r.st = st) {r2 : Or} (h2 : r2 = { r with st := st2 }) (hW : ∀ s, s ∈ k.boxW → get s st2.env = get s st.env) : Fr k st st2 r r2 := by
  subst h2
  refine ⟨rfl, rfl, rfl, fun s hs => (by rw [hst]; exact hW s hs), fun s _ => (by rw [hst]), fun s _ => rfl, fun _ _ => ⟨by rw [hst], rfl⟩, fun h => (by rw [hst]; exact h), fun n => (by rw [hst]), fun n => rfl⟩

/-- It empties slots. -/
theorem fr_spent {k : OpK} {l : List O} {v : V} (hW : k.boxW = mvsOf l) {same : Bool} {pan : Bool} {H' H2' : List Obj} {lo lo2 : Nat} (h1 : k.free = true → same = true → H' = st.H ∧ H2' = st2.H) (h2 : st2.H = st.H → H2' = H') :
    Fr k st st2 ⟨pan, same, v, { env := spentAll l st.env, H := H', lo := lo }⟩ ⟨pan, same, v, { env := spentAll l st2.env, H := H2', lo := lo2 }⟩ := by
  refine ⟨rfl, rfl, rfl, fun s hs => ?_, fun s hs => ?_, fun s hs => ?_, h1, h2, fun n => noLp_spentAll n l _, fun n => noLp_spentAll n l _⟩
  · rw [hW] at hs; simp only [get_spentAll, hs, if_true]
  · rw [hW] at hs; simp only [get_spentAll, hs, if_false]
  · rw [hW] at hs; simp only [get_spentAll, hs, if_false]

theorem mk_pure {v : V} (h : ok v st = some r) : r.st = st ∧ ok v st2 = some { r with st := st2 } := by
  simp only [ok, Option.some.injEq] at h; subst h; exact ⟨rfl, rfl⟩

theorem p_pick {c a b : O} (h : ePick c a b st = some r) (e1 : rd st2.env c = rd st.env c) (e2 : rd st2.env a = rd st.env a) (e3 : rd st2.env b = rd st.env b) : r.st = st ∧ ePick c a b st2 = some { r with st := st2 } := by
  unfold ePick at h ⊢; rw [e1, e2, e3]
  split at h
  · rename_i hz; (try simp only [hz]); exact mk_pure h
  · cases h
theorem p_build {z : List D} {p : List (Nat × Nat × O)} (h : eBuild z p st = some r) (e : (p.map fun (o, s, x) => (o, s, rd st2.env x)) = (p.map fun (o, s, x) => (o, s, rd st.env x))) : r.st = st ∧ eBuild z p st2 = some { r with st := st2 } := by
  unfold eBuild at h ⊢; rw [e]
  cases hk : partsOk (p.map fun (o, s, x) => (o, s, rd st.env x)) with
  | false => rw [hk] at h; simp at h
  | true =>
    rw [hk] at h
    simp only [Bool.not_true, cond_false] at h ⊢
    split at h
    · rename_i hz; (try simp only [hz]); exact mk_pure h
    · cases h
theorem p_buildSlice {z : D} {n : Nat} {p : List (Nat × O)} (h : eBuildSlice z n p st = some r) (e : (p.map fun (j, x) => (j, rd st2.env x)) = (p.map fun (j, x) => (j, rd st.env x))) : r.st = st ∧ eBuildSlice z n p st2 = some { r with st := st2 } := by
  unfold eBuildSlice at h ⊢; rw [e]
  split at h
  · rename_i hz; (try simp only [hz])
    split at h
    · rename_i hw; (try simp only [hw, if_true]); exact mk_pure h
    · cases h
  · cases h
theorem p_nilCheck {x : O} (h : eNilCheck x st = some r) (e1 : rd st2.env x = rd st.env x) : r.st = st ∧ eNilCheck x st2 = some { r with st := st2 } := by
  unfold eNilCheck at h ⊢; rw [e1]
  split at h
  · rename_i hz; (try simp only [hz]); exact mk_pure h
  · rename_i hz; (try simp only [hz]); exact mk_pure h
  · rename_i hz; (try simp only [hz]); exact mk_pure h
  · cases h
theorem p_bin {op : BinOp} {kd : Kd} {x y : O} (h : eBin op kd x y st = some r) (e1 : rd st2.env x = rd st.env x) (e2 : rd st2.env y = rd st.env y) : r.st = st ∧ eBin op kd x y st2 = some { r with st := st2 } := by
  unfold eBin at h ⊢; rw [e1, e2]
  split at h
  · rename_i hz; (try simp only [hz]); exact mk_pure h
  · cases h
theorem p_un {op : UnOp} {x : O} (h : eUn op x st = some r) (e1 : rd st2.env x = rd st.env x) : r.st = st ∧ eUn op x st2 = some { r with st := st2 } := by
  unfold eUn at h ⊢; rw [e1]
  split at h
  · rename_i hz; (try simp only [hz])
    split at h
    · rename_i hw; (try simp only [hw]); exact mk_pure h
    · cases h
  · cases h
theorem p_conv {k : IntKind} {x : O} (h : eConv k x st = some r) (e1 : rd st2.env x = rd st.env x) : r.st = st ∧ eConv k x st2 = some { r with st := st2 } := by
  unfold eConv at h ⊢; rw [e1]
  split at h
  · rename_i hz; (try simp only [hz]); exact mk_pure h
  · cases h
theorem p_bytes {x : O} (h : eBytes x st = some r) (e1 : rd st2.env x = rd st.env x) : r.st = st ∧ eBytes x st2 = some { r with st := st2 } := by
  unfold eBytes at h ⊢; rw [e1]
  split at h
  · rename_i hz; (try simp only [hz]); exact mk_pure h
  · cases h
theorem p_text {x : O} (h : eText x st = some r) (e1 : rd st2.env x = rd st.env x) (hH : st2.H = st.H) : r.st = st ∧ eText x st2 = some { r with st := st2 } := by
  unfold eText at h ⊢; rw [e1, hH]
  simp only [Bool.cond_eq_ite] at h ⊢
  split at h
  · rename_i hz; (try simp only [hz]); exact mk_pure h
  · rename_i hz; (try simp only [hz])
    split at h
    · rename_i hw; (try simp only [hw]); exact mk_pure h
    · cases h
  · rename_i hz; (try simp only [hz])
    split at h
    · rename_i hw; (try simp only [hw])
      split at h
      · rename_i hw2; (try simp only [hw2, if_true])
        split at h
        · rename_i hw3; (try simp only [hw3])
          split at h
          · rename_i hw4; (try simp only [hw4]); exact mk_pure h
          · cases h
        · cases h
      · cases h
    · cases h
  · cases h
theorem p_movS {x : O} (h : eMovS x st = some r) (e1 : rd st2.env x = rd st.env x) : r.st = st ∧ eMovS x st2 = some { r with st := st2 } := by
  unfold eMovS at h ⊢; rw [e1]
  split at h
  · rename_i hz; (try simp only [hz]); exact mk_pure h
  · cases h
theorem p_mkIfc {t : Nat} {x : O} (h : eMkIfc t x st = some r) (e1 : rd st2.env x = rd st.env x) : r.st = st ∧ eMkIfc t x st2 = some { r with st := st2 } := by
  unfold eMkIfc at h ⊢; rw [e1]
  split at h
  · rename_i hz; (try simp only [hz, if_true]); exact mk_pure h
  · cases h
theorem p_assertOk {t : Nat} {z : D} {x : O} (h : eAssertOk t z x st = some r) (e1 : rd st2.env x = rd st.env x) : r.st = st ∧ eAssertOk t z x st2 = some { r with st := st2 } := by
  unfold eAssertOk at h ⊢; rw [e1]
  split at h
  · rename_i t' v hz
    (try simp only [hz])
    cases hb : Nat.beq t' t with
    | true => simp only [hb, cond_true] at h ⊢; exact mk_pure h
    | false => simp only [hb, cond_false] at h ⊢; exact mk_pure h
  · rename_i hz; (try simp only [hz]); exact mk_pure h
  · cases h
theorem p_mkFn {f : Nat} {a b : List O} (h : eMkFn f a b st = some r) (e1 : a.map (rd st2.env) = a.map (rd st.env)) (e2 : b.map (rd st2.env) = b.map (rd st.env)) : r.st = st ∧ eMkFn f a b st2 = some { r with st := st2 } := by
  unfold eMkFn at h ⊢; rw [e1, e2]
  split at h
  · rename_i hz; (try simp only [hz, if_true]); exact mk_pure h
  · cases h
theorem p_sliceS {x : O} {a b : Option O} (h : eSliceS x a b st = some r) (e1 : rd st2.env x = rd st.env x) (e2 : optInt st2.env a = optInt st.env a) (e3 : optInt st2.env b = optInt st.env b) : r.st = st ∧ eSliceS x a b st2 = some { r with st := st2 } := by
  unfold eSliceS at h ⊢; rw [e1, e2, e3]
  split at h
  · rename_i hz1 hz2; (try simp only [hz1, hz2])
    split at h
    · rename_i hw; (try simp only [hw]); exact mk_pure h
    · cases h
  · cases h
theorem p_sliceL {n : Nat} {x : O} {a b : Option O} (h : eSliceL n x a b st = some r) (e1 : rd st2.env x = rd st.env x) (e2 : optInt st2.env a = optInt st.env a) (e3 : optInt st2.env b = optInt st.env b) : r.st = st ∧ eSliceL n x a b st2 = some { r with st := st2 } := by
  unfold eSliceL at h ⊢; rw [e1, e2, e3]
  split at h
  · rename_i hz1 hz2; (try simp only [hz1, hz2])
    split at h
    · rename_i hw; (try simp only [hw]); exact mk_pure h
    · cases h
  · cases h
theorem p_sliceA {n : Nat} {x : O} {a b : Option O} (h : eSliceA n x a b st = some r) (e1 : rd st2.env x = rd st.env x) (e2 : optInt st2.env a = optInt st.env a) (e3 : optInt st2.env b = optInt st.env b) : r.st = st ∧ eSliceA n x a b st2 = some { r with st := st2 } := by
  unfold eSliceA at h ⊢; rw [e1, e2, e3]
  split at h
  · rename_i hz1 hz2; (try simp only [hz1, hz2])
    split at h
    · rename_i hw; (try simp only [hw]); exact mk_pure h
    · cases h
  · cases h
theorem p_sliceM {n : Nat} {x : O} {a : Option O} {b m : O} (h : eSliceM n x a b m st = some r) (e1 : rd st2.env x = rd st.env x) (e2 : optInt st2.env a = optInt st.env a) (e3 : rd st2.env b = rd st.env b) (e4 : rd st2.env m = rd st.env m) : r.st = st ∧ eSliceM n x a b m st2 = some { r with st := st2 } := by
  unfold eSliceM at h ⊢; rw [e1, e2, e3, e4]
  split at h
  · rename_i hz1 hz2 hz3; (try simp only [hz1, hz2, hz3])
    split at h
    · rename_i hw; (try simp only [hw]); exact mk_pure h
    · cases h
  · cases h
theorem p_fieldAddr {x : O} {o : Nat} {l : L} (h : eFieldAddr x o l st = some r) (e1 : rd st2.env x = rd st.env x) : r.st = st ∧ eFieldAddr x o l st2 = some { r with st := st2 } := by
  unfold eFieldAddr at h ⊢; rw [e1]
  split at h
  · rename_i hz; (try simp only [hz]); exact mk_pure h
  · rename_i hz; (try simp only [hz]); exact mk_pure h
  · rename_i hz; (try simp only [hz])
    split at h
    · rename_i hw; (try simp only [hw])
      split at h
      · rename_i hq; (try simp only [hq, if_true]); exact mk_pure h
      · cases h
    · cases h
  · cases h
theorem p_field {x : O} {o : Nat} {l : L} (h : eField x o l st = some r) (e1 : rd st2.env x = rd st.env x) : r.st = st ∧ eField x o l st2 = some { r with st := st2 } := by
  unfold eField at h ⊢; rw [e1]
  split at h
  · rename_i hz; (try simp only [hz])
    split at h
    · rename_i hw; (try simp only [hw]); exact mk_pure h
    · cases h
  · rename_i hz; (try simp only [hz])
    split at h
    · rename_i hw; (try simp only [hw]); exact mk_pure h
    · cases h
  · cases h
theorem p_indexAddr {x i : O} {n : Nat} {arr : Option Nat} (h : eIndexAddr x i n arr st = some r) (e1 : rd st2.env x = rd st.env x) (e2 : rd st2.env i = rd st.env i) : r.st = st ∧ eIndexAddr x i n arr st2 = some { r with st := st2 } := by
  unfold eIndexAddr at h ⊢; rw [e2]
  split at h
  · rename_i hz; (try simp only [hz])
    cases arr with
    | some len =>
      simp only [eIndexAddrA, Bool.cond_eq_ite, e1] at h ⊢
      split at h
      · rename_i hw; (try simp only [hw, if_true])
        split at h
        · rename_i hq; (try simp only [hq]); exact mk_pure h
        · rename_i hq; (try simp only [hq]); exact mk_pure h
        · rename_i hq; (try simp only [hq])
          split at h
          · rename_i hq1; (try simp only [hq1, if_true])
            split at h
            · rename_i hq2; (try simp only [hq2])
              split at h
              · rename_i hq3; (try simp only [hq3, if_true]); exact mk_pure h
              · cases h
            · cases h
          · cases h
        · cases h
      · cases h
    | none =>
      simp only [eIndexAddrS, Bool.cond_eq_ite, e1] at h ⊢
      split at h
      · rename_i hw; (try simp only [hw, if_true])
        split at h
        · rename_i hq; (try simp only [hq])
          split at h
          · rename_i hq2; (try simp only [hq2])
            split at h
            · rename_i hq3; (try simp only [hq3, if_true]); exact mk_pure h
            · cases h
          · cases h
        · rename_i hq; (try simp only [hq])
          split at h
          · rename_i hq3; (try simp only [hq3, if_true]); exact mk_pure h
          · cases h
        · cases h
      · cases h
  · cases h
theorem p_index {x i : O} (h : eIndex x i st = some r) (e1 : rd st2.env x = rd st.env x) (e2 : rd st2.env i = rd st.env i) : r.st = st ∧ eIndex x i st2 = some { r with st := st2 } := by
  unfold eIndex at h ⊢; rw [e1, e2]
  split at h
  · rename_i hz1 hz2; (try simp only [hz1, hz2, Bool.cond_eq_ite] at h ⊢)
    split at h
    · rename_i hw; (try simp only [hw, if_true])
      split at h
      · rename_i hq; (try simp only [hq]); exact mk_pure h
      · cases h
    · cases h
  · cases h
theorem p_lookup {kk : Nat} {z : D} {m k : O} {c : Bool} (h : eLookup kk z m k c st = some r) (e1 : rd st2.env m = rd st.env m) (e2 : rd st2.env k = rd st.env k) (eH : st2.H = st.H) : r.st = st ∧ eLookup kk z m k c st2 = some { r with st := st2 } := by
  unfold eLookup at h ⊢; rw [e1, e2]
  split at h
  · rename_i hz1 hz2; (try simp only [hz1, hz2])
    split at h
    · rename_i hw; (try simp only [hw, if_true]); exact mk_pure h
    · cases h
  · rename_i hz1 hz2; (try simp only [hz1, hz2, eH])
    split at h
    · rename_i hw; (try simp only [hw])
      split at h
      · rename_i hq; (try simp only [hq, if_true])
        split at h
        · rename_i hq2; (try simp only [hq2]); exact mk_pure h
        · rename_i hq2; (try simp only [hq2]); exact mk_pure h
        · cases h
      · cases h
    · cases h
  · cases h
theorem p_extract {x : O} {i : Nat} (h : eExtract x i st = some r) (e : ∀ s, s ∈ oSlots [x] → get s st2.env = get s st.env) : r.st = st ∧ eExtract x i st2 = some { r with st := st2 } := by
  unfold eExtract at h ⊢
  split at h
  · rename_i n
    rw [e n (by simp [oSlots])]
    split at h
    · rename_i hz; (try simp only [hz])
      split at h
      · rename_i hw; (try simp only [hw]); exact mk_pure h
      · cases h
    · cases h
  · cases h

end W

/-
  What an operation looks at, and what it changes: those that change something.
-/
set_option linter.unusedSimpArgs false
set_option linter.unusedVariables false
namespace W
open Go (IntKind BinOp UnOp)

variable {st st2 : St} {r : Or}

theorem ones_noLp {v : V} (h : ∀ m o, v ≠ .lp m o) (n k : Nat) (e : Env) : noLp n ((k, v) :: e) = noLp n e := by
  cases v <;> first | rfl | exact absurd rfl (h _ _)

theorem f_mov {x : O} (h : eMov x st = some r) (e1 : rd st2.env x = rd st.env x) : ∃ r2, eMov x st2 = some r2 ∧ Fr (.mov x) st st2 r r2 := by
  simp only [eMov, ok, Option.some.injEq] at h ⊢
  subst h
  refine ⟨_, rfl, ?_⟩
  rw [e1]
  exact fr_spent (l := [x]) rfl (fun _ _ => ⟨rfl, rfl⟩) (fun h => h)

theorem f_alloc {loc : Bool} {z : List D} (h : eAlloc loc z st = some r) (eH : (!loc) = true → st2.H = st.H) : ∃ r2, eAlloc loc z st2 = some r2 ∧ Fr (.alloc loc z) st st2 r r2 := by
  cases loc with
  | true =>
    simp only [eAlloc, cond_true] at h ⊢
    obtain ⟨h1, h2⟩ := mk_pure (st2 := st2) h
    exact ⟨_, h2, fr_pure h1 rfl (fun s hs => by cases hs)⟩
  | false =>
    simp only [eAlloc, cond_false, okH, Option.some.injEq] at h ⊢
    subst h
    have e := eH rfl
    refine ⟨_, rfl, rfl, rfl, by rw [e], fun s hs => (by cases hs), fun s _ => rfl, fun s _ => rfl, fun h => (by cases h), fun _ => by rw [e], fun n => rfl, fun n => rfl⟩

theorem f_box {loc : Bool} {x : O} (h : eBox loc x st = some r) (e1 : rd st2.env x = rd st.env x) (eH : (!loc) = true → st2.H = st.H) : ∃ r2, eBox loc x st2 = some r2 ∧ Fr (.box loc x) st st2 r r2 := by
  simp only [eBox] at h ⊢
  rw [e1]
  split at h
  · cases h
  · rename_i hv
    (try rw [if_neg hv])
    cases loc with
    | true =>
      simp only [cond_true, ok, Option.some.injEq] at h ⊢
      subst h
      exact ⟨_, rfl, fr_spent (l := [x]) rfl (fun _ _ => ⟨rfl, rfl⟩) (fun h => h)⟩
    | false =>
      simp only [cond_false] at h ⊢
      split at h
      · rename_i hv2
        (try rw [if_pos hv2])
        simp only [okH, Option.some.injEq] at h ⊢
        subst h
        have e := eH rfl
        rw [e]
        exact ⟨_, rfl, fr_spent (l := [x]) rfl (fun h => by cases h) (fun h => rfl)⟩
      · cases h

theorem f_mkMap (h : eMkMap st = some r) (eH : st2.H = st.H) : ∃ r2, eMkMap st2 = some r2 ∧ Fr .mkMap st st2 r r2 := by
  simp only [eMkMap, okH, Option.some.injEq] at h ⊢
  subst h
  refine ⟨_, rfl, rfl, rfl, by rw [eH], fun s hs => (by cases hs), fun s _ => rfl, fun s _ => rfl, fun h => (by cases h), fun _ => by rw [eH], fun n => rfl, fun n => rfl⟩

theorem f_mkSlice {z : D} {a b : O} (h : eMkSlice z a b st = some r) (e1 : rd st2.env a = rd st.env a) (e2 : rd st2.env b = rd st.env b) (eH : st2.H = st.H) : ∃ r2, eMkSlice z a b st2 = some r2 ∧ Fr (.mkSlice z a b) st st2 r r2 := by
  unfold eMkSlice at h ⊢
  rw [e1, e2]
  split at h
  · rename_i hz1 hz2; (try simp only [hz1, hz2])
    split at h
    · rename_i hw; (try simp only [hw])
      split at h
      · rename_i hq; (try simp only [hq, if_true])
        simp only [okH, Option.some.injEq] at h
        subst h
        (try rw [if_pos hw])
        refine ⟨_, rfl, rfl, rfl, by rw [eH, hq], fun s hs => (by cases hs), fun s _ => rfl, fun s _ => rfl, fun h => (by cases h), fun _ => by rw [eH, hq], fun n => rfl, fun n => rfl⟩
      · cases h
    · cases h
  · cases h

theorem f_buildRow {z : D} {n : Nat} {p : List (Nat × O)} (h : eBuildRow z n p st = some r) (e : (p.map fun (j, x) => (j, rd st2.env x)) = (p.map fun (j, x) => (j, rd st.env x))) (eH : st2.H = st.H) : ∃ r2, eBuildRow z n p st2 = some r2 ∧ Fr (.buildRow z n p) st st2 r r2 := by
  unfold eBuildRow at h ⊢
  rw [e]
  split at h
  · rename_i xs hz; (try simp only [hz])
    split at h
    · rename_i hw
      (try rw [if_pos hw])
      simp only [okH, Option.some.injEq] at h
      subst h
      refine ⟨_, rfl, rfl, rfl, by rw [eH], fun s hs => (by cases hs), fun s _ => rfl, fun s _ => rfl, fun h => (by cases h), fun _ => by rw [eH], fun n => rfl, fun n => rfl⟩
    · cases h
  · cases h

theorem f_mapUpdate {kk : Nat} {m k x : O} (h : eMapUpdate kk m k x st = some r) (e1 : rd st2.env m = rd st.env m) (e2 : rd st2.env k = rd st.env k) (e3 : rd st2.env x = rd st.env x) (eH : st2.H = st.H) :
    ∃ r2, eMapUpdate kk m k x st2 = some r2 ∧ Fr (.mapUpdate kk m k x) st st2 r r2 := by
  unfold eMapUpdate at h ⊢
  rw [e1, e2, e3, eH]
  split at h
  · rename_i hz1 hz2; (try simp only [hz1, hz2])
    split at h
    · rename_i hw; (try simp only [hw])
      simp only at h
      split at h
      · rename_i hq
        (try rw [if_pos hq])
        split at h
        · rename_i hq2; (try simp only [hq2])
          simp only [okH, Option.some.injEq] at h
          subst h
          exact ⟨_, rfl, fr_spent (l := [x]) rfl (fun h => by cases h) (fun _ => rfl)⟩
        · cases h
      · cases h
    · cases h
  · cases h

theorem f_call {call : Call} (hc : CallLo call) {f : O} {l : List O} (h : eCall call f l st = some r) (e1 : rd st2.env f = rd st.env f) (e2 : l.map (rd st2.env) = l.map (rd st.env)) (eH : st2.H = st.H) :
    ∃ r2, eCall call f l st2 = some r2 ∧ Fr (.call f l) st st2 r r2 := by
  unfold eCall at h ⊢
  rw [e1, e2, eH]
  split at h
  · rename_i hz; (try simp only [hz])
    simp only at h ⊢
    split at h
    · rename_i hw
      (try rw [if_pos hw])
      split at h
      · rename_i q hq; (try simp only [hq])
        simp only [Option.some.injEq] at h
        subst h
        have hs := (hc _ _ _ _ hq).2.2
        exact ⟨_, rfl, fr_spent (l := l) rfl (fun _ hh => ⟨hs hh, by rw [eH]; exact hs hh⟩) (fun _ => rfl)⟩
      · cases h
    · cases h
  · cases h

theorem mvs_slots : ∀ {l : List O} {s : Nat}, s ∈ mvsOf l → s ∈ oSlots l
  | .mv n :: l, s, h => by
    simp only [mvsOf, oSlots, List.mem_cons] at h ⊢
    exact h.imp id mvs_slots
  | .t n :: l, s, h => by
    simp only [oSlots, List.mem_cons]
    exact .inr (mvs_slots (l := l) h)
  | .c _ :: l, s, h => mvs_slots (l := l) h
  | .f _ :: l, s, h => mvs_slots (l := l) h
  | .g _ _ :: l, s, h => mvs_slots (l := l) h

theorem mvs_cons (x : O) (l : List O) : mvsOf (x :: l) = mvsOf [x] ++ mvsOf l := by cases x <;> rfl

theorem f_append {size bytes : Nat} {x y : O} (h : eAppend size bytes x y st = some r) (e1 : rd st2.env x = rd st.env x) (e2 : rd st2.env y = rd st.env y) (hy : ∀ s, s ∈ mvsOf [y] → get s st2.env = get s st.env) :
    ∃ r2, eAppend size bytes x y st2 = some r2 ∧ Fr (.bi (.append size bytes) [x, y]) st st2 r r2 := by
  unfold eAppend at h ⊢
  rw [e1, e2]
  split at h
  · rename_i hz; (try simp only [hz])
    simp only [ok, Option.some.injEq] at h
    subst h
    have hW : ∀ s, s ∈ (OpK.bi (.append size bytes) [x, y]).boxW ↔ s ∈ mvsOf [x] ∨ s ∈ mvsOf [y] := fun s => by
      show s ∈ mvsOf [x, y] ↔ _
      rw [mvs_cons]; simp
    refine ⟨_, rfl, rfl, rfl, rfl, fun s hs => ?_, fun s hs => ?_, fun s hs => ?_, fun _ _ => ⟨rfl, rfl⟩, fun h => h, fun n => noLp_spent n x _, fun n => noLp_spent n x _⟩
    · show get s (spent x st2.env) = get s (spent x st.env)
      rw [get_spent, get_spent]
      split
      · rfl
      · rename_i hx
        exact hy s (((hW s).1 hs).resolve_left hx)
    · rw [hW, not_or] at hs
      show get s (spent x st.env) = _
      rw [get_spent, if_neg hs.1]
    · rw [hW, not_or] at hs
      show get s (spent x st2.env) = _
      rw [get_spent, if_neg hs.1]
  · cases h

theorem f_load {sl : Option Nat} {l : L} {a : O} (h : eLoad false sl l a st = some r) (e1 : rd st2.env a = rd st.env a) (e2 : ∀ s, sl = some s → get s st2.env = get s st.env) (eH : sl.isNone = true → st2.H = st.H) :
    ∃ r2, eLoad false sl l a st2 = some r2 ∧ Fr (.load false sl l a) st st2 r r2 := by
  unfold eLoad at h ⊢
  rw [e1]
  cases hs : slotIs sl (rd st.env a) with
  | false => rw [hs] at h; simp at h
  | true =>
    rw [hs] at h
    simp only [Bool.not_true, cond_false] at h ⊢
    have key : ∀ v, loadAt l st (rd st.env a) = some v → loadAt l st2 (rd st.env a) = some v := by
      intro v hv
      unfold loadAt at hv ⊢
      split at hv
      · rename_i s off hz
        have hsl : sl = some s := by
          rw [hz] at hs
          cases sl with
          | none => simp [slotIs] at hs
          | some n => exact congrArg some (by simpa [slotIs] using hs)
        rw [e2 s hsl]; exact hv
      · exact hv
      · rename_i id off hz
        have hsl : sl.isNone = true := by
          rw [hz] at hs
          cases sl with
          | none => rfl
          | some n => simp [slotIs] at hs
        rw [eH hsl]; exact hv
      · cases hv
    split at h
    · rename_i v hv
      rw [key v hv]
      obtain ⟨h1, h2⟩ := mk_pure (st2 := st2) h
      exact ⟨_, h2, fr_pure h1 rfl (fun s hs => by cases hs)⟩
    · cases h

theorem f_boxset {k : OpK} {s : Nat} {l : List O} {cs : List V} {v : V} {same pan : Bool} (hW : ∀ n, n ∈ k.boxW ↔ n = s ∨ n ∈ mvsOf l) :
    Fr k st st2 ⟨pan, same, v, { st with env := (s, .box cs) :: spentAll l st.env }⟩ ⟨pan, same, v, { st2 with env := (s, .box cs) :: spentAll l st2.env }⟩ := by
  refine ⟨rfl, rfl, rfl, fun n hn => ?_, fun n hn => ?_, fun n hn => ?_, fun _ _ => ⟨rfl, rfl⟩, fun h => h, fun n => noLp_spentAll n l _, fun n => noLp_spentAll n l _⟩
  · rw [hW] at hn
    simp only [get_cons, get_spentAll]
    rcases hn with h | h
    · simp [h]
    · simp [h]
  · rw [hW, not_or] at hn
    simp only [get_cons, get_spentAll, hn.1, hn.2, if_false]
  · rw [hW, not_or] at hn
    simp only [get_cons, get_spentAll, hn.1, hn.2, if_false]

theorem f_loadMv {sl : Option Nat} {l : L} {a : O} (h : eLoad true sl l a st = some r) (e1 : rd st2.env a = rd st.env a) (e2 : ∀ s, sl = some s → get s st2.env = get s st.env) (eH : sl.isNone = true → st2.H = st.H) :
    ∃ r2, eLoad true sl l a st2 = some r2 ∧ Fr (.load true sl l a) st st2 r r2 := by
  unfold eLoad at h ⊢
  rw [e1]
  cases hs : slotIs sl (rd st.env a) with
  | false => rw [hs] at h; simp at h
  | true =>
    rw [hs] at h
    simp only [Bool.not_true, cond_false, cond_true] at h ⊢
    cases hl : l.agg with
    | true => rw [hl] at h; simp at h
    | false =>
      rw [hl] at h
      simp only [cond_false] at h ⊢
      split at h
      · rename_i v st' hst
        unfold loadMv at hst ⊢
        split at hst
        · rename_i s off hz
          have hsl : sl = some s := by
            rw [hz] at hs
            cases sl with
            | none => simp [slotIs] at hs
            | some n => exact congrArg some (by simpa [slotIs] using hs)
          subst hsl
          rw [e2 s rfl]
          split at hst
          · rename_i cs hb
            split at hst
            · rename_i v' hc
              simp only [Option.some.injEq, Prod.mk.injEq] at hst
              obtain ⟨rfl, rfl⟩ := hst
              simp only [ok, Option.some.injEq] at h ⊢
              subst h
              exact ⟨_, rfl, f_boxset (l := []) (fun n => by simp [OpK.boxW, mvsOf])⟩
            · cases hst
          · cases hst
        · rename_i id off hz
          have hsl : sl = none := by
            rw [hz] at hs
            cases sl with
            | none => rfl
            | some n => simp [slotIs] at hs
          subst hsl
          rw [eH rfl]
          split at hst
          · rename_i cs hb
            split at hst
            · rename_i v' hc
              simp only [Option.some.injEq, Prod.mk.injEq] at hst
              obtain ⟨rfl, rfl⟩ := hst
              simp only [okH, Option.some.injEq] at h ⊢
              subst h
              exact ⟨_, rfl, rfl, rfl, rfl, fun s hs => (by cases hs), fun s _ => rfl, fun s _ => rfl, fun h => (by cases h), fun _ => rfl, fun n => rfl, fun n => rfl⟩
            · cases hst
          · cases hst
        · cases hst
      · cases h

theorem f_store {sl : Option Nat} {l : L} {a x : O} (h : eStore sl l a x st = some r) (e1 : rd st2.env a = rd st.env a) (e3 : rd st2.env x = rd st.env x) (e2 : ∀ s, sl = some s → get s st2.env = get s st.env) (eH : sl.isNone = true → st2.H = st.H) :
    ∃ r2, eStore sl l a x st2 = some r2 ∧ Fr (.store sl l a x) st st2 r r2 := by
  unfold eStore at h ⊢
  rw [e1, e3]
  cases hs : slotIs sl (rd st.env a) with
  | false => rw [hs] at h; simp at h
  | true =>
    rw [hs] at h
    simp only [Bool.not_true, cond_false] at h ⊢
    split at h
    · rename_i st' hst
      unfold storeAt at hst ⊢
      split at hst
      · rename_i s off hz
        have hsl : sl = some s := by
          rw [hz] at hs
          cases sl with
          | none => simp [slotIs] at hs
          | some n => exact congrArg some (by simpa [slotIs] using hs)
        subst hsl
        have e4 : get s (spent x st2.env) = get s (spent x st.env) := by rw [get_spent, get_spent, e2 s rfl]
        simp only [e4]
        split at hst
        · rename_i cs hb
          split at hst
          · rename_i hc
            (try rw [if_pos hc])
            split at hst
            · rename_i cs' hset
              simp only [Option.some.injEq] at hst
              subst hst
              (try simp only [hb, if_pos hc, hset])
              simp only [ok, Option.some.injEq] at h ⊢
              subst h
              exact ⟨_, rfl, f_boxset (l := [x]) (fun n => by simp [OpK.boxW])⟩
            · cases hst
          · cases hst
        · cases hst
      · rename_i id off hz
        have hsl : sl = none := by
          rw [hz] at hs
          cases sl with
          | none => rfl
          | some n => simp [slotIs] at hs
        subst hsl
        simp only [eH rfl]
        split at hst
        · rename_i cs hb
          split at hst
          · rename_i hc
            (try rw [if_pos hc])
            split at hst
            · rename_i cs' hset
              simp only [Option.some.injEq] at hst
              subst hst
              (try simp only [hb, if_pos hc, hset])
              simp only [okH, Option.some.injEq] at h ⊢
              subst h
              exact ⟨_, rfl, fr_spent (l := [x]) rfl (fun h => by cases h) (fun _ => rfl)⟩
            · cases hst
          · cases hst
        · cases hst
      · cases hst
    · cases h

theorem p_lenS {x : O} (h : eLenS x st = some r) (e1 : rd st2.env x = rd st.env x) : r.st = st ∧ eLenS x st2 = some { r with st := st2 } := by
  unfold eLenS at h ⊢; rw [e1]
  split at h
  · rename_i hz; (try simp only [hz]); exact mk_pure h
  · cases h
theorem p_lenL {x : O} (h : eLenL x st = some r) (e1 : rd st2.env x = rd st.env x) : r.st = st ∧ eLenL x st2 = some { r with st := st2 } := by
  unfold eLenL at h ⊢; rw [e1]
  split at h
  · rename_i hz; (try simp only [hz])
    split at h
    · rename_i hw; (try simp only [hw]); exact mk_pure h
    · cases h
  · rename_i hz; (try simp only [hz]); exact mk_pure h
  · cases h
theorem p_lenM {x : O} (h : eLenM x st = some r) (e1 : rd st2.env x = rd st.env x) (eH : st2.H = st.H) : r.st = st ∧ eLenM x st2 = some { r with st := st2 } := by
  unfold eLenM at h ⊢; rw [e1, eH]
  split at h
  · rename_i hz; (try simp only [hz]); exact mk_pure h
  · rename_i hz; (try simp only [hz])
    split at h
    · rename_i hw; (try simp only [hw]); exact mk_pure h
    · cases h
  · cases h

theorem parts_congr {e e2 : Env} : ∀ {p : List (Nat × Nat × O)}, (∀ s, s ∈ oSlots (p.map (·.2.2)) → get s e2 = get s e) → (p.map fun (o, s, x) => (o, s, rd e2 x)) = (p.map fun (o, s, x) => (o, s, rd e x))
  | [], _ => rfl
  | (o, n, x) :: l, h => by
    simp only [List.map_cons] at h ⊢
    rw [oSlots_cons] at h
    rw [rd_congr (fun s hs => h s (by simp [hs])), parts_congr (fun s hs => h s (by simp [hs]))]
theorem partsS_congr {e e2 : Env} : ∀ {p : List (Nat × O)}, (∀ s, s ∈ oSlots (p.map (·.2)) → get s e2 = get s e) → (p.map fun (j, x) => (j, rd e2 x)) = (p.map fun (j, x) => (j, rd e x))
  | [], _ => rfl
  | (o, x) :: l, h => by
    simp only [List.map_cons] at h ⊢
    rw [oSlots_cons] at h
    rw [rd_congr (fun s hs => h s (by simp [hs])), partsS_congr (fun s hs => h s (by simp [hs]))]

/-- An operation in two states that agree on what it looks at. -/
theorem fr_evalK {call : Call} (hc : CallLo call) {k : OpK} (h : evalK call k st = some r) (hs : Sees k st.env st2.env) (hH : k.looks = true → st2.H = st.H) : ∃ r2, evalK call k st2 = some r2 ∧ Fr k st st2 r r2 := by
  have s1 : ∀ {x : O} {l l' : List O}, k.rds = l ++ x :: l' → rd st2.env x = rd st.env x := fun {x l l'} e => rd_congr (fun s hs' => hs s (.inl (by rw [e, oSlots_append, oSlots_cons]; simp [hs'])))
  have pure : ∀ {f : St → Option Or}, evalK call k = f → (r.st = st ∧ f st2 = some { r with st := st2 }) → (∀ s, s ∈ k.boxW → get s st2.env = get s st.env) → ∃ r2, evalK call k st2 = some r2 ∧ Fr k st st2 r r2 := fun hf ⟨h1, h2⟩ hW => ⟨_, by rw [hf]; exact h2, fr_pure h1 rfl hW⟩
  have nW : ∀ {s : Nat}, s ∈ ([] : List Nat) → get s st2.env = get s st.env := fun h => by cases h
  cases k with
  | mov x => exact f_mov h (s1 (l := []) rfl)
  | pick c a b => exact pure rfl (p_pick h (s1 (l := []) rfl) (s1 (l := [c]) rfl) (s1 (l := [c, a]) rfl)) (fun s h => nW h)
  | alloc loc z => exact f_alloc h hH
  | box loc x => exact f_box h (s1 (l := []) rfl) hH
  | build z p => exact pure rfl (p_build h (parts_congr fun s h => hs s (.inl h))) (fun s h => nW h)
  | buildSlice z n p => exact pure rfl (p_buildSlice h (partsS_congr fun s h => hs s (.inl h))) (fun s h => nW h)
  | load mv sl l a =>
    have e2 : ∀ s, sl = some s → get s st2.env = get s st.env := fun s e => hs s (.inr (by subst e; simp [OpK.boxR]))
    cases mv with
    | false => exact f_load h (s1 (l := []) rfl) e2 hH
    | true => exact f_loadMv h (s1 (l := []) rfl) e2 hH
  | store sl l a x => exact f_store h (s1 (l := []) rfl) (s1 (l := [a]) rfl) (fun s e => hs s (.inr (by subst e; simp [OpK.boxR]))) hH
  | nilCheck x => exact pure rfl (p_nilCheck h (s1 (l := []) rfl)) (fun s h => nW h)
  | bin op kd x y => exact pure rfl (p_bin h (s1 (l := []) rfl) (s1 (l := [x]) rfl)) (fun s h => nW h)
  | un op x => exact pure rfl (p_un h (s1 (l := []) rfl)) (fun s h => nW h)
  | conv k x => exact pure rfl (p_conv h (s1 (l := []) rfl)) (fun s h => nW h)
  | bytes x => exact pure rfl (p_bytes h (s1 (l := []) rfl)) (fun s h => nW h)
  | text x => exact pure rfl (p_text h (s1 (l := []) rfl) (hH rfl)) (fun s h => nW h)
  | movS x => exact pure rfl (p_movS h (s1 (l := []) rfl)) (fun s h => nW h)
  | mkIfc t x => exact pure rfl (p_mkIfc h (s1 (l := []) rfl)) (fun s h => nW h)
  | mkFn f a b => exact pure rfl (p_mkFn h (rds_congr fun s h => hs s (.inl (by show s ∈ oSlots (a ++ b); rw [oSlots_append]; simp [h]))) (rds_congr fun s h => hs s (.inl (by show s ∈ oSlots (a ++ b); rw [oSlots_append]; simp [h])))) (fun s h => nW h)
  | mkMap => exact f_mkMap h (hH rfl)
  | mkSlice z a b => exact f_mkSlice h (s1 (l := []) rfl) (s1 (l := [a]) rfl) (hH rfl)
  | buildRow z n p => exact f_buildRow h (partsS_congr fun s h => hs s (.inl h)) (hH rfl)
  | assertOk t z x => exact pure rfl (p_assertOk h (s1 (l := []) rfl)) (fun s h => nW h)
  | sliceS x a b =>
    have e : ∀ s, s ∈ oSlots a.toList ∨ s ∈ oSlots b.toList → get s st2.env = get s st.env := fun s h => hs s (.inl (by
      show s ∈ oSlots (x :: (a.toList ++ b.toList)); rw [oSlots_cons, oSlots_append]; simp only [List.mem_append]; exact .inr h))
    exact pure rfl (p_sliceS h (s1 (l := []) rfl) (optInt_congr fun s h => e s (.inl h)) (optInt_congr fun s h => e s (.inr h))) (fun s h => nW h)
  | sliceL n x a b =>
    have e : ∀ s, s ∈ oSlots a.toList ∨ s ∈ oSlots b.toList → get s st2.env = get s st.env := fun s h => hs s (.inl (by
      show s ∈ oSlots (x :: (a.toList ++ b.toList)); rw [oSlots_cons, oSlots_append]; simp only [List.mem_append]; exact .inr h))
    exact pure rfl (p_sliceL h (s1 (l := []) rfl) (optInt_congr fun s h => e s (.inl h)) (optInt_congr fun s h => e s (.inr h))) (fun s h => nW h)
  | sliceA n x a b =>
    have e : ∀ s, s ∈ oSlots a.toList ∨ s ∈ oSlots b.toList → get s st2.env = get s st.env := fun s h => hs s (.inl (by
      show s ∈ oSlots (x :: (a.toList ++ b.toList)); rw [oSlots_cons, oSlots_append]; simp only [List.mem_append]; exact .inr h))
    exact pure rfl (p_sliceA h (s1 (l := []) rfl) (optInt_congr fun s h => e s (.inl h)) (optInt_congr fun s h => e s (.inr h))) (fun s h => nW h)
  | sliceM n x a b m =>
    have e : ∀ s, s ∈ oSlots a.toList → get s st2.env = get s st.env := fun s h => hs s (.inl (by
      show s ∈ oSlots (m :: b :: x :: a.toList); rw [oSlots_cons m, oSlots_cons b, oSlots_cons x]; simp only [List.mem_append]; exact Or.inr (Or.inr (Or.inr h))))
    exact pure rfl (p_sliceM h (s1 (l := [m, b]) rfl) (optInt_congr fun s h => e s h) (s1 (l := [m]) rfl) (s1 (l := []) rfl)) (fun s h => nW h)
  | stuck => cases h
  | fieldAddr x o l => exact pure rfl (p_fieldAddr h (s1 (l := []) rfl)) (fun s h => nW h)
  | field x o l => exact pure rfl (p_field h (s1 (l := []) rfl)) (fun s h => nW h)
  | indexAddr x i n arr => exact pure rfl (p_indexAddr h (s1 (l := []) rfl) (s1 (l := [x]) rfl)) (fun s h => nW h)
  | index x i => exact pure rfl (p_index h (s1 (l := []) rfl) (s1 (l := [x]) rfl)) (fun s h => nW h)
  | lookup kk z m k c => exact pure rfl (p_lookup h (s1 (l := []) rfl) (s1 (l := [m]) rfl) (hH rfl)) (fun s h => nW h)
  | mapUpdate kk m k x => exact f_mapUpdate h (s1 (l := []) rfl) (s1 (l := [m]) rfl) (s1 (l := [m, k]) rfl) (hH rfl)
  | extract x i => exact pure rfl (p_extract h (fun s h => hs s (.inl h))) (fun s h => nW h)
  | call f l => exact f_call hc h (s1 (l := []) rfl) (rds_congr fun s h => hs s (.inl (by show s ∈ oSlots (f :: l); rw [oSlots_cons]; simp [h]))) (hH rfl)
  | panic x =>
    refine pure rfl ?_ (fun s h => nW h)
    have e := s1 (x := x) (l := []) (l' := []) rfl
    simp only [evalK] at h
    show r.st = st ∧ ePanic x st2 = _
    unfold ePanic at h ⊢
    rw [e]
    split at h
    · rename_i hz; (try simp only [hz])
      simp only [Option.some.injEq] at h
      subst h
      exact ⟨rfl, rfl⟩
    · cases h
  | bi b l =>
    have hW : ∀ s, s ∈ mvsOf l → get s st2.env = get s st.env := fun s h => hs s (.inl (mvs_slots h))
    have eL : l.map (rd st2.env) = l.map (rd st.env) := rds_congr fun s h => hs s (.inl h)
    simp only [evalK, eBi] at h
    cases b with
    | lenS =>
      rcases l with _ | ⟨x, _ | ⟨y, l⟩⟩
      · cases h
      · exact pure rfl (p_lenS h (s1 (l := []) rfl)) hW
      · cases h
    | lenL =>
      rcases l with _ | ⟨x, _ | ⟨y, l⟩⟩
      · cases h
      · exact pure rfl (p_lenL h (s1 (l := []) rfl)) hW
      · cases h
    | lenM =>
      rcases l with _ | ⟨x, _ | ⟨y, l⟩⟩
      · cases h
      · exact pure rfl (p_lenM h (s1 (l := []) rfl) (hH rfl)) hW
      · cases h
    | append size bytes =>
      rcases l with _ | ⟨x, _ | ⟨y, _ | ⟨z, l⟩⟩⟩
      · cases h
      · cases h
      · exact f_append h (s1 (l := []) rfl) (s1 (l := [x]) rfl) (fun s h => hW s (by rw [mvs_cons]; simp [h]))
      · cases h
    | max =>
      refine pure (f := fun st => eBi .max l st) rfl ?_ hW
      have h' : (match maxD (l.map (rd st.env)) with | some v => ok v st | none => none) = some r := by cases l <;> exact h
      have g : eBi .max l st2 = (match maxD (l.map (rd st2.env)) with | some v => ok v st2 | none => none) := by cases l <;> rfl
      show r.st = st ∧ eBi .max l st2 = _
      rw [g, eL]
      split at h'
      · rename_i hz; (try simp only [hz]); exact mk_pure h'
      · cases h'
    | min =>
      refine pure (f := fun st => eBi .min l st) rfl ?_ hW
      have h' : (match minD (l.map (rd st.env)) with | some v => ok v st | none => none) = some r := by cases l <;> exact h
      have g : eBi .min l st2 = (match minD (l.map (rd st2.env)) with | some v => ok v st2 | none => none) := by cases l <;> rfl
      show r.st = st ∧ eBi .min l st2 = _
      rw [g, eL]
      split at h'
      · rename_i hz; (try simp only [hz]); exact mk_pure h'
      · cases h'

end W

/-
  Regions whose order is open: whatever the order, the same.
-/
set_option linter.unusedSimpArgs false
set_option linter.unusedVariables false
namespace W
open Go (IntKind BinOp UnOp Oper)

abbrev El := Op × Bool × List Nat

def stepD (call : Call) (x : El) (st : St) : Option St :=
  match wanted x.1.g st.env with
  | some true => match evalK call x.1.k st with
    | some r => bif r.pan || !(r.same || x.2.1) then none else putD (boxK x.1.k) x.2.2 x.1.dst r.v r.st
    | none => none
  | some false => some (put x.1.dst (.tup []) st)
  | none => none

def runD (call : Call) : List El → St → Option St
  | [], st => some st
  | x :: l, st => match stepD call x st with
    | some st' => runD call l st'
    | none => none

theorem runOpsD_runD {call : Call} : ∀ {l : List El} {st : St} {e : Ex} {st' : St}, runOpsD call l st = some (e, st') → e = .nrm ∧ runD call l st = some st'
  | [], st, e, st', h => by simp only [runOpsD, Option.some.injEq, Prod.mk.injEq] at h; exact ⟨h.1.symm, by rw [← h.2]; rfl⟩
  | (o, s, no) :: l, st, e, st', h => by
    simp only [runOpsD] at h
    simp only [runD, stepD]
    split at h
    · rename_i hw
      simp only [hw]
      split at h
      · rename_i r hr
        simp only [hr]
        rw [Bool.cond_eq_ite] at h ⊢
        split at h
        · cases h
        · rename_i hp
          rw [if_neg hp]
          split at h
          · rename_i st1 h1
            simp only [h1]
            exact runOpsD_runD h
          · cases h
      · cases h
    · rename_i hw
      simp only [hw]
      exact runOpsD_runD h
    · cases h

structure Eqv (st st2 : St) : Prop where
  e : ∀ k, get k st2.env = get k st.env
  H : st2.H = st.H
  lp : ∀ n, noLp n st2.env = noLp n st.env

theorem Eqv.refl (st : St) : Eqv st st := ⟨fun _ => rfl, rfl, fun _ => rfl⟩
theorem Eqv.trans {a b c : St} (h : Eqv a b) (h' : Eqv b c) : Eqv a c := ⟨fun k => (h'.e k).trans (h.e k), h'.H.trans h.H, fun n => (h'.lp n).trans (h.lp n)⟩

/-- What a step leaves, in two states. -/
structure FrD (x : El) (st st2 st1 st1' : St) (b : Nat → Bool) : Prop where
  inn : ∀ s, s ∈ x.1.wr → get s st1'.env = get s st1.env
  out1 : ∀ s, s ∉ x.1.wr → get s st1.env = get s st.env
  out2 : ∀ s, s ∉ x.1.wr → get s st1'.env = get s st2.env
  H1 : x.1.k.free = true → st1.H = st.H ∧ st1'.H = st2.H
  H2 : st2.H = st.H → st1'.H = st1.H
  lp : ∀ n, noLp n st1.env = (noLp n st.env && b n)
  lp2 : ∀ n, noLp n st1'.env = (noLp n st2.env && b n)
  no : ∀ n, hasNat n x.2.2 = true → b n = true

theorem hasNat_mem {n : Nat} : ∀ {l : List Nat}, n ∈ l → hasNat n l = true
  | m :: l, h => by
    simp only [hasNat, Bool.or_eq_true]
    rcases List.mem_cons.1 h with e | h
    · subst e; exact .inl (by simp)
    · exact .inr (hasNat_mem h)

theorem wanted_congr {g : Option (Nat × Bool)} {e e2 : Env} (h : ∀ n w, g = some (n, w) → get n e2 = get n e) : wanted g e2 = wanted g e := by
  cases g with
  | none => rfl
  | some nw => obtain ⟨n, w⟩ := nw; simp only [wanted]; rw [h n w rfl]

theorem mem_re_k {o : Op} {s : Nat} (h : s ∈ oSlots o.k.rds ∨ s ∈ o.k.boxR) : s ∈ o.re := by
  unfold Op.re
  simp only [List.mem_append]
  rcases h with h | h
  · exact .inr (.inl h)
  · exact .inr (.inr (.inl h))
theorem mem_re_w {o : Op} {s : Nat} (h : s ∈ o.k.boxW) : s ∈ o.re := by
  unfold Op.re
  simp only [List.mem_append]
  exact .inr (.inr (.inr h))
theorem mem_re_g {o : Op} {n : Nat} {w : Bool} (h : o.g = some (n, w)) : n ∈ o.re := by
  unfold Op.re; rw [h]; simp

theorem frD {call : Call} (hc : CallLo call) {x : El} {st st2 st1 : St} (h : stepD call x st = some st1) (hfree : x.2.1 = !x.1.k.free) (hs : ∀ s, s ∈ x.1.re → get s st2.env = get s st.env) (hH : x.1.k.looks = true → st2.H = st.H)
    (hbx : ∀ n, n ∈ makesBox x.1 → noLp n st.env = true → noLp n st2.env = true) : ∃ st1' b, stepD call x st2 = some st1' ∧ FrD x st st2 st1 st1' b := by
  unfold stepD at h ⊢
  rw [wanted_congr (e := st.env) (fun n w hg => hs n (mem_re_g hg))]
  split at h
  · rename_i hw
    (try simp only [hw])
    split at h
    · rename_i r hr
      obtain ⟨r2, hr2, F⟩ := fr_evalK hc hr (fun s h => hs s (mem_re_k h)) hH
      simp only [hr2]
      rw [Bool.cond_eq_ite] at h ⊢
      rw [F.pan, F.same]
      split at h
      · cases h
      · rename_i hp
        rw [if_neg hp]
        have hsame : x.1.k.free = true → r.same = true := fun hf => by
          simp only [Bool.or_eq_true, not_or, Bool.not_eq_true', hfree, hf, Bool.not_true, Bool.or_false] at hp
          simpa using hp.2
        have done : ∀ {v : V} {b : Nat → Bool} {n : Nat}, x.1.dst = some n → (∀ m (e : Env), noLp m ((n, v) :: e) = (noLp m e && b m)) → (∀ m, hasNat m x.2.2 = true → b m = true) →
            FrD x st st2 { r.st with env := (n, v) :: r.st.env } { r2.st with env := (n, v) :: r2.st.env } b := by
          intro v b n hdst hb hno
          have hwr : ∀ s, s ∈ x.1.wr ↔ s = n ∨ s ∈ x.1.k.boxW := fun s => by unfold Op.wr; rw [hdst]; simp
          refine ⟨fun s hs => ?_, fun s hs => ?_, fun s hs => ?_, fun hf => F.H1 hf (hsame hf), F.H2, fun m => ?_, fun m => ?_, hno⟩
          · show get s ((n, v) :: r2.st.env) = get s ((n, v) :: r.st.env)
            rw [get_cons, get_cons]
            split
            · rfl
            · rename_i hne; exact F.inn s (((hwr s).1 hs).resolve_left hne)
          · rw [hwr, not_or] at hs
            show get s ((n, v) :: r.st.env) = _
            rw [get_cons, if_neg hs.1]; exact F.out1 s hs.2
          · rw [hwr, not_or] at hs
            show get s ((n, v) :: r2.st.env) = _
            rw [get_cons, if_neg hs.1]; exact F.out2 s hs.2
          · show noLp m ((n, v) :: r.st.env) = _
            rw [hb, F.lp]
          · show noLp m ((n, v) :: r2.st.env) = _
            rw [hb, F.lp2]
        unfold putD at h ⊢
        rw [F.v]
        cases hdst : x.1.dst with
        | none =>
          rw [hdst] at h
          simp only [Option.some.injEq] at h
          subst h
          have hwr : ∀ s, s ∈ x.1.wr ↔ s ∈ x.1.k.boxW := fun s => by unfold Op.wr; rw [hdst]; simp
          exact ⟨_, fun _ => true, rfl, fun s hs => F.inn s ((hwr s).1 hs), fun s hs => F.out1 s (fun h => hs ((hwr s).2 h)), fun s hs => F.out2 s (fun h => hs ((hwr s).2 h)), fun hf => F.H1 hf (hsame hf), F.H2,
            fun n => by rw [F.lp]; simp, fun n => by rw [F.lp2]; simp, fun _ _ => rfl⟩
        | some n =>
          rw [hdst] at h
          simp only at h ⊢
          split at h
          · rename_i cs hv
            rw [Bool.cond_eq_ite] at h
            split at h
            · rename_i hb
              simp only [Option.some.injEq] at h
              subst h
              simp only [Bool.and_eq_true] at hb
              have hb2 : (boxK x.1.k && noLp n r2.st.env) = true := by
                rw [Bool.and_eq_true]
                refine ⟨hb.1, ?_⟩
                rw [F.lp2]
                exact hbx n (by unfold makesBox; rw [hb.1, hdst]; simp) (by rw [← F.lp]; exact hb.2)
              rw [hb2]
              simp only [cond_true]
              exact ⟨_, fun _ => true, rfl, done hdst (fun m e => by simp [noLp]) (fun _ _ => rfl)⟩
            · cases h
          · rename_i m o hv
            rw [Bool.cond_eq_ite] at h
            split at h
            · cases h
            · rename_i hb
              simp only [Option.some.injEq] at h
              subst h
              have hb' : hasNat m x.2.2 = false := by simpa using hb
              simp only [hb', cond_false]
              refine ⟨_, fun k => !Nat.beq m k, rfl, done hdst (fun k e => by simp only [noLp]; rw [Bool.and_comm]) (fun k hk => ?_)⟩
              cases hq : Nat.beq m k with
              | false => rfl
              | true =>
                have := Nat.eq_of_beq_eq_true hq
                subst this
                rw [hb'] at hk; cases hk
          · rename_i h1 h2
            simp only [Option.some.injEq] at h
            subst h
            refine ⟨_, fun _ => true, rfl, ?_⟩
            exact done hdst (fun m e => by rw [ones_noLp (fun k o => h2 k o)]; simp) (fun _ _ => rfl)
    · cases h
  · rename_i hw
    (try simp only [hw])
    simp only [Option.some.injEq] at h
    subst h
    cases hdst : x.1.dst with
    | none =>
      refine ⟨_, fun _ => true, rfl, fun s hs' => ?_, fun s _ => rfl, fun s _ => rfl, fun _ => ⟨rfl, rfl⟩, fun h => h, fun n => by simp [put], fun n => by simp [put], fun _ _ => rfl⟩
      unfold Op.wr at hs'
      rw [hdst] at hs'
      exact hs s (mem_re_w (by simpa using hs'))
    | some n =>
      have hwr : ∀ s, s ∈ x.1.wr ↔ s = n ∨ s ∈ x.1.k.boxW := fun s => by unfold Op.wr; rw [hdst]; simp
      refine ⟨_, fun _ => true, rfl, fun s hs' => ?_, fun s hs' => ?_, fun s hs' => ?_, fun _ => ⟨rfl, rfl⟩, fun h => h, fun m => by simp [put, noLp], fun m => by simp [put, noLp], fun _ _ => rfl⟩
      · show get s ((n, .tup []) :: st2.env) = get s ((n, .tup []) :: st.env)
        rw [get_cons, get_cons]
        split
        · rfl
        · rename_i hne; exact hs s (mem_re_w (((hwr s).1 hs').resolve_left hne))
      · rw [hwr, not_or] at hs'
        show get s ((n, .tup []) :: st.env) = _
        rw [get_cons, if_neg hs'.1]
      · rw [hwr, not_or] at hs'
        show get s ((n, .tup []) :: st2.env) = _
        rw [get_cons, if_neg hs'.1]
  · cases h

theorem meets_false {a b : List Nat} (h : meets a b = false) : ∀ n, n ∈ a → n ∉ b := by
  intro n hn hb
  simp only [meets, List.any_eq_false] at h
  exact h n hn (by simpa using hb)

structure Apart (o o' : Op) : Prop where
  f1 : o.k.free = true ∨ (o'.k.looks = false ∧ o'.k.free = true)
  f2 : o'.k.free = true ∨ (o.k.looks = false ∧ o.k.free = true)
  w1 : ∀ n, n ∈ o.wr → n ∉ o'.wr ∧ n ∉ o'.re
  w2 : ∀ n, n ∈ o'.wr → n ∉ o.wr ∧ n ∉ o.re

theorem apart_spec {o o' : Op} (h : apart o o' = true) : Apart o o' := by
  simp only [apart, Bool.and_eq_true, Bool.not_eq_true', Bool.and_eq_false_iff, Bool.or_eq_false_iff, Bool.not_eq_false'] at h
  obtain ⟨⟨⟨h1, h2⟩, h3⟩, h4⟩ := h
  refine ⟨by rcases h1 with h | h; exact .inl h; exact .inr h, by rcases h2 with h | h; exact .inl h; exact .inr h, fun n hn => ?_, fun n hn => ?_⟩
  · have := meets_false h3 n hn
    simpa [not_or] using this
  · have := meets_false h4 n hn
    simpa [not_or] using this

/-- Two steps change places. -/
theorem commute {call : Call} (hc : CallLo call) {x y : El} {st st1 st2 : St} (hx : stepD call x st = some st1) (hy : stepD call y st1 = some st2) (fx : x.2.1 = !x.1.k.free) (fy : y.2.1 = !y.1.k.free) (hap : Apart x.1 y.1)
    (hno : ∀ n, n ∈ makesBox x.1 → hasNat n y.2.2 = true) : ∃ st1' st2', stepD call y st = some st1' ∧ stepD call x st1' = some st2' ∧ Eqv st2 st2' := by
  -- x, once more in its own state: what it changes
  obtain ⟨_, bx, hx0, Fx⟩ := frD hc (st2 := st) hx fx (fun _ _ => rfl) (fun _ => rfl) (fun _ _ h => h)
  rw [hx] at hx0
  cases hx0
  -- y ahead
  obtain ⟨st1', by_, hy', Fy⟩ := frD hc (st2 := st) hy fy (fun s hs => (Fx.out1 s (fun h => (hap.w1 s h).2 hs)).symm) (fun hl => by
      rcases hap.f1 with h | h
      · exact (Fx.H1 h).1.symm
      · rw [h.1] at hl; cases hl) (fun n hn h => by
      rw [Fx.lp] at h; simp only [Bool.and_eq_true] at h; exact h.1)
  -- x behind it
  obtain ⟨st2', b3, hx', Fx'⟩ := frD hc (st2 := st1') hx fx (fun s hs => Fy.out2 s (fun h => (hap.w2 s h).2 hs)) (fun hl => by
      rcases hap.f2 with h | h
      · exact (Fy.H1 h).2
      · rw [h.1] at hl; cases hl) (fun n hn h => by
      rw [Fy.lp2, h, Fy.no n (hno n hn)]; rfl)
  refine ⟨st1', st2', hy', hx', fun s => ?_, ?_, fun n => ?_⟩
  · by_cases h1 : s ∈ x.1.wr
    · have h2 : s ∉ y.1.wr := (hap.w1 s h1).1
      rw [Fx'.inn s h1, Fy.out1 s h2]
    · rw [Fx'.out2 s h1]
      by_cases h2 : s ∈ y.1.wr
      · rw [Fy.inn s h2]
      · rw [Fy.out2 s h2, Fy.out1 s h2, Fx.out1 s h1]
  · rcases hap.f1 with h | h
    · -- x leaves the objects alone
      rw [(Fx'.H1 h).2]
      exact Fy.H2 (Fx.H1 h).1.symm
    · rw [(Fy.H1 h.2).1]
      exact Fx'.H2 (Fy.H1 h.2).2
  · rw [Fx'.lp2, Fy.lp2, Fy.lp, Fx.lp]
    -- what x adds is the same
    have e : (noLp n st.env && bx n) = (noLp n st.env && b3 n) := by rw [← Fx.lp, ← Fx'.lp]
    cases h1 : noLp n st.env with
    | false => simp
    | true =>
      rw [h1] at e
      simp only [Bool.true_and] at e ⊢
      rw [e, Bool.and_comm]

theorem stepD_eqv {call : Call} (hc : CallLo call) {x : El} {st st2 st1 : St} (h : stepD call x st = some st1) (fx : x.2.1 = !x.1.k.free) (he : Eqv st st2) : ∃ st1', stepD call x st2 = some st1' ∧ Eqv st1 st1' := by
  obtain ⟨st1', b, h1, F⟩ := frD hc h fx (fun s _ => he.e s) (fun _ => he.H) (fun n _ h => by rw [he.lp]; exact h)
  refine ⟨st1', h1, fun s => ?_, F.H2 he.H, fun n => by rw [F.lp, F.lp2, he.lp]⟩
  by_cases hs : s ∈ x.1.wr
  · exact F.inn s hs
  · rw [F.out2 s hs, F.out1 s hs, he.e]

theorem runD_eqv {call : Call} (hc : CallLo call) : ∀ {l : List El} {st st2 stF : St}, (∀ x ∈ l, x.2.1 = !x.1.k.free) → runD call l st = some stF → Eqv st st2 → ∃ stF2, runD call l st2 = some stF2 ∧ Eqv stF stF2
  | [], st, st2, stF, _, h, he => by simp only [runD, Option.some.injEq] at h; subst h; exact ⟨st2, rfl, he⟩
  | x :: l, st, st2, stF, hf, h, he => by
    simp only [runD] at h ⊢
    split at h
    · rename_i st1 h1
      obtain ⟨st1', h2, he2⟩ := stepD_eqv hc h1 (hf x (by simp)) he
      simp only [h2]
      exact runD_eqv hc (fun y hy => hf y (by simp [hy])) h he2
    · cases h

/-- A step moves to the front. -/
theorem to_front {call : Call} (hc : CallLo call) {x : El} {post : List El} : ∀ {pre : List El} {st stF : St}, (∀ y ∈ pre ++ x :: post, y.2.1 = !y.1.k.free) → (∀ y ∈ pre, Apart y.1 x.1 ∧ ∀ n, n ∈ makesBox y.1 → hasNat n x.2.2 = true) →
    runD call (pre ++ x :: post) st = some stF → ∃ st1 stF', stepD call x st = some st1 ∧ runD call (pre ++ post) st1 = some stF' ∧ Eqv stF stF'
  | [], st, stF, hf, _, h => by
    simp only [List.nil_append, runD] at h
    split at h
    · rename_i st1 h1
      exact ⟨st1, stF, h1, h, Eqv.refl _⟩
    · cases h
  | y :: pre, st, stF, hf, ha, h => by
    simp only [List.cons_append, runD] at h
    split at h
    · rename_i sty hy
      obtain ⟨stx, stF1, h1, h2, h3⟩ := to_front hc (pre := pre) (fun z hz => hf z (by simp only [List.cons_append, List.mem_cons]; exact .inr hz)) (fun z hz => ha z (by simp [hz])) h
      obtain ⟨st1', st2', h4, h5, h6⟩ := commute hc hy h1 (hf y (by simp)) (hf x (by simp)) (ha y (by simp)).1 (ha y (by simp)).2
      obtain ⟨stF2, h7, h8⟩ := runD_eqv hc (fun z hz => hf z (by
        simp only [List.cons_append, List.mem_cons, List.mem_append] at hz ⊢
        rcases hz with h | h
        · exact .inr (.inl h)
        · exact .inr (.inr (.inr h)))) h2 h6
      refine ⟨st1', stF2, h4, ?_, h3.trans h8⟩
      simp only [List.cons_append, runD, h5]
      exact h7
    · cases h

end W

/-
  Regions whose order is open: simulated.
-/
set_option linter.unusedSimpArgs false
set_option linter.unusedVariables false
namespace W
open Go (World Value Addr IntKind Program TypeId FuncId Operand Act Oper Next Result Sem BinOp UnOp Ending Exit Code Func)

/-! What stands before an operation. -/

def befStep (acc : Array Nat) (o : Oper) : Array Nat :=
  acc.push (o.after.foldl (fun s e => if Go.Region.binds .any e then s ||| 2 ^ e.on ||| acc.getD e.on 0 else s) 0)

theorem before_eq (ops : Array Oper) : Go.Region.before ops = ops.toList.foldl befStep #[] := by
  unfold Go.Region.before
  rw [← Array.foldl_toList]
  rfl

theorem testBit_fold (acc : Array Nat) : ∀ (l : List Go.Edge) (s j : Nat), (l.foldl (fun s e => if Go.Region.binds .any e then s ||| 2 ^ e.on ||| acc.getD e.on 0 else s) s).testBit j = true →
    s.testBit j = true ∨ ∃ e ∈ l, Go.Region.binds .any e = true ∧ (e.on = j ∨ (acc.getD e.on 0).testBit j = true)
  | [], s, j, h => .inl h
  | e :: l, s, j, h => by
    simp only [List.foldl_cons] at h
    rcases testBit_fold acc l _ j h with h | ⟨e', he', hb, hj⟩
    · split at h
      · rename_i hb
        simp only [Nat.testBit_or, Bool.or_eq_true] at h
        rcases h with (h | h) | h
        · exact .inl h
        · rw [Nat.testBit_two_pow] at h
          exact .inr ⟨e, by simp, hb, .inl (by simpa using h)⟩
        · exact .inr ⟨e, by simp, hb, .inr h⟩
      · exact .inl h
    · exact .inr ⟨e', by simp [he'], hb, hj⟩

theorem bef_size : ∀ (l : List Oper) (acc : Array Nat), (l.foldl befStep acc).size = acc.size + l.length
  | [], acc => by simp
  | o :: l, acc => by simp only [List.foldl_cons, bef_size l, befStep, Array.size_push, List.length_cons]; omega

theorem bef_old : ∀ (l : List Oper) (acc : Array Nat) (i : Nat), i < acc.size → (l.foldl befStep acc).getD i 0 = acc.getD i 0
  | [], acc, i, _ => rfl
  | o :: l, acc, i, h => by
    simp only [List.foldl_cons]
    rw [bef_old l _ i (by simp [befStep]; omega)]
    simp only [befStep, Array.getD_eq_getD_getElem?, Array.getElem?_push]
    rw [if_neg (by omega)]

theorem bef_new : ∀ (l : List Oper) (acc : Array Nat) (k : Nat) (o : Oper), l[k]? = some o → ∀ j, ((l.foldl befStep acc).getD (acc.size + k) 0).testBit j = true →
    ∃ e ∈ o.after.toList, Go.Region.binds .any e = true ∧ (e.on = j ∨ ((l.foldl befStep acc).getD e.on 0).testBit j = true)
  | [], acc, k, o, h, j, _ => by simp at h
  | o' :: l, acc, 0, o, h, j, hb => by
    simp at h; subst h
    simp only [List.foldl_cons, Nat.add_zero] at hb
    rw [bef_old l _ acc.size (by simp [befStep])] at hb
    have e0 : (befStep acc o').getD acc.size 0 = o'.after.foldl (fun s e => if Go.Region.binds .any e then s ||| 2 ^ e.on ||| acc.getD e.on 0 else s) 0 := by
      simp [befStep]
    rw [e0, ← Array.foldl_toList] at hb
    rcases testBit_fold acc _ _ j hb with h | ⟨e, he, hbi, hj⟩
    · simp at h
    · refine ⟨e, he, hbi, hj.imp id (fun h => ?_)⟩
      have hlt : e.on < acc.size := by
        rcases Nat.lt_or_ge e.on acc.size with h1 | h1
        · exact h1
        · rw [Array.getD_eq_getD_getElem?, Array.getElem?_eq_none (by omega)] at h
          simp at h
      rw [bef_old (o' :: l) acc e.on hlt]
      exact h
  | o' :: l, acc, k + 1, o, h, j, hb => by
    simp only [List.foldl_cons] at hb ⊢
    have hs : (befStep acc o').size = acc.size + 1 := by simp [befStep]
    have := bef_new l (befStep acc o') k o (by simpa using h) j (by rw [hs, show acc.size + 1 + k = acc.size + (k + 1) by omega]; exact hb)
    exact this

theorem before_spec {ops : Array Oper} {i : Nat} {o : Oper} (h : ops[i]? = some o) {j : Nat} (hb : ((Go.Region.before ops).getD i 0).testBit j = true) :
    ∃ e ∈ o.after.toList, Go.Region.binds .any e = true ∧ (e.on = j ∨ ((Go.Region.before ops).getD e.on 0).testBit j = true) := by
  rw [before_eq] at hb ⊢
  exact bef_new ops.toList #[] i o (by simpa using h) j (by simpa using hb)

section
variable {P : Program} {M : Maps} {call : Call}

theorem trOps_get {A : Ann} {rid : Nat} {ops : Array Oper} : ∀ {rest : List Oper} {i : Nat} {l : List Op}, trOps M P A rid ops i rest = some l → l.length = rest.length ∧ ∀ k o, rest[k]? = some o → ∃ q, l[k]? = some q ∧ q.dst = o.dst ∧ gOf ops o.guard = some q.g ∧
    q.k = orStuck (trOp M P A (fun k' => (mvs A rid (i + k)).contains k') (match o.dst with | some d => A.loc.contains d | none => false) o.op)
  | [], i, l, h => by simp only [trOps, Option.some.injEq] at h; subst h; exact ⟨rfl, fun k o h => by simp at h⟩
  | o' :: rest, i, l, h => by
    simp only [trOps] at h
    split at h
    · rename_i g' r hg hr
      simp only [Option.some.injEq] at h
      subst h
      obtain ⟨h1, h2⟩ := trOps_get hr
      refine ⟨by simp [h1], fun k o ho => ?_⟩
      cases k with
      | zero =>
        simp at ho
        subst ho
        exact ⟨_, rfl, rfl, hg, rfl⟩
      | succ k =>
        obtain ⟨q, q1, q2, q3, q4⟩ := h2 k o (by simpa using ho)
        exact ⟨q, by simpa using q1, q2, q3, by rw [show i + (k + 1) = i + 1 + k by omega]; exact q4⟩
    · cases h

/-- The element at an index. -/
def elAt (ops : Array Oper) (l : List Op) (i : Nat) : El := (l.getD i default, !(l.getD i default).k.free, notYet ops l i)

theorem zip_els (ops : Array Oper) (l : List Op) : (l.zipIdx.map fun (o, i) => (o, !o.k.free, notYet ops l i)) = (List.range l.length).map (elAt ops l) := by
  apply List.ext_getElem?
  intro k
  simp only [List.getElem?_map, List.getElem?_zipIdx, List.getElem?_range']
  by_cases hk : k < l.length
  · rw [List.getElem?_range hk]
    simp [hk, elAt]
  · rw [List.getElem?_eq_none (by omega), List.getElem?_eq_none (by simp; omega)]
    rfl

theorem killLp_noLp {n : Nat} : ∀ {e : Env}, noLp n e = true → killLp n e = e
  | [], _ => rfl
  | (m, v) :: e, h => by
    have h2 : noLp n e = true := by
      cases v <;> first | exact h | (simp only [noLp, Bool.and_eq_true] at h; exact h.2)
    simp only [killLp, killLp_noLp h2]
    cases v with
    | lp t o =>
      simp only [noLp, Bool.and_eq_true, Bool.not_eq_true'] at h
      simp [h.1]
    | _ => rfl

theorem putD_put {bx : Bool} {no : List Nat} {dst : Option Nat} {v : V} {st st' : St} (h : putD bx no dst v st = some st') : put dst v st = st' := by
  unfold putD at h
  cases dst with
  | none => simpa [put] using h
  | some n =>
    simp only at h
    split at h
    · rw [Bool.cond_eq_ite] at h
      split at h
      · rename_i hb
        simp only [Option.some.injEq] at h
        simp only [Bool.and_eq_true] at hb
        rw [← h]
        simp only [put, killLp_noLp hb.2]
      · cases h
    · rw [Bool.cond_eq_ite] at h
      split at h
      · cases h
      · simpa [put] using h
    · rename_i hb _
      simp only [Option.some.injEq] at h
      rw [← h, put_plain (fun cs e => hb cs e)]

/-- The unlisted ones in their order. -/
def rem (n : Nat) (listed : Array Bool) : List Nat := (List.range n).filter fun i => !listed.getD i true

theorem rem_sorted (n : Nat) (listed : Array Bool) : (rem n listed).Pairwise (· < ·) := (List.pairwise_lt_range).filter _

theorem mem_rem {n i : Nat} {listed : Array Bool} : i ∈ rem n listed ↔ i < n ∧ listed.getD i true = false := by
  simp [rem, List.mem_filter]

theorem rem_set {n i : Nat} {listed : Array Bool} (hs : listed.size = n) {pre post : List Nat} (h : rem n listed = pre ++ i :: post) : rem n (listed.setIfInBounds i true) = pre ++ post := by
  have hi : i < listed.size := by
    have : i ∈ rem n listed := by rw [h]; simp
    rw [hs]; exact (mem_rem.1 this).1
  have e : rem n (listed.setIfInBounds i true) = (rem n listed).filter (fun k => k != i) := by
    unfold rem
    rw [List.filter_filter]
    apply List.filter_congr
    intro k hk
    by_cases hki : k = i
    · subst hki; simp [hi]
    · have : i ≠ k := fun e => hki e.symm
      simp [Array.getElem?_setIfInBounds_ne this, hki]
  rw [e, h]
  have hp := rem_sorted n listed
  rw [h] at hp
  rw [List.pairwise_append] at hp
  obtain ⟨_, h2, h3⟩ := hp
  rw [List.pairwise_cons] at h2
  rw [List.filter_append, List.filter_cons]
  simp only [bne_self_eq_false, Bool.false_eq_true, if_false]
  congr 1
  · rw [List.filter_eq_self]
    intro k hk
    have := h3 k hk i (by simp)
    simp; omega
  · rw [List.filter_eq_self]
    intro k hk
    have := h2.1 k hk
    simp; omega

theorem sim_any (hcs : CallSim P M call) (hlo : CallLo call) {A : Ann} {rid nt : Nat} {ops : Array Oper} {l : List Op} (htr : trOps M P A rid ops 0 ops.toList = some l) (hlex : lexI ops = true) (hord : orderOk ops l = true)
    (hdst : ∀ o ∈ ops.toList, ∀ d, o.dst = some d → d < nt) : ∀ (fuel : Nat) (listed : Array Bool), listed.size = ops.size → (rem ops.size listed).length = fuel →
      (∀ x, listed.getD x false = true → ∀ j, ((Go.Region.before ops).getD x 0).testBit j = true → listed.getD j false = true) →
    ∀ (st stF : St) (g : Gh) (w : World) (β : Nat → Nat) (a : Act), nt ≤ a.tmps.size → runD call ((rem ops.size listed).map (elAt ops l)) st = some stF → Rel M g w β st a.tmps →
    ∀ Q : Exit → Act → World → Prop, (∀ a' w' st', Eqv stF st' → Good M g w a st' a' w' → Q .normal a' w') → Go.wpAny P .any ops Q fuel listed a w := by
  obtain ⟨hlen, hget⟩ := trOps_get htr
  have hll : l.length = ops.size := by simpa using hlen
  -- the least that is left is ready
  have noReady : ∀ {listed : Array Bool}, listed.size = ops.size → Go.Region.ready .any ops listed = [] → rem ops.size listed = [] := by
    intro listed hs hr
    cases hq : rem ops.size listed with
    | nil => rfl
    | cons i t =>
      exfalso
      have hi : i ∈ rem ops.size listed := by rw [hq]; simp
      obtain ⟨h1, h2⟩ := mem_rem.1 hi
      have : i ∈ Go.Region.ready .any ops listed := by
        rw [Go.mem_ready]
        refine ⟨h2, ops[i], by simp [h1], fun e he hb => ?_⟩
        simp only [lexI, List.all_eq_true] at hlex
        have h3 := hlex (ops[i], i) (by rw [List.mem_zipIdx_iff_getElem?]; simp [h1]) e (by simpa using he)
        simp only [hb, Bool.not_true, Bool.false_or, Nat.blt_eq] at h3
        -- it's smaller: listed
        cases hl : listed.getD e.on false with
        | true => rfl
        | false =>
          exfalso
          have : e.on ∈ rem ops.size listed := mem_rem.2 ⟨by omega, by
            have hlt : e.on < listed.size := by omega
            simp only [Array.getD_eq_getD_getElem?, Array.getElem?_eq_getElem hlt, Option.getD_some] at hl ⊢
            exact hl⟩
          have hp := rem_sorted ops.size listed
          rw [hq] at this hp
          rcases List.mem_cons.1 this with h | h
          · omega
          · have := (List.pairwise_cons.1 hp).1 _ h; omega
      rw [hr] at this
      cases this
  intro fuel
  induction fuel with
  | zero =>
    intro listed hs hf hcl st stF g w β a hnt hrun hR Q hQ
    have hrem : rem ops.size listed = [] := List.eq_nil_of_length_eq_zero hf
    rw [hrem] at hrun
    simp only [List.map_nil, runD, Option.some.injEq] at hrun
    subst hrun
    refine ⟨?_, hQ a w st (Eqv.refl _) ⟨⟨g, β, hR, Evo.refl g w⟩, rfl, rfl⟩⟩
    cases hq : Go.Region.ready .any ops listed with
    | nil => rfl
    | cons i t =>
      exfalso
      have hi : i ∈ Go.Region.ready .any ops listed := by rw [hq]; simp
      rw [Go.mem_ready] at hi
      obtain ⟨h1, o, ho, _⟩ := hi
      have : i ∈ rem ops.size listed := mem_rem.2 ⟨(Array.getElem?_eq_some_iff.1 ho).1, h1⟩
      rw [hrem] at this; cases this
  | succ fuel ih =>
    intro listed hs hf hcl st stF g w β a hnt hrun hR Q hQ
    refine ⟨fun hr => ?_, fun i hi => ?_⟩
    · have := noReady hs hr
      rw [this] at hf; simp at hf
    · rw [Go.mem_ready] at hi
      obtain ⟨h1, o, ho, hpre⟩ := hi
      have hilt := (Array.getElem?_eq_some_iff.1 ho).1
      have him : i ∈ rem ops.size listed := mem_rem.2 ⟨hilt, h1⟩
      obtain ⟨pre, post, hrem⟩ := List.append_of_mem him
      -- what stands before i is listed
      have hbef : ∀ j, ((Go.Region.before ops).getD i 0).testBit j = true → listed.getD j false = true := fun j hj => by
        obtain ⟨e, he, hb, hj⟩ := before_spec ho hj
        have hl := hpre e (by simpa using he) hb
        rcases hj with rfl | hj
        · exact hl
        · exact hcl _ hl j hj
      have hwhole : (rem ops.size listed).map (elAt ops l) = pre.map (elAt ops l) ++ elAt ops l i :: post.map (elAt ops l) := by rw [hrem]; simp
      rw [hwhole] at hrun
      obtain ⟨q, hq1, hq2, hq3, hq4⟩ := hget i o (by simpa using ho)
      have hel : (elAt ops l i).1 = q := by simp [elAt, hq1]
      have hsorted := rem_sorted ops.size listed
      obtain ⟨st1, stF', hstep, hrest, heqv⟩ := to_front hlo (x := elAt ops l i) (pre := pre.map (elAt ops l)) (post := post.map (elAt ops l)) (fun y hy => by
          have : ∃ k, y = elAt ops l k := by
            simp only [List.mem_append, List.mem_map, List.mem_cons] at hy
            rcases hy with ⟨k, _, h⟩ | h | ⟨k, _, h⟩
            · exact ⟨k, h.symm⟩
            · exact ⟨i, h⟩
            · exact ⟨k, h.symm⟩
          obtain ⟨k, rfl⟩ := this
          rfl) (fun y hy => by
          obtain ⟨k, hk, rfl⟩ := List.mem_map.1 hy
          have hkm : k ∈ rem ops.size listed := by rw [hrem]; simp [hk]
          have hki : k < i := by
            rw [hrem, List.pairwise_append] at hsorted
            exact hsorted.2.2 k hk i (by simp)
          have hnb : ((Go.Region.before ops).getD i 0).testBit k = false := by
            cases hq : ((Go.Region.before ops).getD i 0).testBit k with
            | false => rfl
            | true =>
              have := hbef k hq
              have h2 := (mem_rem.1 hkm).2
              have hlt : k < listed.size := by rw [hs]; exact (mem_rem.1 hkm).1
              simp only [Array.getD_eq_getD_getElem?, Array.getElem?_eq_getElem hlt, Option.getD_some] at this h2
              rw [this] at h2; cases h2
          have hkl : k < l.length := by rw [hll]; omega
          have hil : i < l.length := by rw [hll]; omega
          have ek : (elAt ops l k).1 = l[k] := by simp [elAt, hkl]
          have ei : (elAt ops l i).1 = l[i] := by simp [elAt, hil]
          refine ⟨?_, fun n hn => ?_⟩
          · simp only [orderOk, List.all_eq_true] at hord
            have := hord (l[k], k) (by rw [List.mem_zipIdx_iff_getElem?]; simp [hkl]) (l[i], i) (by rw [List.mem_zipIdx_iff_getElem?]; simp [hil])
            simp only [Bool.or_eq_true, Bool.not_eq_true', hnb, Bool.false_eq_true, or_false] at this
            rw [ek, ei]
            refine apart_spec (this.resolve_left ?_)
            have hbl : Nat.blt k i = true := by simpa using hki
            rw [hbl]; simp
          · refine hasNat_mem ?_
            show n ∈ notYet ops l i
            unfold notYet
            rw [List.mem_flatMap]
            refine ⟨(l[k], k), by rw [List.mem_zipIdx_iff_getElem?]; simp [hkl], ?_⟩
            simp only [hnb, Bool.false_eq_true, if_false]
            rw [ek] at hn
            exact hn) hrun
      have hrem' := rem_set hs hrem
      have hf' : (rem ops.size (listed.setIfInBounds i true)).length = fuel := by
        rw [hrem'] ; rw [hrem] at hf; simp at hf ⊢; omega
      have hcl' : ∀ x, (listed.setIfInBounds i true).getD x false = true → ∀ j, ((Go.Region.before ops).getD x 0).testBit j = true → (listed.setIfInBounds i true).getD j false = true := by
        intro x hx j hj
        by_cases hxi : i = x
        · subst hxi; exact Go.getD_set_true (hbef j hj)
        · rw [Go.getD_set_ne false hxi] at hx
          exact Go.getD_set_true (hcl x hx j hj)
      have go : ∀ {g1 : Gh} {w1 : World} {β1 : Nat → Nat} {a1 : Act}, a1.tmps.size = a.tmps.size → a1.defers = a.defers → Rel M g1 w1 β1 st1 a1.tmps → Evo g w g1 w1 → Go.wpAny P .any ops Q fuel (listed.setIfInBounds i true) a1 w1 := by
        intro g1 w1 β1 a1 hs1 hd1 hR1 hE1
        refine ih _ (by simpa using hs) hf' hcl' st1 stF' g1 w1 β1 a1 (by rw [hs1]; exact hnt) (by rw [hrem', List.map_append]; exact hrest) hR1 Q (fun a' w' st' he hg => ?_)
        exact hQ a' w' st' (heqv.trans he) (hg.trans hE1 hs1 hd1)
      have hd : DstOk o a := fun n hn => Nat.lt_of_lt_of_le (hdst o (by
        have := Array.mem_of_getElem? ho
        simpa using this) n hn) hnt
      unfold Go.wpOp
      simp only [ho]
      unfold stepD at hstep
      rw [hel] at hstep
      split at hstep
      · rename_i hw
        rw [wanted_rep hR hq3 hw]
        simp only [if_true]
        refine .inl ?_
        split at hstep
        · rename_i r hr
          rw [Bool.cond_eq_ite] at hstep
          split at hstep
          · cases hstep
          · rename_i hp
            have hpan : r.pan = false := by
              simp only [Bool.or_eq_true, not_or] at hp
              simpa using hp.1
            have hput := putD_put hstep
            have hq5 := hr
            rw [hq4] at hq5
            have hq6 := orStuck_some hq5
            rw [← hq4] at hq6
            refine sim_op hcs hd hR hq6 (fun hloc hn => ?_) hr ⟨fun _ c w1 g1 β1 hR1 hE1 => ?_, fun hp2 => ?_⟩
            · rw [hn] at hloc; simp at hloc
            · rw [← hq2, hput, hq2] at hR1
              exact go (put_size _ _ _) (put_defers _ _ _) hR1 hE1
            · rw [hpan] at hp2; cases hp2
        · cases hstep
      · rename_i hw
        rw [wanted_rep hR hq3 hw]
        simp only [Bool.false_eq_true, if_false]
        simp only [Option.some.injEq] at hstep
        subst hstep
        exact go (put_size _ _ _) (put_defers _ _ _) (by rw [hq2]; exact rel_skip hR hd) (Evo.refl g w)
      · cases hstep

theorem openSim (hm : P.follows .mixedOrders = true) (hcs : CallSim P M call) (hlo : CallLo call) : OpenSim P M call := by
  intro A rid ops l htr hlex hord st e st' hrun g w β a nt hdst hnt hR Q hQ
  obtain ⟨rfl, hrunD⟩ := runOpsD_runD hrun
  have hll : l.length = ops.size := by simpa using (trOps_get htr).1
  refine Go.wp_region_any hm ?_
  have hall : ∀ i, i < ops.size → (Array.replicate ops.size false).getD i true = false := fun i hi => by simp [hi]
  have hrem : rem ops.size (Array.replicate ops.size false) = List.range ops.size := by
    unfold rem
    rw [List.filter_eq_self]
    intro i hi
    rw [hall i (by simpa using hi)]; rfl
  have hsm : SameMem w { w with drawn := w.drawn + 1 } := ⟨rfl, rfl, rfl⟩
  refine sim_any hcs hlo htr hlex hord hdst ops.size _ (by simp) (by rw [hrem]; simp) (fun x hx => ?_) st st' g { w with drawn := w.drawn + 1 } β a hnt (by rw [hrem, ← hll, ← zip_els]; exact hrunD) (hR.sameMem hsm) Q (fun a' w' st2 he hg => ?_)
  · exfalso
    simp only [Array.getD_eq_getD_getElem?] at hx
    by_cases hlt : x < ops.size
    · simp [hlt] at hx
    · rw [Array.getElem?_eq_none (by simp; omega)] at hx; simp at hx
  · refine hQ .normal a' w' (show Post M g w a .nrm st' .normal a' w' from ?_)
    obtain ⟨⟨g1, β1, hR1, hE1⟩, hs1, hd1⟩ := hg
    refine ⟨⟨g1, β1, ⟨?_, fun k => ?_, fun id o ho => ?_, hR1.fresh, hR1.gl⟩, (hsm.evo g).trans hE1⟩, hs1, hd1⟩
    · rw [hR1.n, he.H]
    · rw [← he.e k]; exact hR1.e k
    · exact hR1.h id o (by rw [he.H]; exact ho)

/-- Calls by the small semantics are the model's. -/
theorem sound {pg : Pg} (hm : P.follows .mixedOrders = true) (hT : Tab P M pg) (hx : CallSim P M pg.ext) (hxlo : CallLo pg.ext) (n : Nat) : CallSim P M (callN pg n) := by
  have key : ∀ n, ExSim P M (exec pg n) := sim_exec (fun n h => sim_callWith hT hx (lo_exec hxlo n) h) (fun n hcs => openSim hm hcs (lo_callWith hxlo (lo_exec hxlo n)))
  exact sim_callWith hT hx (lo_exec hxlo n) (key n)

/-- The same for a function of the table, as a contract. -/
theorem sound_calls {pg : Pg} (hm : P.follows .mixedOrders = true) (hT : Tab P M pg) (hx : CallSim P M pg.ext) (hxlo : CallLo pg.ext) {n i : Nat} {vs : List V} {H : List Obj} {r : Cr} (hcall : callN pg n i vs H = some r) {f' : FuncId} (hlook : look M.fm f' = some i) (hext : pg.fn i ≠ none)
    {g : Gh} {w : World} {argv : List Value} (hargs : ArgsRep M g w 0 vs argv) (hH : RelH M g w H) : Go.Calls P f' argv.toArray w (CallPost M g w r) := by
  have key : ∀ n, ExSim P M (exec pg n) := sim_exec (fun n h => sim_callWith hT hx (lo_exec hxlo n) h) (fun n hcs => openSim hm hcs (lo_callWith hxlo (lo_exec hxlo n)))
  exact (calls_callWith hT (lo_exec hxlo n) (key n) hcall hlook hext hargs hH).1

end
end W

/-
  Functions that are met by a contract of their own: what such a contract must say; strings.Join.
-/
set_option linter.unusedSimpArgs false
set_option linter.unusedVariables false
namespace W
open Go (World Value Addr IntKind Program TypeId FuncId Operand Act Oper Next Result Sem BinOp UnOp Ending Exit Code Func Calls)
open Go.RowKit (Below)

/-- Where all below the heap's end is as it was, memory stands for what it stood for. -/
theorem below_evo {M : Maps} {g : Gh} {w w' : World} {H : List Obj} (hH : RelH M g w H) (h : Below w.heap.size w w') : RelH M g w' H ∧ Evo g w g w' := by
  have hg : Grow g w g w' := ⟨h.size, fun _ => Nat.le_refl _, fun b o ho => by
    have hb : b < w.heap.size := by
      rcases Nat.lt_or_ge b w.heap.size with h1 | h1
      · exact h1
      · rw [(hH.fresh b h1).2] at ho; omega
    simp only [World.cell?, h.block b hb]⟩
  have hk : ∀ ℓ, Kept g w g w' ℓ := fun ℓ => ⟨fun b hb => by
    have : b < w.heap.size := by
      rcases Nat.lt_or_ge b w.heap.size with h1 | h1
      · exact h1
      · rw [(hH.fresh b h1).1] at hb; cases hb
    exact ⟨hb, h.block b this, rfl⟩⟩
  exact ⟨⟨hH.n, fun id o ho => (hH.h id o ho).mono hg (Nat.le_refl _) (fun _ _ => rfl) (by rw [hH.n]; exact (List.getElem?_eq_some_iff.1 ho).1) (hk _) (fun i => hk _), fun b hb => hH.fresh b (Nat.le_trans h.size hb), hH.gl.mono hg⟩,
    ⟨hg, Nat.le_refl _, fun _ _ => rfl, fun b hb _ => ⟨rfl, h.block b hb, rfl⟩, h.os, h.output⟩⟩

def strs : List D → Option (List (List Nat))
  | [] => some []
  | .s t :: l => match strs l with
    | some L => some (t :: L)
    | none => none
  | _ => none
def joinN (sep : List Nat) : List (List Nat) → List Nat
  | [] => []
  | [x] => x
  | x :: y :: l => x ++ (sep ++ joinN sep (y :: l))
def joinG (l : List D) (sep : List Nat) (H : List Obj) : Option Cr :=
  match l with
  | [] => none
  | x :: l => match strs (x :: l) with
    | some L => bif Nat.ble L.length 1000000 && Nat.ble (joinN sep L).length 1000000 then some ⟨false, true, .d (.s (joinN sep L)), H, H.length⟩ else none
    | none => none
def joinR (off len : Nat) (sep : List Nat) (H : List Obj) (o : Option Obj) : Option Cr :=
  match o with
  | some (.cells cs) => bif Nat.ble (off + len) cs.length then (match allD ((cs.drop off).take len) with
    | some ds => bif Nat.beq ds.length len then joinG ds sep H else none
    | none => none) else none
  | _ => none
/-- strings.Join, of strings that are there. -/
def joinX (vs : List V) (H : List Obj) : Option Cr :=
  match vs with
  | [.d (.sl l), .d (.s sep)] => joinG l sep H
  | [.osl l, .d (.s sep)] => joinG l sep H
  | [.rs id off len _, .d (.s sep)] => joinR off len sep H H[id]?
  | _ => none

def JoinC (P : Program) (K : FuncId) : Prop :=
  ∀ (bk o c : Nat) (xs : List ByteArray) (sep : ByteArray) (w : World), (∀ (j : Nat) x, xs[j]? = some x → w.cell? ⟨bk, o + j, none⟩ = some (.string x)) → bk < w.heap.size → xs.length ≤ 140737488355328 → xs.length ≤ c →
    (Go.Lib.join (xs.map (·.data.toList)) sep.data.toList).length ≤ 140737488355328 →
    Calls P K #[.slice (some ⟨bk, o, none⟩) xs.length c, .string sep] w fun e w' => e = .returned (.string ⟨(Go.Lib.join (xs.map (·.data.toList)) sep.data.toList).toArray⟩) ∧ Below w.heap.size w w'

theorem joinN_eq (sep : List UInt8) : ∀ xs : List (List UInt8), (Go.Lib.join xs sep).map (·.toNat) = joinN (sep.map (·.toNat)) (xs.map (·.map (·.toNat)))
  | [] => rfl
  | [x] => by rw [Go.Lib.join_one]; rfl
  | x :: y :: l => by
    have ih := joinN_eq sep (y :: l)
    rw [Go.Lib.join_cons] at ih ⊢
    have e : Go.Lib.joinTail sep (y :: l) = sep ++ (y ++ Go.Lib.joinTail sep l) := by simp [Go.Lib.joinTail]
    rw [e]
    simp only [List.map_append, List.map_cons] at ih ⊢
    rw [joinN, ← ih]

theorem strs_cells : ∀ {l : List D} {L : List (List Nat)}, strs l = some L → l = L.map D.s
  | [], L, h => by simp only [strs, Option.some.injEq] at h; subst h; rfl
  | x :: l, L, h => by
    cases x with
    | s t =>
      simp only [strs] at h
      split at h
      · rename_i L' h'
        simp only [Option.some.injEq] at h
        subst h
        rw [strs_cells h']; rfl
      · cases h
    | _ => simp [strs] at h
theorem flat_s (L : List (List Nat)) : (L.map D.s).flatMap D.cells = L.map D.s := by
  induction L with
  | nil => rfl
  | cons x l ih => simp only [List.map_cons, List.flatMap_cons, ih]; rfl
theorem rep_strs {pub : Nat → Nat} {w : World} : ∀ {L : List (List Nat)} {vs : List Value}, RepDL pub w (L.map D.s) vs → ∃ bs : List ByteArray, vs = bs.map .string ∧ L = bs.map (fun b => b.data.toList.map (·.toNat))
  | [], _, .nil => ⟨[], rfl, rfl⟩
  | t :: L, _, .cons _ _ _ _ h hl => by
    obtain ⟨bs, rfl, rfl⟩ := rep_strs hl
    cases h with
    | s _ x hx => exact ⟨x :: bs, rfl, by simp [hx]⟩

theorem joinG_calls {P : Program} {M : Maps} {K : FuncId} (hJ : JoinC P K) {g : Gh} {w : World} {l : List D} {sep : List Nat} {H : List Obj} {r : Cr} (h : joinG l sep H = some r) {b off cap : Nat} {vs : List Value} (hr : RepDL g.pub w (l.flatMap D.cells) vs)
    (hcc : ∀ j v, vs[j]? = some v → w.cell? ⟨b, off + j, none⟩ = some v) (hcap : l.length ≤ cap) {s : ByteArray}
    (hs : s.data.toList.map (·.toNat) = sep) (hH : RelH M g w H) : Calls P K #[.slice (some ⟨b, off, none⟩) l.length cap, .string s] w (CallPost M g w r) := by
  unfold joinG at h
  split at h
  · cases h
  · rename_i x l
    split at h
    · rename_i L hL
      rw [Bool.cond_eq_ite] at h
      split at h
      · rename_i hb
        simp only [Option.some.injEq] at h
        subst h
        simp only [Bool.and_eq_true, Nat.ble_eq] at hb
        have hl := strs_cells hL
        rw [hl, flat_s] at hr
        obtain ⟨bs, rfl, rfl⟩ := rep_strs hr
        have hlen : (x :: l).length = bs.length := by rw [hl]; simp
        rw [hlen] at hcap ⊢
        have hj := joinN_eq s.data.toList (bs.map (·.data.toList))
        rw [hs, List.map_map] at hj
        have hbl : bs.length ≤ 1000000 := by simpa using hb.1
        have hjl : (Go.Lib.join (bs.map (·.data.toList)) s.data.toList).length ≤ 1000000 := by
          have := congrArg List.length hj
          rw [List.length_map] at this
          rw [this]
          exact hb.2
        have hcell : ∀ (j : Nat) x, bs[j]? = some x → w.cell? ⟨b, off + j, none⟩ = some (.string x) := fun j x hx => hcc j _ (by rw [List.getElem?_map, hx]; rfl)
        have hbk : b < w.heap.size := by
          cases bs with
          | nil => simp at hlen
          | cons y ys =>
            have := hcell 0 y rfl
            rcases Nat.lt_or_ge b w.heap.size with h1 | h1
            · exact h1
            · exfalso
              have hn : w.heap[b]? = none := by simp [h1]
              simp [World.cell?, hn] at this
        refine (hJ b off cap bs s w hcell hbk (by omega) hcap (by omega)).mono ?_
        rintro e w' ⟨rfl, hB⟩
        obtain ⟨h1, h2⟩ := below_evo hH hB
        exact ⟨rfl, g, h1, h2, .s (.d _ _ (.s _ _ hj))⟩
      · cases h
    · cases h
theorem joinD_calls {P : Program} {M : Maps} {K : FuncId} (hJ : JoinC P K) {g : Gh} {w : World} {l : List D} {sep : List Nat} {H : List Obj} {r : Cr} (h : joinG l sep H = some r) {c : Value} {s : ByteArray} (hc : RepD g.pub w (.sl l) c)
    (hs : s.data.toList.map (·.toNat) = sep) (hH : RelH M g w H) : Calls P K #[c, .string s] w (CallPost M g w r) := by
  cases hc with
  | sl0 a cap => simp [joinG] at h
  | sl _ b off cap sz vs hne hsz hr hcc hp hcap hone => exact joinG_calls hJ h hr hcc hcap hs hH
theorem joinR_calls {P : Program} {M : Maps} {K : FuncId} (hJ : JoinC P K) {g : Gh} {w : World} {id off len cap : Nat} {sep : List Nat} {H : List Obj} {r : Cr} (h : joinR off len sep H H[id]? = some r) (hid : id < g.n) (hcap : len ≤ cap) {s : ByteArray}
    (hs : s.data.toList.map (·.toNat) = sep) (hH : RelH M g w H) : Calls P K #[.slice (some ⟨g.φ id, off, none⟩) len cap, .string s] w (CallPost M g w r) := by
  unfold joinR at h
  split at h
  · rename_i cs hob
    rw [Bool.cond_eq_ite] at h
    split at h
    · rename_i hle
      split at h
      · rename_i ds hds
        rw [Bool.cond_eq_ite] at h
        split at h
        · rename_i hlen
          have hlen := Nat.eq_of_beq_eq_true hlen
          have hle := Nat.le_of_ble_eq_true hle
          cases hH.h id _ hob with
          | cells _ arr T hb ho hp hl hr =>
            obtain ⟨vs, _, h1, h2⟩ := cells_part (M := M) (g := g) hds hl hle hb (fun i x v hx hv => (hr i x v hx hv).read)
            have hone : ds.flatMap D.cells = ds := by
              cases ds with
              | nil => rfl
              | cons x ds =>
                unfold joinG at h
                simp only at h
                split at h
                · rename_i L hL
                  rw [strs_cells hL, flat_s]
                · cases h
            have := joinG_calls hJ h (b := g.φ id) (off := off) (cap := cap) (vs := vs) (by rw [hone]; exact h1) h2 (by omega) hs hH
            rwa [hlen] at this
        · cases h
      · cases h
    · cases h
  · cases h

theorem joinX_sim {P : Program} {M : Maps} {K : FuncId} (hJ : JoinC P K) {fn : Func} {c : Code} (hf : P.funcs[K]? = some fn) (hname : (fn.name == "runtime.NumGoroutine") = false) (hbody : fn.body = some c)
    {g : Gh} {w : World} {vs : List V} {H : List Obj} {r : Cr} (h : joinX vs H = some r) {argv : List Value} (ha : ArgsRep M g w 0 vs argv) (hH : RelH M g w H) : Does P K argv.toArray w (CallPost M g w r) := by
  refine does_of_calls ⟨?_, ?_⟩
  · unfold joinX at h
    split at h
    · rename_i l sep
      cases ha with
      | cons h0 ha => cases ha with
        | cons h1 ha => cases ha; cases h0 with
          | s h0 => cases h0 with
            | d _ _ h0 => cases h1 with
              | s h1 => cases h1 with
                | d _ _ h1 => cases h1 with
                  | s _ x hx => exact joinD_calls hJ h h0 hx hH
    · rename_i l sep
      cases ha with
      | cons h0 ha => cases ha with
        | cons h1 ha => cases ha; cases h0 with
          | s h0 => cases h0
          | osl h0 => cases h1 with
              | s h1 => cases h1 with
                | d _ _ h1 => cases h1 with
                  | s _ x hx => exact joinD_calls hJ h h0.rep hx hH
    · rename_i id off len cap sep
      cases ha with
      | cons h0 ha => cases ha with
        | cons h1 ha => cases ha; cases h0 with
          | s h0 => cases h0 with
            | rs _ _ _ _ hid hcap => cases h1 with
              | s h1 => cases h1 with
                | d _ _ h1 => cases h1 with
                  | s _ x hx => exact joinR_calls hJ h hid hcap hx hH
    · cases h
  · have hn : ¬ fn.name = "runtime.NumGoroutine" := by simpa using hname
    simp [Go.callFunc, hf, hn, hbody]

theorem joinX_lo {vs : List V} {H : List Obj} {r : Cr} (h : joinX vs H = some r) : H.length ≤ r.H.length ∧ (∀ id, id < r.lo → id < H.length → r.H[id]? = H[id]?) ∧ (r.same = true → r.H = H) := by
  have key : ∀ l sep, joinG l sep H = some r → H.length ≤ r.H.length ∧ (∀ id, id < r.lo → id < H.length → r.H[id]? = H[id]?) ∧ (r.same = true → r.H = H) := by
    intro l sep h
    unfold joinG at h
    split at h
    · cases h
    · split at h
      · rw [Bool.cond_eq_ite] at h
        split at h
        · simp only [Option.some.injEq] at h
          subst h
          exact ⟨Nat.le_refl _, fun _ _ _ => rfl, fun _ => rfl⟩
        · cases h
      · cases h
  unfold joinX at h
  split at h
  · exact key _ _ h
  · exact key _ _ h
  · unfold joinR at h
    simp only [Bool.cond_eq_ite] at h
    repeat' (split at h)
    all_goals first | exact key _ _ h | cases h
  · cases h
end W

set_option linter.unusedSimpArgs false
set_option linter.unusedVariables false
namespace W
open Go (IntKind BinOp UnOp)
set_option maxRecDepth 20000
def pg : Pg := ⟨fun n => bif Nat.beq n 22 then none else prog n, fun i vs H => bif Nat.beq i 22 then joinX vs H else none⟩
/-- A number's digits. -/
def decN (n : Nat) : List Nat := if h : n < 10 then [48 + n] else decN (n / 10) ++ [48 + n % 10]
decreasing_by omega
theorem decN_small {n : Nat} (h : n < 10) : decN n = [48 + n] := by rw [decN, dif_pos h]
theorem decN_great {n : Nat} (h : ¬ n < 10) : decN n = decN (n / 10) ++ [48 + n % 10] := by rw [decN, dif_neg h]
theorem decN_len : ∀ (f n : Nat), n ≤ f → (decN n).length ≤ n + 1
  | f, n, hf => by
    by_cases h : n < 10
    · rw [decN_small h]; simp
    · match f with
      | 0 => omega
      | f + 1 =>
        have := decN_len f (n / 10) (by omega)
        rw [decN_great h]; simp; omega
theorem digit_at {n : Nat} (h : n < 10) : sliceT (.d (.s [48, 49, 50, 51, 52, 53, 54, 55, 56, 57])) (some (n : Int)) (some ((n + 1 : Nat) : Int)) = some (.d (.s [48 + n])) := by
  have : n = 0 ∨ n = 1 ∨ n = 2 ∨ n = 3 ∨ n = 4 ∨ n = 5 ∨ n = 6 ∨ n = 7 ∨ n = 8 ∨ n = 9 := by omega
  rcases this with rfl | rfl | rfl | rfl | rfl | rfl | rfl | rfl | rfl | rfl <;> rfl
theorem dec_nat {H : List Obj} : ∀ (f n : Nat), n ≤ f → n < 4611686018427387904 → callL pg 23 [.d (.i .i64 (n : Int))] H = some ⟨false, true, .d (.s (decN n)), H, H.length⟩
  | f, n, hf, hb => by
    have h0 : ((n : Int) < 0) = False := eq_false (by omega)
    by_cases h : n < 10
    · have h10 : ((n : Int) < 10) = True := eq_true (by omega)
      have hw : wr .i64 ((n : Int) + 1) = ((n + 1 : Nat) : Int) := by rw [wr_i64 (by omega) (by omega)]; omega
      have hd := digit_at h
      rw [callL_fn (fn := f_waferref5_dec) rfl rfl, decN_small h]
      simp only [f_waferref5_dec, argEnv_cons, Nat.zero_add, argEnv_nil, exL_seq, exL_ops, runOps_n, evalK_mov, rd_c, spent_c, opC_ok, put_d, runOps_nil, thenC_nrm, rd_t, reduceCtorEq, get_ne, get_eq, readV_d, spent_t, evalK_bin, isC_t, isC_c, Bool.or_true, bin_lss, h0, decide_false, okS_some, exL_cond, condC_b, Bool.false_eq_true, ↓reduceIte, exL_skip, h10, decide_true, bin_add, hw, evalK_sliceS, optInt_some, Nat.reduceEqDiff, oInt_i, cut2_some, hd, exL_ret, thenC_ret, finC_ret, resultVs_cons, resultV_t, ownV_d, resultVs_nil, consO_some, leaveC_1, leaves_d, ref_d, settle_d, leave_pure]
    · match f with
      | 0 => omega
      | f + 1 =>
        have h10 : ((n : Int) < 10) = False := eq_false (by omega)
        have hq : wr .i64 ((n : Int).tdiv 10) = ((n / 10 : Nat) : Int) := by
          have e : (n : Int).tdiv 10 = ((n / 10 : Nat) : Int) := by rw [Int.tdiv_eq_ediv_of_nonneg (by omega)]; omega
          rw [e, wr_i64 (by omega) (by omega)]
        have hr : (n : Int).tmod 10 = ((n % 10 : Nat) : Int) := by rw [Int.tmod_eq_emod_of_nonneg (by omega)]; omega
        have i1 := dec_nat (H := H) f (n / 10) (by omega) (by omega)
        have i2 := dec_nat (H := H) f (n % 10) (by omega) (by omega)
        have hl := decN_len _ (n / 10) (Nat.le_refl _)
        have hc : ∀ c, binV .add .num c (.d (.s (decN (n / 10)))) (.d (.s [48 + n % 10])) = some (.d (.s (decN (n / 10) ++ [48 + n % 10]))) := fun c => bin_sadd (by simp; omega)
        rw [decN_small (n := n % 10) (by omega)] at i2
        rw [callL_fn (fn := f_waferref5_dec) rfl rfl, decN_great h]
        simp only [f_waferref5_dec, argEnv_cons, Nat.zero_add, argEnv_nil, exL_seq, exL_ops, runOps_n, evalK_mov, rd_c, spent_c, opC_ok, put_d, runOps_nil, thenC_nrm, rd_t, reduceCtorEq, get_ne, get_eq, readV_d, spent_t, evalK_bin, isC_t, isC_c, Bool.or_true, bin_lss, h0, decide_false, okS_some, exL_cond, condC_b, Bool.false_eq_true, ↓reduceIte, exL_skip, h10, Int.reduceEq, bin_quo, hq, evalK_call, List.map_cons, List.map_nil, allLeave_cons, leaves_d, allLeave_nil, Bool.and_self, eCall_f, i1, callC_some, spentAll_cons, spentAll_nil, Nat.min_self, bin_rem, hr, i2, Bool.or_self, Nat.reduceEqDiff, hc, exL_ret, finC_ret, resultVs_cons, resultV_t, ownV_d, resultVs_nil, consO_some, leaveC_1, ref_d, settle_d, leave_pure]
/-- A signed number's digits. -/
def decI (x : Int) : List Nat := if x < 0 then 45 :: decN (-x).toNat else decN x.toNat
theorem dec_call {H : List Obj} {x : Int} (h1 : -1000000000000 ≤ x) (h2 : x ≤ 1000000000000) : callL pg 23 [.d (.i .i64 x)] H = some ⟨false, true, .d (.s (decI x)), H, H.length⟩ := by
  unfold decI
  by_cases h : x < 0
  · have hn := dec_nat (H := H) (-x).toNat (-x).toNat (Nat.le_refl _) (by omega)
    have hl := decN_len _ (-x).toNat (Nat.le_refl _)
    rw [if_pos h, callL_fn (fn := f_waferref5_dec) rfl rfl]
    have hw : wr .i64 (0 - x) = (((-x).toNat : Nat) : Int) := by rw [wr_i64 (by omega) (by omega)]; omega
    have hc : ∀ c, binV .add .num c (.d (.s [45])) (.d (.s (decN (-x).toNat))) = some (.d (.s (45 :: decN (-x).toNat))) := fun c => bin_sadd (by simp; omega)
    simp only [f_waferref5_dec, argEnv_cons, Nat.zero_add, argEnv_nil, exL_seq, exL_ops, runOps_n, evalK_mov, rd_c, spent_c, opC_ok, put_d, runOps_nil, thenC_nrm, rd_t, reduceCtorEq, get_ne, get_eq, readV_d, spent_t, evalK_bin, isC_t, isC_c, Bool.or_true, bin_lss, h, decide_true, okS_some, exL_cond, condC_b, ↓reduceIte, evalK_un, un_neg, hw, Option.map_some, evalK_call, List.map_cons, List.map_nil, allLeave_cons, leaves_d, allLeave_nil, Bool.and_self, eCall_f, hn, callC_some, spentAll_cons, spentAll_nil, Nat.min_self, Bool.or_false, hc, exL_ret, thenC_ret, finC_ret, resultVs_cons, resultV_t, ownV_d, resultVs_nil, consO_some, leaveC_1, ref_d, settle_d, leave_pure]
  · have hn := dec_nat (H := H) x.toNat x.toNat (Nat.le_refl _) (by omega)
    rw [if_neg h]
    rw [show ((x.toNat : Nat) : Int) = x by omega] at hn
    exact hn
def smalls : List Nat := [48, 48, 48, 49, 48, 50, 48, 51, 48, 52, 48, 53, 48, 54, 48, 55, 48, 56, 48, 57, 49, 48, 49, 49, 49, 50, 49, 51, 49, 52, 49, 53, 49, 54, 49, 55, 49, 56, 49, 57, 50, 48, 50, 49, 50, 50, 50, 51, 50, 52, 50, 53, 50, 54, 50, 55, 50, 56, 50, 57, 51, 48, 51, 49, 51, 50, 51, 51, 51, 52, 51, 53, 51, 54, 51, 55, 51, 56, 51, 57, 52, 48, 52, 49, 52, 50, 52, 51, 52, 52, 52, 53, 52, 54, 52, 55, 52, 56, 52, 57, 53, 48, 53, 49, 53, 50, 53, 51, 53, 52, 53, 53, 53, 54, 53, 55, 53, 56, 53, 57, 54, 48, 54, 49, 54, 50, 54, 51, 54, 52, 54, 53, 54, 54, 54, 55, 54, 56, 54, 57, 55, 48, 55, 49, 55, 50, 55, 51, 55, 52, 55, 53, 55, 54, 55, 55, 55, 56, 55, 57, 56, 48, 56, 49, 56, 50, 56, 51, 56, 52, 56, 53, 56, 54, 56, 55, 56, 56, 56, 57, 57, 48, 57, 49, 57, 50, 57, 51, 57, 52, 57, 53, 57, 54, 57, 55, 57, 56, 57, 57]
def digs : List Nat := [48, 49, 50, 51, 52, 53, 54, 55, 56, 57, 97, 98, 99, 100, 101, 102, 103, 104, 105, 106, 107, 108, 109, 110, 111, 112, 113, 114, 115, 116, 117, 118, 119, 120, 121, 122]
theorem digs_at {n : Nat} (h : n < 10) : sliceT (.d (.s digs)) (some (n : Int)) (some ((n + 1 : Nat) : Int)) = some (.d (.s [48 + n])) := by
  have : n = 0 ∨ n = 1 ∨ n = 2 ∨ n = 3 ∨ n = 4 ∨ n = 5 ∨ n = 6 ∨ n = 7 ∨ n = 8 ∨ n = 9 := by omega
  rcases this with rfl | rfl | rfl | rfl | rfl | rfl | rfl | rfl | rfl | rfl <;> rfl
theorem smalls_at {n : Nat} (h : n < 100) : sliceT (.d (.s smalls)) (some ((2 * n : Nat) : Int)) (some ((2 * n + 2 : Nat) : Int)) = some (.d (.s [48 + n / 10, 48 + n % 10])) := by
  have key : ∀ m : Fin 100, (smalls.take (2 * m.val + 2)).drop (2 * m.val) = [48 + m.val / 10, 48 + m.val % 10] := by decide +kernel
  have := key ⟨n, h⟩
  simp only at this
  have hl : smalls.length = 200 := by decide +kernel
  rw [sliceT_s (by simp only [Option.getD_some]; omega) (by simp only [Option.getD_some]; omega) (by simp only [Option.getD_some, hl]; omega)]
  simp only [Option.getD_some, Int.toNat_natCast, this]
theorem small_call {n : Nat} {H : List Obj} (h : n < 100) : callL pg 39 [.d (.i .i64 (n : Int))] H = some ⟨false, true, .d (.s (decN n)), H, H.length⟩ := by
  rw [callL_fn (fn := f_internal_strconv_small) rfl rfl]
  by_cases h10 : n < 10
  · have h10' : ((n : Int) < 10) = True := eq_true (by omega)
    have hw : wr .i64 ((n : Int) + 1) = ((n + 1 : Nat) : Int) := by rw [wr_i64 (by omega) (by omega)]; omega
    have hd := digs_at h10
    unfold digs at hd
    rw [decN_small h10]
    simp only [f_internal_strconv_small, argEnv_cons, Nat.zero_add, argEnv_nil, exL_seq, exL_ops, runOps_n, evalK_mov, rd_c, spent_c, opC_ok, put_d, runOps_nil, thenC_nrm, rd_t, reduceCtorEq, get_ne, get_eq, readV_d, spent_t, evalK_bin, isC_t, isC_c, Bool.or_true, bin_lss, h10', decide_true, okS_some, exL_cond, condC_b, ↓reduceIte, bin_add, hw, evalK_sliceS, optInt_some, Nat.reduceEqDiff, oInt_i, cut2_some, hd, exL_ret, thenC_ret, finC_ret, resultVs_cons, resultV_t, ownV_d, resultVs_nil, consO_some, leaveC_1, leaves_d, ref_d, settle_d, leave_pure]
  · have h10' : ((n : Int) < 10) = False := eq_false (by omega)
    have hw : wr .i64 ((n : Int) * 2) = ((2 * n : Nat) : Int) := by rw [wr_i64 (by omega) (by omega)]; omega
    have hw2 : wr .i64 (((2 * n : Nat) : Int) + 2) = ((2 * n + 2 : Nat) : Int) := by rw [wr_i64 (by omega) (by omega)]; omega
    have hd := smalls_at h
    unfold smalls at hd
    rw [decN_great h10, decN_small (by omega)]
    simp only [f_internal_strconv_small, argEnv_cons, Nat.zero_add, argEnv_nil, exL_seq, exL_ops, runOps_n, evalK_mov, rd_c, spent_c, opC_ok, put_d, runOps_nil, thenC_nrm, rd_t, reduceCtorEq, get_ne, get_eq, readV_d, spent_t, evalK_bin, isC_t, isC_c, Bool.or_true, bin_lss, h10', decide_false, okS_some, exL_cond, condC_b, Bool.false_eq_true, ↓reduceIte, exL_skip, bin_mul, hw, bin_add, hw2, evalK_sliceS, optInt_some, Nat.reduceEqDiff, oInt_i, cut2_some, hd, exL_ret, finC_ret, resultVs_cons, resultV_t, ownV_d, resultVs_nil, consO_some, leaveC_1, leaves_d, ref_d, settle_d, leave_pure, List.cons_append, List.nil_append]
def len8 : List Nat := [0, 1, 2, 2, 3, 3, 3, 3, 4, 4, 4, 4, 4, 4, 4, 4, 5, 5, 5, 5, 5, 5, 5, 5, 5, 5, 5, 5, 5, 5, 5, 5, 6, 6, 6, 6, 6, 6, 6, 6, 6, 6, 6, 6, 6, 6, 6, 6, 6, 6, 6, 6, 6, 6, 6, 6, 6, 6, 6, 6, 6, 6, 6, 6, 7, 7, 7, 7, 7, 7, 7, 7, 7, 7, 7, 7, 7, 7, 7, 7, 7, 7, 7, 7, 7, 7, 7, 7, 7, 7, 7, 7, 7, 7, 7, 7, 7, 7, 7, 7, 7, 7, 7, 7, 7, 7, 7, 7, 7, 7, 7, 7, 7, 7, 7, 7, 7, 7, 7, 7, 7, 7, 7, 7, 7, 7, 7, 7, 8, 8, 8, 8, 8, 8, 8, 8, 8, 8, 8, 8, 8, 8, 8, 8, 8, 8, 8, 8, 8, 8, 8, 8, 8, 8, 8, 8, 8, 8, 8, 8, 8, 8, 8, 8, 8, 8, 8, 8, 8, 8, 8, 8, 8, 8, 8, 8, 8, 8, 8, 8, 8, 8, 8, 8, 8, 8, 8, 8, 8, 8, 8, 8, 8, 8, 8, 8, 8, 8, 8, 8, 8, 8, 8, 8, 8, 8, 8, 8, 8, 8, 8, 8, 8, 8, 8, 8, 8, 8, 8, 8, 8, 8, 8, 8, 8, 8, 8, 8, 8, 8, 8, 8, 8, 8, 8, 8, 8, 8, 8, 8, 8, 8, 8, 8, 8, 8, 8, 8, 8, 8, 8, 8, 8, 8, 8, 8]
/-- A byte's length in bits. -/
def l8 (c : Nat) : Nat := len8.getD c 0
theorem log10_call {x : Nat} {H : List Obj} (h : x ≤ 64) : callL pg 46 [.d (.i .i64 (x : Int))] H = some ⟨false, true, .d (.i .i64 ((x * 78913 / 262144 : Nat) : Int)), H, H.length⟩ := by
  rw [callL_fn (fn := f_internal_strconv_log10Pow2) rfl rfl]
  have hw : wr .i64 ((x : Int) * 78913) = ((x * 78913 : Nat) : Int) := by rw [wr_i64 (by omega) (by omega)]; omega
  have e : Int.fdiv ((x * 78913 : Nat) : Int) (2 ^ (min (18 : Int).toNat (IntKind.bits .i64))) = ((x * 78913 / 262144 : Nat) : Int) := by
    show Int.fdiv _ (2 ^ 18) = _
    rw [Int.fdiv_eq_ediv_of_nonneg _ (by omega)]; omega
  simp only [f_internal_strconv_log10Pow2, argEnv_cons, Nat.zero_add, argEnv_nil, exL_seq, exL_ops, runOps_n, evalK_mov, rd_c, spent_c, opC_ok, put_d, runOps_nil, thenC_nrm, rd_t, reduceCtorEq, get_ne, get_eq, readV_d, spent_t, evalK_bin, isC_t, isC_c, Bool.or_true, bin_mul, hw, okS_some, Int.reduceLE, bin_shr, e, exL_ret, finC_ret, resultVs_cons, resultV_t, ownV_d, resultVs_nil, consO_some, leaveC_1, leaves_d, ref_d, settle_d, leave_pure]
theorem bool2_call {b : Bool} {H : List Obj} : callL pg 48 [.d (.b b)] H = some ⟨false, true, .d (.i .i64 (bif b then 1 else 0)), H, H.length⟩ := by
  rw [callL_fn (fn := f_internal_strconv_bool2_int_) rfl rfl]
  cases b <;> simp only [f_internal_strconv_bool2_int_, argEnv_cons, Nat.zero_add, argEnv_nil, exL_seq, exL_ops, runOps_n, evalK_mov, rd_c, spent_c, opC_ok, put_d, runOps_nil, thenC_nrm, rd_t, reduceCtorEq, get_ne, get_eq, readV_d, spent_t, exL_cond, condC_b, Bool.false_eq_true, ↓reduceIte, exL_skip, exL_ret, finC_ret, resultVs_cons, resultV_t, ownV_d, resultVs_nil, consO_some, leaveC_1, leaves_d, ref_d, settle_d, leave_pure, cond_false, thenC_ret, cond_true]
theorem l8_le {c : Nat} (h : c < 256) : l8 c ≤ 8 := by
  have key : ∀ m : Fin 256, l8 m.val ≤ 8 := by decide +kernel
  exact key ⟨c, h⟩
theorem ix_len8 {c : Nat} (h : c < 256) : ixV (.d (.s len8)) (.d (.i .u8 (c : Int))) = some (.d (.i .u8 (l8 c : Int))) := by
  have hl : len8.length = 256 := by decide +kernel
  have hg : len8[c]? = some (l8 c) := by
    rw [l8, List.getD_eq_getElem?_getD, List.getElem?_eq_getElem (by omega)]; rfl
  exact ixV_s (by omega) (by simpa using hg)
/-- A number's length in bits, below 2 ^ 32. -/
def len64 (n : Nat) : Nat := if 65536 ≤ n then (if 16777216 ≤ n then 24 + l8 (n / 16777216) else 16 + l8 (n / 65536)) else if 256 ≤ n then 8 + l8 (n / 256) else l8 n
theorem len64_call {n : Nat} {H : List Obj} (h : n < 4294967296) : callL pg 47 [.d (.i .u64 (n : Int))] H = some ⟨false, true, .d (.i .i64 (len64 n : Int)), H, H.length⟩ := by
  have h32 : ((4294967296 : Int) ≤ (n : Int)) = False := eq_false (by omega)
  have s16 : Int.fdiv (n : Int) (2 ^ (min (16 : Int).toNat (IntKind.bits .u64))) = ((n / 65536 : Nat) : Int) := by
    show Int.fdiv _ (2 ^ 16) = _
    rw [Int.fdiv_eq_ediv_of_nonneg _ (by omega)]; omega
  have s8 : Int.fdiv (n : Int) (2 ^ (min (8 : Int).toNat (IntKind.bits .u64))) = ((n / 256 : Nat) : Int) := by
    show Int.fdiv _ (2 ^ 8) = _
    rw [Int.fdiv_eq_ediv_of_nonneg _ (by omega)]; omega
  have s24 : Int.fdiv ((n / 65536 : Nat) : Int) (2 ^ (min (8 : Int).toNat (IntKind.bits .u64))) = ((n / 16777216 : Nat) : Int) := by
    show Int.fdiv _ (2 ^ 8) = _
    rw [Int.fdiv_eq_ediv_of_nonneg _ (by omega)]; omega
  have cu : ∀ c : Nat, c < 256 → wr .u8 (c : Int) = (c : Int) := fun c hc => wr_u8 (by omega) (by omega)
  have ci : ∀ c : Nat, c < 256 → wr .i64 ((l8 c : Nat) : Int) = (l8 c : Int) := fun c hc => by have := l8_le hc; exact wr_i64 (by omega) (by omega)
  have ca : ∀ c k : Nat, c < 256 → k ≤ 24 → wr .i64 ((k : Int) + (l8 c : Int)) = ((k + l8 c : Nat) : Int) := fun c k hc hk => by have := l8_le hc; rw [wr_i64 (by omega) (by omega)]; omega
  rw [callL_fn (fn := f_math_bits_Len64) rfl rfl]
  have ix : ∀ c : Nat, c < 256 → _ := fun c hc => ix_len8 hc
  unfold len8 at ix
  unfold len64
  have a16 : wr .i64 (0 + 16) = 16 := rfl
  have a8 : wr .i64 (0 + 8) = 8 := rfl
  have a24 : wr .i64 (16 + 8) = 24 := rfl
  have a16' : wr .i64 16 = 16 := rfl
  have a8' : wr .i64 8 = 8 := rfl
  have a24' : wr .i64 24 = 24 := rfl
  by_cases h16 : 65536 ≤ n
  · have g16 : ((65536 : Int) ≤ (n : Int)) = True := eq_true (by omega)
    rw [if_pos h16]
    by_cases h24 : 16777216 ≤ n
    · have g24 : ((256 : Int) ≤ ((n / 65536 : Nat) : Int)) = True := eq_true (by omega)
      rw [if_pos h24]
      have c1 := cu (n / 16777216) (by omega)
      have c2 := ci (n / 16777216) (by omega)
      have c3 := ca (n / 16777216) 24 (by omega) (by omega)
      have c4 := ix (n / 16777216) (by omega)
      rw [show ((24 : Nat) : Int) = 24 from rfl] at c3
      simp only [f_math_bits_Len64, argEnv_cons, Nat.zero_add, argEnv_nil, exL_seq, exL_ops, runOps_n, evalK_mov, rd_c, spent_c, opC_ok, put_d, runOps_nil, thenC_nrm, rd_t, reduceCtorEq, get_ne, get_eq, readV_d, spent_t, evalK_bin, isC_t, isC_c, Bool.or_true, bin_geq, h32, decide_false, okS_some, exL_cond, condC_b, Bool.false_eq_true, ↓reduceIte, exL_skip, g16, decide_true, Int.reduceLE, bin_shr, s16, Nat.reduceEqDiff, bin_add, Int.reduceAdd, a16', g24, s24, a24', evalK_conv, c1, evalK_index, c4, c2, Bool.or_self, c3, exL_ret, finC_ret, resultVs_cons, resultV_t, ownV_d, resultVs_nil, consO_some, leaveC_1, leaves_d, ref_d, settle_d, leave_pure]
    · have g24 : ((256 : Int) ≤ ((n / 65536 : Nat) : Int)) = False := eq_false (by omega)
      rw [if_neg h24]
      have c1 := cu (n / 65536) (by omega)
      have c2 := ci (n / 65536) (by omega)
      have c3 := ca (n / 65536) 16 (by omega) (by omega)
      have c4 := ix (n / 65536) (by omega)
      rw [show ((16 : Nat) : Int) = 16 from rfl] at c3
      simp only [f_math_bits_Len64, argEnv_cons, Nat.zero_add, argEnv_nil, exL_seq, exL_ops, runOps_n, evalK_mov, rd_c, spent_c, opC_ok, put_d, runOps_nil, thenC_nrm, rd_t, reduceCtorEq, get_ne, get_eq, readV_d, spent_t, evalK_bin, isC_t, isC_c, Bool.or_true, bin_geq, h32, decide_false, okS_some, exL_cond, condC_b, Bool.false_eq_true, ↓reduceIte, exL_skip, g16, decide_true, Int.reduceLE, bin_shr, s16, Nat.reduceEqDiff, bin_add, Int.reduceAdd, a16', g24, evalK_conv, c1, evalK_index, c4, c2, Bool.or_self, c3, exL_ret, finC_ret, resultVs_cons, resultV_t, ownV_d, resultVs_nil, consO_some, leaveC_1, leaves_d, ref_d, settle_d, leave_pure]
  · have g16 : ((65536 : Int) ≤ (n : Int)) = False := eq_false (by omega)
    rw [if_neg h16]
    by_cases h8 : 256 ≤ n
    · have g8 : ((256 : Int) ≤ (n : Int)) = True := eq_true (by omega)
      rw [if_pos h8]
      have c1 := cu (n / 256) (by omega)
      have c2 := ci (n / 256) (by omega)
      have c3 := ca (n / 256) 8 (by omega) (by omega)
      have c4 := ix (n / 256) (by omega)
      rw [show ((8 : Nat) : Int) = 8 from rfl] at c3
      simp only [f_math_bits_Len64, argEnv_cons, Nat.zero_add, argEnv_nil, exL_seq, exL_ops, runOps_n, evalK_mov, rd_c, spent_c, opC_ok, put_d, runOps_nil, thenC_nrm, rd_t, reduceCtorEq, get_ne, get_eq, readV_d, spent_t, evalK_bin, isC_t, isC_c, Bool.or_true, bin_geq, h32, decide_false, okS_some, exL_cond, condC_b, Bool.false_eq_true, ↓reduceIte, exL_skip, g16, g8, decide_true, Int.reduceLE, bin_shr, s8, Nat.reduceEqDiff, bin_add, Int.reduceAdd, a8', evalK_conv, c1, evalK_index, c4, c2, Bool.or_self, c3, exL_ret, finC_ret, resultVs_cons, resultV_t, ownV_d, resultVs_nil, consO_some, leaveC_1, leaves_d, ref_d, settle_d, leave_pure]
    · have g8 : ((256 : Int) ≤ (n : Int)) = False := eq_false (by omega)
      rw [if_neg h8]
      have c1 := cu n (by omega)
      have c2 := ci n (by omega)
      have c3 := ca n 0 (by omega) (by omega)
      have c4 := ix n (by omega)
      rw [Nat.zero_add, show ((0 : Nat) : Int) = 0 from rfl] at c3
      simp only [f_math_bits_Len64, argEnv_cons, Nat.zero_add, argEnv_nil, exL_seq, exL_ops, runOps_n, evalK_mov, rd_c, spent_c, opC_ok, put_d, runOps_nil, thenC_nrm, rd_t, reduceCtorEq, get_ne, get_eq, readV_d, spent_t, evalK_bin, isC_t, isC_c, Bool.or_true, bin_geq, h32, decide_false, okS_some, exL_cond, condC_b, Bool.false_eq_true, ↓reduceIte, exL_skip, g16, g8, Nat.reduceEqDiff, evalK_conv, c1, evalK_index, c4, c2, Bool.or_self, bin_add, c3, exL_ret, finC_ret, resultVs_cons, resultV_t, ownV_d, resultVs_nil, consO_some, leaveC_1, leaves_d, ref_d, settle_d, leave_pure]
theorem len64_le {n : Nat} (h : n < 4294967296) : len64 n ≤ 32 := by
  unfold len64
  split
  · split
    · have := l8_le (c := n / 16777216) (by omega); omega
    · have := l8_le (c := n / 65536) (by omega); omega
  · split
    · have := l8_le (c := n / 256) (by omega); omega
    · have := l8_le (c := n) (by omega); omega
theorem pow10_at {t : Nat} (h : t < 10) : iaV (.cp (glD 2)) (.d (.i .i64 (t : Int))) 1 (some 20) = some (.cp (.i .u64 ((10 ^ t : Nat) : Int))) := by
  have : t = 0 ∨ t = 1 ∨ t = 2 ∨ t = 3 ∨ t = 4 ∨ t = 5 ∨ t = 6 ∨ t = 7 ∨ t = 8 ∨ t = 9 := by omega
  rcases this with rfl | rfl | rfl | rfl | rfl | rfl | rfl | rfl | rfl | rfl <;> rfl
/-- How many digits, as the library counts. -/
def numD (n : Nat) : Nat := len64 n * 78913 / 262144 + (if 10 ^ (len64 n * 78913 / 262144) ≤ n then 1 else 0)
theorem numD_call {n : Nat} {H : List Obj} (h : n < 4294967296) : callL pg 40 [.d (.i .u64 (n : Int))] H = some ⟨false, true, .d (.i .i64 (numD n : Int)), H, H.length⟩ := by
  rw [callL_fn (fn := f_internal_strconv_numDigits) rfl rfl]
  have h1 := len64_call (H := H) h
  have hle := len64_le h
  have h2 := log10_call (H := H) (x := len64 n) (by omega)
  unfold numD
  generalize ht : len64 n * 78913 / 262144 = t at *
  have h3 := pow10_at (t := t) (by omega)
  by_cases hc : 10 ^ t ≤ n
  · have hc' : (((10 ^ t : Nat) : Int) ≤ (n : Int)) = True := eq_true (by omega)
    have hb := bool2_call (b := true) (H := H)
    have hw : wr .i64 ((t : Int) + 1) = ((t + 1 : Nat) : Int) := by rw [wr_i64 (by omega) (by omega)]; omega
    rw [if_pos hc]
    rw [cond_true] at hb
    simp only [f_internal_strconv_numDigits, argEnv_cons, Nat.zero_add, argEnv_nil, exL_seq, exL_ops, runOps_n, evalK_mov, rd_c, spent_c, opC_ok, put_d, runOps_nil, thenC_nrm, rd_t, reduceCtorEq, get_ne, get_eq, readV_d, spent_t, evalK_call, List.map_cons, List.map_nil, allLeave_cons, leaves_d, allLeave_nil, Bool.and_self, eCall_f, h1, callC_some, spentAll_cons, spentAll_nil, Nat.min_self, h2, rd_mv, takeV_d, spent_mv, Nat.reduceEqDiff, evalK_indexAddr, rd_g, h3, okS_some, put_cp, evalK_load, readV_cp, loadV_cp_i, evalK_bin, isC_t, Bool.or_self, bin_geq, hc', decide_true, hb, bin_add, hw, exL_ret, finC_ret, resultVs_cons, resultV_t, ownV_d, resultVs_nil, consO_some, leaveC_1, ref_d, settle_d, leave_pure]
  · have hc' : (((10 ^ t : Nat) : Int) ≤ (n : Int)) = False := eq_false (by omega)
    have hb := bool2_call (b := false) (H := H)
    have hw : wr .i64 (t : Int) = ((t : Nat) : Int) := by rw [wr_i64 (by omega) (by omega)]
    rw [if_neg hc]
    rw [cond_false] at hb
    have hz : (t : Int) + 0 = (t : Int) := Int.add_zero _
    simp only [f_internal_strconv_numDigits, argEnv_cons, Nat.zero_add, argEnv_nil, exL_seq, exL_ops, runOps_n, evalK_mov, rd_c, spent_c, opC_ok, put_d, runOps_nil, thenC_nrm, rd_t, reduceCtorEq, get_ne, get_eq, readV_d, spent_t, evalK_call, List.map_cons, List.map_nil, allLeave_cons, leaves_d, allLeave_nil, Bool.and_self, eCall_f, h1, callC_some, spentAll_cons, spentAll_nil, Nat.min_self, h2, rd_mv, takeV_d, spent_mv, Nat.reduceEqDiff, evalK_indexAddr, rd_g, h3, okS_some, put_cp, evalK_load, readV_cp, loadV_cp_i, evalK_bin, isC_t, Bool.or_self, bin_geq, hc', decide_false, hb, bin_add, hz, hw, exL_ret, finC_ret, resultVs_cons, resultV_t, ownV_d, resultVs_nil, consO_some, leaveC_1, ref_d, settle_d, leave_pure, Nat.add_zero]
theorem l8_bits {c : Nat} (h0 : 0 < c) (h : c < 256) : 1 ≤ l8 c ∧ 2 ^ (l8 c - 1) ≤ c ∧ c < 2 ^ l8 c := by
  have key : ∀ m : Fin 256, m.val = 0 ∨ (1 ≤ l8 m.val ∧ 2 ^ (l8 m.val - 1) ≤ m.val ∧ m.val < 2 ^ l8 m.val) := by decide +kernel
  have := key ⟨c, h⟩
  simp only at this
  omega
theorem len64_bits {n : Nat} (h0 : 0 < n) (h : n < 4294967296) : 1 ≤ len64 n ∧ 2 ^ (len64 n - 1) ≤ n ∧ n < 2 ^ len64 n := by
  have step : ∀ (s d : Nat), 2 ^ s = d → 0 < d → d ≤ n → n / d < 256 → 1 ≤ s + l8 (n / d) ∧ 2 ^ (s + l8 (n / d) - 1) ≤ n ∧ n < 2 ^ (s + l8 (n / d)) := by
    intro s d hd hp hle hlt
    have hpos : 0 < n / d := Nat.div_pos hle hp
    obtain ⟨a, b, c⟩ := l8_bits hpos hlt
    refine ⟨by omega, ?_, ?_⟩
    · rw [show s + l8 (n / d) - 1 = s + (l8 (n / d) - 1) by omega, Nat.pow_add, hd]
      calc d * 2 ^ (l8 (n / d) - 1) ≤ d * (n / d) := Nat.mul_le_mul_left _ b
        _ ≤ n := Nat.mul_div_le n d
    · rw [Nat.pow_add, hd]
      have := (Nat.div_lt_iff_lt_mul hp).1 c
      rw [Nat.mul_comm]; exact this
  unfold len64
  split
  · split
    · exact step 24 _ rfl (by omega) (by omega) (by omega)
    · exact step 16 _ rfl (by omega) (by omega) (by omega)
  · split
    · exact step 8 _ rfl (by omega) (by omega) (by omega)
    · exact l8_bits h0 (by omega)
theorem decN_count : ∀ (k n : Nat), 10 ^ k ≤ n ∨ (k = 0) → n < 10 ^ (k + 1) → (decN n).length = k + 1
  | 0, n, _, h => by rw [decN_small (by simpa using h)]; rfl
  | k + 1, n, hl, h => by
    have hl : 10 ^ (k + 1) ≤ n := by omega
    rw [Nat.pow_succ] at hl h
    have hp : 0 < 10 ^ k := Nat.pow_pos (by omega)
    rw [decN_great (by omega), List.length_append, decN_count k (n / 10) (by left; omega) (by omega)]
    rfl
/-- The library counts a number's digits. -/
theorem numD_eq {n : Nat} (h0 : 0 < n) (h : n < 4294967296) : numD n = (decN n).length := by
  obtain ⟨a, b, c⟩ := len64_bits h0 h
  have hle := len64_le h
  unfold numD
  generalize len64 n = L at *
  have key : ∀ m : Fin 33, 2 ^ m.val ≤ 10 ^ (m.val * 78913 / 262144 + 1) ∧ (m.val * 78913 / 262144 = 0 ∨ 10 ^ (m.val * 78913 / 262144 - 1) ≤ 2 ^ (m.val - 1)) := by decide +kernel
  obtain ⟨k1, k2⟩ := key ⟨L, by omega⟩
  simp only at k1 k2
  generalize L * 78913 / 262144 = t at *
  by_cases hc : 10 ^ t ≤ n
  · rw [if_pos hc, decN_count t n (.inl hc) (by omega)]
  · rw [if_neg hc]
    rcases k2 with rfl | k2
    · simp at hc; omega
    · match t, k2, hc with
      | 0, _, hc => simp at hc; omega
      | t + 1, k2, hc =>
        simp only [Nat.add_sub_cancel] at k2
        rw [decN_count t n (.inl (by omega)) (by omega)]
theorem smalls_lo {k : IntKind} {m : Nat} (h : m < 100) : ixV (.d (.s smalls)) (.d (.i k ((2 * m + 1 : Nat) : Int))) = some (.d (.i .u8 ((48 + m % 10 : Nat) : Int))) := by
  have key : ∀ m : Fin 100, smalls[2 * m.val + 1]? = some (48 + m.val % 10) := by decide +kernel
  have := key ⟨m, h⟩
  simp only at this
  exact ixV_s (by omega) (by rw [Int.toNat_natCast]; exact this)
theorem smalls_hi {k : IntKind} {m : Nat} (h : m < 100) : ixV (.d (.s smalls)) (.d (.i k ((2 * m : Nat) : Int))) = some (.d (.i .u8 ((48 + m / 10 : Nat) : Int))) := by
  have key : ∀ m : Fin 100, smalls[2 * m.val]? = some (48 + m.val / 10) := by decide +kernel
  have := key ⟨m, h⟩
  simp only at this
  exact ixV_s (by omega) (by rw [Int.toNat_natCast]; exact this)
end W

set_option linter.unusedSimpArgs false
set_option linter.unusedVariables false
namespace W
open Go (IntKind BinOp UnOp)
set_option maxRecDepth 20000
theorem q32 {a c : Nat} {d : Int} (hd : d = (c : Int)) (h : a < 4294967296) : wr .u32 ((a : Int).tdiv d) = ((a / c : Nat) : Int) := by
  have e : (a : Int).tdiv d = ((a / c : Nat) : Int) := by rw [hd, Int.tdiv_eq_ediv_of_nonneg (by omega)]; rfl
  have : a / c ≤ a := Nat.div_le_self _ _
  rw [e, wr_u32 (Int.natCast_nonneg _) (by omega)]
theorem r32 {a c : Nat} {d : Int} (hd : d = (c : Int)) : (a : Int).tmod d = ((a % c : Nat) : Int) := by
  rw [hd, Int.tmod_eq_emod_of_nonneg (by omega)]; rfl
theorem m32 {a : Nat} (h : a < 2147483648) : wr .u32 ((a : Int) * 2) = ((2 * a : Nat) : Int) := by
  rw [wr_u32 (by omega) (by omega)]; omega
theorem a32 {a : Nat} (h : a < 4294967295) : wr .u32 ((a : Int) + 1) = ((a + 1 : Nat) : Int) := by
  rw [wr_u32 (by omega) (by omega)]; omega
theorem q64 {a c : Nat} {d : Int} (hd : d = (c : Int)) (h : a < 4294967296) : wr .u64 ((a : Int).tdiv d) = ((a / c : Nat) : Int) := by
  have e : (a : Int).tdiv d = ((a / c : Nat) : Int) := by rw [hd, Int.tdiv_eq_ediv_of_nonneg (by omega)]; rfl
  have : a / c ≤ a := Nat.div_le_self _ _
  rw [e, wr_u64 (Int.natCast_nonneg _) (by omega)]
theorem c32 {a : Nat} (h : a < 4294967296) : wr .u32 (a : Int) = (a : Int) := wr_u32 (by omega) (by omega)
def z0 : V := .d (.i .u8 0)
def zs : List V := [.d (.i .u8 0), .d (.i .u8 0), .d (.i .u8 0), .d (.i .u8 0), .d (.i .u8 0), .d (.i .u8 0), .d (.i .u8 0), .d (.i .u8 0), .d (.i .u8 0), .d (.i .u8 0), .d (.i .u8 0), .d (.i .u8 0), .d (.i .u8 0), .d (.i .u8 0), .d (.i .u8 0), .d (.i .u8 0), .d (.i .u8 0), .d (.i .u8 0), .d (.i .u8 0), .d (.i .u8 0), .d (.i .u8 0), .d (.i .u8 0), .d (.i .u8 0), .d (.i .u8 0)]
theorem last_digit {x : Nat} (h : x < 10) : wr .u8 (wr .u32 (48 + (x : Int))) = ((48 + x : Nat) : Int) := by
  rw [wr_u32 (by omega) (by omega), wr_u8 (by omega) (by omega)]; omega
theorem w0 : wr .i64 0 = 0 := rfl
theorem w1 : wr .i64 1 = 1 := rfl
theorem w2 : wr .i64 2 = 2 := rfl
theorem w3 : wr .i64 3 = 3 := rfl
theorem w4 : wr .i64 4 = 4 := rfl
theorem w5 : wr .i64 5 = 5 := rfl
theorem w6 : wr .i64 6 = 6 := rfl
theorem w7 : wr .i64 7 = 7 := rfl
theorem w8 : wr .i64 8 = 8 := rfl
theorem w9 : wr .i64 9 = 9 := rfl
def ds1 (n : Nat) : List Nat := [48 + n]
theorem fb1 {H : List Obj} {p c n : Nat} (hO : H[p]? = some (.cells zs)) (hp : p < H.length) (h : n < 10) :
    callL pg 41 [.rs p 1 1 c, .d (.i .u64 (n : Int))] H = some ⟨false, false, .tup [], setAt H p (.cells (z0 :: ((ds1 n).map (fun x => V.d (e8 x)) ++ zs.drop 2))), p⟩ := by
  rw [callL_fn (fn := f_internal_strconv_formatBase10) rfl rfl]
  unfold zs at hO
  have f0 := c32 (a := n) (by omega)
  have f1 := last_digit (x := n) (by omega)
  have hm : min H.length p = p := by omega
  have hg : ∀ o, (setAt H p o)[p]? = some o := fun o => setAt_get hO
  have hl : ∀ (e : Env) (H' : List Obj), leave H false (.tup []) ⟨e, H', p⟩ = some ⟨false, false, .tup [], H', p⟩ := fun e H' => leave_new rfl (.inr hp)
  simp only [f_internal_strconv_formatBase10, f_internal_strconv_formatBase10_R1, argEnv_cons, Nat.zero_add, Nat.reduceAdd, argEnv_nil, exL_seq, exL_ops, runOps_n, evalK_mov, rd_t, get_eq, readV_rs, spent_t, opC_ok, put_rs, evalK_lenL, lenL_rs, Int.cast_ofNat_Int, okS_some, put_d, readV_d, runOps_nil, thenC_nrm, exL_block, f_internal_strconv_formatBase10_l0_in, reduceCtorEq, get_ne, keepV_rs, Nat.reduceEqDiff, keepV_d, f_internal_strconv_formatBase10_l0_eq, f_internal_strconv_formatBase10_B0, evalK_bin, isC_t, isC_c, Bool.or_true, rd_c, bin_geq, Int.reduceLE, decide_false, exL_cond, condC_b, Bool.false_eq_true, ↓reduceIte, exL_exit, thenC_exit, blockC_exit, restrict_cons, restrict_nil, evalK_conv, f0, rd_mv, takeV_d, spent_mv, exL_skip, bin_gtr, Int.reduceLT, decide_true, Bool.or_false, bin_add, f1, evalK_indexAddr, iaV_rs, Int.reduceToNat, Nat.add_zero, put_ptr, evalK_store, readV_ptr, storeV_P, hO, one_i, cells_d1, List.length_cons, List.length_nil, ones_cons, vone_d, ones_nil, Bool.and_self, storeP_cells, Nat.reduceLT, setCells_1, List.set_cons_succ, List.set_cons_zero, storePR_some, hm, put_none, finC_nrm, resultVs_nil, leaveC_0, hl]
  rfl
def ds2 (n : Nat) : List Nat := [48 + n % 100 / 10, 48 + n % 100 % 10]
theorem fb2 {H : List Obj} {p c n : Nat} (hO : H[p]? = some (.cells zs)) (hp : p < H.length) (h : n < 100) :
    callL pg 41 [.rs p 1 2 c, .d (.i .u64 (n : Int))] H = some ⟨false, false, .tup [], setAt H p (.cells (z0 :: ((ds2 n).map (fun x => V.d (e8 x)) ++ zs.drop 3))), p⟩ := by
  rw [callL_fn (fn := f_internal_strconv_formatBase10) rfl rfl]
  unfold zs at hO
  have f0 := c32 (a := n) (by omega)
  have f1 := r32 (a := n) (c := 100) (d := 100) rfl
  have f2 := q32 (a := n) (c := 100) (d := 100) rfl (by omega)
  have f3 := m32 (a := n % 100) (by omega)
  have f4 := a32 (a := 2 * (n % 100)) (by omega)
  have f5 := smalls_lo (k := .u32) (m := n % 100) (by omega)
  have f6 := smalls_hi (k := .u32) (m := n % 100) (by omega)
  unfold smalls at f5 f6
  have hm : min H.length p = p := by omega
  have hg : ∀ o, (setAt H p o)[p]? = some o := fun o => setAt_get hO
  have hl : ∀ (e : Env) (H' : List Obj), leave H false (.tup []) ⟨e, H', p⟩ = some ⟨false, false, .tup [], H', p⟩ := fun e H' => leave_new rfl (.inr hp)
  simp only [f_internal_strconv_formatBase10, f_internal_strconv_formatBase10_R1, argEnv_cons, Nat.zero_add, Nat.reduceAdd, argEnv_nil, exL_seq, exL_ops, runOps_n, evalK_mov, rd_t, get_eq, readV_rs, spent_t, opC_ok, put_rs, evalK_lenL, lenL_rs, Int.cast_ofNat_Int, okS_some, put_d, readV_d, runOps_nil, thenC_nrm, exL_block, f_internal_strconv_formatBase10_l0_in, reduceCtorEq, get_ne, keepV_rs, Nat.reduceEqDiff, keepV_d, f_internal_strconv_formatBase10_l0_eq, f_internal_strconv_formatBase10_B0, evalK_bin, isC_t, isC_c, Bool.or_true, rd_c, bin_geq, Int.reduceLE, decide_false, exL_cond, condC_b, Bool.false_eq_true, ↓reduceIte, exL_exit, thenC_exit, blockC_exit, restrict_cons, restrict_nil, evalK_conv, f0, rd_mv, takeV_d, spent_mv, exL_skip, decide_true, Int.reduceEq, bin_rem, f1, bin_mul, f3, bin_quo, f2, exL_opsD, runOpsD_n, opDC_same, putD_rs, putC_some, putD_d, bin_sub, Int.reduceSub, w1, w0, bin_add, f4, evalK_index, f5, f6, evalK_indexAddr, Int.reduceLT, iaV_rs, Int.reduceToNat, putD_ptr, evalK_store, readV_ptr, storeV_P, hO, one_i, cells_d1, List.length_cons, List.length_nil, ones_cons, vone_d, ones_nil, Bool.and_self, storeP_cells, Nat.reduceLT, setCells_1, List.set_cons_succ, List.set_cons_zero, storePR_some, hm, opDC_serial, putD_none, Nat.add_zero, hg, setAt_setAt, Nat.min_self, runOpsD_nil, bin_gtr, finC_nrm, resultVs_nil, leaveC_0, hl]
  rfl
def ds3 (n : Nat) : List Nat := [48 + n / 100, 48 + n % 100 / 10, 48 + n % 100 % 10]
theorem fb3 {H : List Obj} {p c n : Nat} (hO : H[p]? = some (.cells zs)) (hp : p < H.length) (h : n < 1000) :
    callL pg 41 [.rs p 1 3 c, .d (.i .u64 (n : Int))] H = some ⟨false, false, .tup [], setAt H p (.cells (z0 :: ((ds3 n).map (fun x => V.d (e8 x)) ++ zs.drop 4))), p⟩ := by
  rw [callL_fn (fn := f_internal_strconv_formatBase10) rfl rfl]
  unfold zs at hO
  have f0 := c32 (a := n) (by omega)
  have f1 := r32 (a := n) (c := 100) (d := 100) rfl
  have f2 := q32 (a := n) (c := 100) (d := 100) rfl (by omega)
  have f3 := m32 (a := n % 100) (by omega)
  have f4 := a32 (a := 2 * (n % 100)) (by omega)
  have f5 := smalls_lo (k := .u32) (m := n % 100) (by omega)
  have f6 := smalls_hi (k := .u32) (m := n % 100) (by omega)
  have f7 := last_digit (x := n / 100) (by omega)
  unfold smalls at f5 f6
  have hm : min H.length p = p := by omega
  have hg : ∀ o, (setAt H p o)[p]? = some o := fun o => setAt_get hO
  have hl : ∀ (e : Env) (H' : List Obj), leave H false (.tup []) ⟨e, H', p⟩ = some ⟨false, false, .tup [], H', p⟩ := fun e H' => leave_new rfl (.inr hp)
  simp only [f_internal_strconv_formatBase10, f_internal_strconv_formatBase10_R1, argEnv_cons, Nat.zero_add, Nat.reduceAdd, argEnv_nil, exL_seq, exL_ops, runOps_n, evalK_mov, rd_t, get_eq, readV_rs, spent_t, opC_ok, put_rs, evalK_lenL, lenL_rs, Int.cast_ofNat_Int, okS_some, put_d, readV_d, runOps_nil, thenC_nrm, exL_block, f_internal_strconv_formatBase10_l0_in, reduceCtorEq, get_ne, keepV_rs, Nat.reduceEqDiff, keepV_d, f_internal_strconv_formatBase10_l0_eq, f_internal_strconv_formatBase10_B0, evalK_bin, isC_t, isC_c, Bool.or_true, rd_c, bin_geq, Int.reduceLE, decide_false, exL_cond, condC_b, Bool.false_eq_true, ↓reduceIte, exL_exit, thenC_exit, blockC_exit, restrict_cons, restrict_nil, evalK_conv, f0, rd_mv, takeV_d, spent_mv, exL_skip, decide_true, Int.reduceEq, bin_rem, f1, bin_mul, f3, bin_quo, f2, exL_opsD, runOpsD_n, opDC_same, putD_rs, putC_some, putD_d, bin_sub, Int.reduceSub, w2, w1, bin_add, f4, evalK_index, f5, f6, evalK_indexAddr, Int.reduceLT, iaV_rs, Int.reduceToNat, putD_ptr, evalK_store, readV_ptr, storeV_P, hO, one_i, cells_d1, List.length_cons, List.length_nil, ones_cons, vone_d, ones_nil, Bool.and_self, storeP_cells, Nat.reduceLT, setCells_1, List.set_cons_succ, List.set_cons_zero, storePR_some, hm, opDC_serial, putD_none, hg, setAt_setAt, Nat.min_self, runOpsD_nil, bin_gtr, Bool.or_false, f7, Nat.add_zero, put_ptr, put_none, finC_nrm, resultVs_nil, leaveC_0, hl]
  rfl
def ds4 (n : Nat) : List Nat := [48 + n % 10000 / 100 / 10, 48 + n % 10000 / 100 % 10, 48 + n % 10000 % 100 / 10, 48 + n % 10000 % 100 % 10]
theorem fb4 {H : List Obj} {p c n : Nat} (hO : H[p]? = some (.cells zs)) (hp : p < H.length) (h : n < 10000) :
    callL pg 41 [.rs p 1 4 c, .d (.i .u64 (n : Int))] H = some ⟨false, false, .tup [], setAt H p (.cells (z0 :: ((ds4 n).map (fun x => V.d (e8 x)) ++ zs.drop 5))), p⟩ := by
  rw [callL_fn (fn := f_internal_strconv_formatBase10) rfl rfl]
  unfold zs at hO
  have f0 := c32 (a := n) (by omega)
  have f1 := r32 (a := n) (c := 10000) (d := 10000) rfl
  have f2 := q32 (a := n) (c := 10000) (d := 10000) rfl (by omega)
  have f3 := q32 (a := n % 10000) (c := 100) (d := 100) rfl (by omega)
  have f4 := r32 (a := n % 10000) (c := 100) (d := 100) rfl
  have f5 := m32 (a := n % 10000 / 100) (by omega)
  have f6 := a32 (a := 2 * (n % 10000 / 100)) (by omega)
  have f7 := smalls_lo (k := .u32) (m := n % 10000 / 100) (by omega)
  have f8 := smalls_hi (k := .u32) (m := n % 10000 / 100) (by omega)
  have f9 := m32 (a := n % 10000 % 100) (by omega)
  have f10 := a32 (a := 2 * (n % 10000 % 100)) (by omega)
  have f11 := smalls_lo (k := .u32) (m := n % 10000 % 100) (by omega)
  have f12 := smalls_hi (k := .u32) (m := n % 10000 % 100) (by omega)
  unfold smalls at f7 f8 f11 f12
  have hm : min H.length p = p := by omega
  have hg : ∀ o, (setAt H p o)[p]? = some o := fun o => setAt_get hO
  have hl : ∀ (e : Env) (H' : List Obj), leave H false (.tup []) ⟨e, H', p⟩ = some ⟨false, false, .tup [], H', p⟩ := fun e H' => leave_new rfl (.inr hp)
  simp only [f_internal_strconv_formatBase10, f_internal_strconv_formatBase10_R1, argEnv_cons, Nat.zero_add, Nat.reduceAdd, argEnv_nil, exL_seq, exL_ops, runOps_n, evalK_mov, rd_t, get_eq, readV_rs, spent_t, opC_ok, put_rs, evalK_lenL, lenL_rs, Int.cast_ofNat_Int, okS_some, put_d, readV_d, runOps_nil, thenC_nrm, exL_block, f_internal_strconv_formatBase10_l0_in, reduceCtorEq, get_ne, keepV_rs, Nat.reduceEqDiff, keepV_d, f_internal_strconv_formatBase10_l0_eq, f_internal_strconv_formatBase10_B0, evalK_bin, isC_t, isC_c, Bool.or_true, rd_c, bin_geq, Int.reduceLE, decide_false, exL_cond, condC_b, Bool.false_eq_true, ↓reduceIte, exL_exit, thenC_exit, blockC_exit, restrict_cons, restrict_nil, evalK_conv, f0, rd_mv, takeV_d, spent_mv, decide_true, Int.reduceEq, bin_rem, f1, bin_quo, f2, f3, bin_mul, f5, f4, f9, exL_opsD, runOpsD_n, opDC_same, putD_rs, putC_some, putD_d, bin_sub, Int.reduceSub, w3, w2, bin_add, f10, evalK_index, f11, f12, evalK_indexAddr, Int.reduceLT, iaV_rs, Int.reduceToNat, putD_ptr, evalK_store, readV_ptr, storeV_P, hO, one_i, cells_d1, List.length_cons, List.length_nil, ones_cons, vone_d, ones_nil, Bool.and_self, storeP_cells, Nat.reduceLT, setCells_1, List.set_cons_succ, List.set_cons_zero, storePR_some, hm, opDC_serial, putD_none, hg, setAt_setAt, Nat.min_self, runOpsD_nil, w1, w0, f6, f7, f8, Nat.add_zero, exL_skip, bin_gtr, finC_nrm, resultVs_nil, leaveC_0, hl]
  rfl
def ds5 (n : Nat) : List Nat := [48 + n / 10000, 48 + n % 10000 / 100 / 10, 48 + n % 10000 / 100 % 10, 48 + n % 10000 % 100 / 10, 48 + n % 10000 % 100 % 10]
theorem fb5 {H : List Obj} {p c n : Nat} (hO : H[p]? = some (.cells zs)) (hp : p < H.length) (h : n < 100000) :
    callL pg 41 [.rs p 1 5 c, .d (.i .u64 (n : Int))] H = some ⟨false, false, .tup [], setAt H p (.cells (z0 :: ((ds5 n).map (fun x => V.d (e8 x)) ++ zs.drop 6))), p⟩ := by
  rw [callL_fn (fn := f_internal_strconv_formatBase10) rfl rfl]
  unfold zs at hO
  have f0 := c32 (a := n) (by omega)
  have f1 := r32 (a := n) (c := 10000) (d := 10000) rfl
  have f2 := q32 (a := n) (c := 10000) (d := 10000) rfl (by omega)
  have f3 := q32 (a := n % 10000) (c := 100) (d := 100) rfl (by omega)
  have f4 := r32 (a := n % 10000) (c := 100) (d := 100) rfl
  have f5 := m32 (a := n % 10000 / 100) (by omega)
  have f6 := a32 (a := 2 * (n % 10000 / 100)) (by omega)
  have f7 := smalls_lo (k := .u32) (m := n % 10000 / 100) (by omega)
  have f8 := smalls_hi (k := .u32) (m := n % 10000 / 100) (by omega)
  have f9 := m32 (a := n % 10000 % 100) (by omega)
  have f10 := a32 (a := 2 * (n % 10000 % 100)) (by omega)
  have f11 := smalls_lo (k := .u32) (m := n % 10000 % 100) (by omega)
  have f12 := smalls_hi (k := .u32) (m := n % 10000 % 100) (by omega)
  have f13 := last_digit (x := n / 10000) (by omega)
  unfold smalls at f7 f8 f11 f12
  have hm : min H.length p = p := by omega
  have hg : ∀ o, (setAt H p o)[p]? = some o := fun o => setAt_get hO
  have hl : ∀ (e : Env) (H' : List Obj), leave H false (.tup []) ⟨e, H', p⟩ = some ⟨false, false, .tup [], H', p⟩ := fun e H' => leave_new rfl (.inr hp)
  simp only [f_internal_strconv_formatBase10, f_internal_strconv_formatBase10_R1, argEnv_cons, Nat.zero_add, Nat.reduceAdd, argEnv_nil, exL_seq, exL_ops, runOps_n, evalK_mov, rd_t, get_eq, readV_rs, spent_t, opC_ok, put_rs, evalK_lenL, lenL_rs, Int.cast_ofNat_Int, okS_some, put_d, readV_d, runOps_nil, thenC_nrm, exL_block, f_internal_strconv_formatBase10_l0_in, reduceCtorEq, get_ne, keepV_rs, Nat.reduceEqDiff, keepV_d, f_internal_strconv_formatBase10_l0_eq, f_internal_strconv_formatBase10_B0, evalK_bin, isC_t, isC_c, Bool.or_true, rd_c, bin_geq, Int.reduceLE, decide_false, exL_cond, condC_b, Bool.false_eq_true, ↓reduceIte, exL_exit, thenC_exit, blockC_exit, restrict_cons, restrict_nil, evalK_conv, f0, rd_mv, takeV_d, spent_mv, decide_true, Int.reduceEq, bin_rem, f1, bin_quo, f2, f3, bin_mul, f5, f4, f9, exL_opsD, runOpsD_n, opDC_same, putD_rs, putC_some, putD_d, bin_sub, Int.reduceSub, w4, w3, bin_add, f10, evalK_index, f11, f12, evalK_indexAddr, Int.reduceLT, iaV_rs, Int.reduceToNat, putD_ptr, evalK_store, readV_ptr, storeV_P, hO, one_i, cells_d1, List.length_cons, List.length_nil, ones_cons, vone_d, ones_nil, Bool.and_self, storeP_cells, Nat.reduceLT, setCells_1, List.set_cons_succ, List.set_cons_zero, storePR_some, hm, opDC_serial, putD_none, hg, setAt_setAt, Nat.min_self, runOpsD_nil, w2, w1, f6, f7, f8, exL_skip, bin_gtr, Bool.or_false, f13, Nat.add_zero, put_ptr, put_none, finC_nrm, resultVs_nil, leaveC_0, hl]
  rfl
def ds6 (n : Nat) : List Nat := [48 + n / 10000 % 100 / 10, 48 + n / 10000 % 100 % 10, 48 + n % 10000 / 100 / 10, 48 + n % 10000 / 100 % 10, 48 + n % 10000 % 100 / 10, 48 + n % 10000 % 100 % 10]
theorem fb6 {H : List Obj} {p c n : Nat} (hO : H[p]? = some (.cells zs)) (hp : p < H.length) (h : n < 1000000) :
    callL pg 41 [.rs p 1 6 c, .d (.i .u64 (n : Int))] H = some ⟨false, false, .tup [], setAt H p (.cells (z0 :: ((ds6 n).map (fun x => V.d (e8 x)) ++ zs.drop 7))), p⟩ := by
  rw [callL_fn (fn := f_internal_strconv_formatBase10) rfl rfl]
  unfold zs at hO
  have f0 := c32 (a := n) (by omega)
  have f1 := r32 (a := n) (c := 10000) (d := 10000) rfl
  have f2 := q32 (a := n) (c := 10000) (d := 10000) rfl (by omega)
  have f3 := q32 (a := n % 10000) (c := 100) (d := 100) rfl (by omega)
  have f4 := r32 (a := n % 10000) (c := 100) (d := 100) rfl
  have f5 := m32 (a := n % 10000 / 100) (by omega)
  have f6 := a32 (a := 2 * (n % 10000 / 100)) (by omega)
  have f7 := smalls_lo (k := .u32) (m := n % 10000 / 100) (by omega)
  have f8 := smalls_hi (k := .u32) (m := n % 10000 / 100) (by omega)
  have f9 := m32 (a := n % 10000 % 100) (by omega)
  have f10 := a32 (a := 2 * (n % 10000 % 100)) (by omega)
  have f11 := smalls_lo (k := .u32) (m := n % 10000 % 100) (by omega)
  have f12 := smalls_hi (k := .u32) (m := n % 10000 % 100) (by omega)
  have f13 := r32 (a := n / 10000) (c := 100) (d := 100) rfl
  have f14 := q32 (a := n / 10000) (c := 100) (d := 100) rfl (by omega)
  have f15 := m32 (a := n / 10000 % 100) (by omega)
  have f16 := a32 (a := 2 * (n / 10000 % 100)) (by omega)
  have f17 := smalls_lo (k := .u32) (m := n / 10000 % 100) (by omega)
  have f18 := smalls_hi (k := .u32) (m := n / 10000 % 100) (by omega)
  unfold smalls at f7 f8 f11 f12 f17 f18
  have hm : min H.length p = p := by omega
  have hg : ∀ o, (setAt H p o)[p]? = some o := fun o => setAt_get hO
  have hl : ∀ (e : Env) (H' : List Obj), leave H false (.tup []) ⟨e, H', p⟩ = some ⟨false, false, .tup [], H', p⟩ := fun e H' => leave_new rfl (.inr hp)
  simp only [f_internal_strconv_formatBase10, f_internal_strconv_formatBase10_R1, argEnv_cons, Nat.zero_add, Nat.reduceAdd, argEnv_nil, exL_seq, exL_ops, runOps_n, evalK_mov, rd_t, get_eq, readV_rs, spent_t, opC_ok, put_rs, evalK_lenL, lenL_rs, Int.cast_ofNat_Int, okS_some, put_d, readV_d, runOps_nil, thenC_nrm, exL_block, f_internal_strconv_formatBase10_l0_in, reduceCtorEq, get_ne, keepV_rs, Nat.reduceEqDiff, keepV_d, f_internal_strconv_formatBase10_l0_eq, f_internal_strconv_formatBase10_B0, evalK_bin, isC_t, isC_c, Bool.or_true, rd_c, bin_geq, Int.reduceLE, decide_false, exL_cond, condC_b, Bool.false_eq_true, ↓reduceIte, exL_exit, thenC_exit, blockC_exit, restrict_cons, restrict_nil, evalK_conv, f0, rd_mv, takeV_d, spent_mv, decide_true, Int.reduceEq, bin_rem, f1, bin_quo, f2, f3, bin_mul, f5, f4, f9, exL_opsD, runOpsD_n, opDC_same, putD_rs, putC_some, putD_d, bin_sub, Int.reduceSub, w5, w4, bin_add, f10, evalK_index, f11, f12, evalK_indexAddr, Int.reduceLT, iaV_rs, Int.reduceToNat, putD_ptr, evalK_store, readV_ptr, storeV_P, hO, one_i, cells_d1, List.length_cons, List.length_nil, ones_cons, vone_d, ones_nil, Bool.and_self, storeP_cells, Nat.reduceLT, setCells_1, List.set_cons_succ, List.set_cons_zero, storePR_some, hm, opDC_serial, putD_none, hg, setAt_setAt, Nat.min_self, runOpsD_nil, w3, w2, f6, f7, f8, f13, f15, f14, w1, w0, f16, f17, f18, Nat.add_zero, bin_gtr, exL_skip, finC_nrm, resultVs_nil, leaveC_0, hl]
  rfl
def ds7 (n : Nat) : List Nat := [48 + n / 10000 / 100, 48 + n / 10000 % 100 / 10, 48 + n / 10000 % 100 % 10, 48 + n % 10000 / 100 / 10, 48 + n % 10000 / 100 % 10, 48 + n % 10000 % 100 / 10, 48 + n % 10000 % 100 % 10]
theorem fb7 {H : List Obj} {p c n : Nat} (hO : H[p]? = some (.cells zs)) (hp : p < H.length) (h : n < 10000000) :
    callL pg 41 [.rs p 1 7 c, .d (.i .u64 (n : Int))] H = some ⟨false, false, .tup [], setAt H p (.cells (z0 :: ((ds7 n).map (fun x => V.d (e8 x)) ++ zs.drop 8))), p⟩ := by
  rw [callL_fn (fn := f_internal_strconv_formatBase10) rfl rfl]
  unfold zs at hO
  have f0 := c32 (a := n) (by omega)
  have f1 := r32 (a := n) (c := 10000) (d := 10000) rfl
  have f2 := q32 (a := n) (c := 10000) (d := 10000) rfl (by omega)
  have f3 := q32 (a := n % 10000) (c := 100) (d := 100) rfl (by omega)
  have f4 := r32 (a := n % 10000) (c := 100) (d := 100) rfl
  have f5 := m32 (a := n % 10000 / 100) (by omega)
  have f6 := a32 (a := 2 * (n % 10000 / 100)) (by omega)
  have f7 := smalls_lo (k := .u32) (m := n % 10000 / 100) (by omega)
  have f8 := smalls_hi (k := .u32) (m := n % 10000 / 100) (by omega)
  have f9 := m32 (a := n % 10000 % 100) (by omega)
  have f10 := a32 (a := 2 * (n % 10000 % 100)) (by omega)
  have f11 := smalls_lo (k := .u32) (m := n % 10000 % 100) (by omega)
  have f12 := smalls_hi (k := .u32) (m := n % 10000 % 100) (by omega)
  have f13 := r32 (a := n / 10000) (c := 100) (d := 100) rfl
  have f14 := q32 (a := n / 10000) (c := 100) (d := 100) rfl (by omega)
  have f15 := m32 (a := n / 10000 % 100) (by omega)
  have f16 := a32 (a := 2 * (n / 10000 % 100)) (by omega)
  have f17 := smalls_lo (k := .u32) (m := n / 10000 % 100) (by omega)
  have f18 := smalls_hi (k := .u32) (m := n / 10000 % 100) (by omega)
  have f19 := last_digit (x := n / 10000 / 100) (by omega)
  unfold smalls at f7 f8 f11 f12 f17 f18
  have hm : min H.length p = p := by omega
  have hg : ∀ o, (setAt H p o)[p]? = some o := fun o => setAt_get hO
  have hl : ∀ (e : Env) (H' : List Obj), leave H false (.tup []) ⟨e, H', p⟩ = some ⟨false, false, .tup [], H', p⟩ := fun e H' => leave_new rfl (.inr hp)
  simp only [f_internal_strconv_formatBase10, f_internal_strconv_formatBase10_R1, argEnv_cons, Nat.zero_add, Nat.reduceAdd, argEnv_nil, exL_seq, exL_ops, runOps_n, evalK_mov, rd_t, get_eq, readV_rs, spent_t, opC_ok, put_rs, evalK_lenL, lenL_rs, Int.cast_ofNat_Int, okS_some, put_d, readV_d, runOps_nil, thenC_nrm, exL_block, f_internal_strconv_formatBase10_l0_in, reduceCtorEq, get_ne, keepV_rs, Nat.reduceEqDiff, keepV_d, f_internal_strconv_formatBase10_l0_eq, f_internal_strconv_formatBase10_B0, evalK_bin, isC_t, isC_c, Bool.or_true, rd_c, bin_geq, Int.reduceLE, decide_false, exL_cond, condC_b, Bool.false_eq_true, ↓reduceIte, exL_exit, thenC_exit, blockC_exit, restrict_cons, restrict_nil, evalK_conv, f0, rd_mv, takeV_d, spent_mv, decide_true, Int.reduceEq, bin_rem, f1, bin_quo, f2, f3, bin_mul, f5, f4, f9, exL_opsD, runOpsD_n, opDC_same, putD_rs, putC_some, putD_d, bin_sub, Int.reduceSub, w6, w5, bin_add, f10, evalK_index, f11, f12, evalK_indexAddr, Int.reduceLT, iaV_rs, Int.reduceToNat, putD_ptr, evalK_store, readV_ptr, storeV_P, hO, one_i, cells_d1, List.length_cons, List.length_nil, ones_cons, vone_d, ones_nil, Bool.and_self, storeP_cells, Nat.reduceLT, setCells_1, List.set_cons_succ, List.set_cons_zero, storePR_some, hm, opDC_serial, putD_none, hg, setAt_setAt, Nat.min_self, runOpsD_nil, w4, w3, f6, f7, f8, f13, f15, f14, w2, w1, f16, f17, f18, bin_gtr, Bool.or_false, f19, Nat.add_zero, put_ptr, put_none, finC_nrm, resultVs_nil, leaveC_0, hl]
  rfl
def ds8 (n : Nat) : List Nat := [48 + n % 100000000 / 10000 / 100 / 10, 48 + n % 100000000 / 10000 / 100 % 10, 48 + n % 100000000 / 10000 % 100 / 10, 48 + n % 100000000 / 10000 % 100 % 10, 48 + n % 100000000 % 10000 / 100 / 10, 48 + n % 100000000 % 10000 / 100 % 10, 48 + n % 100000000 % 10000 % 100 / 10, 48 + n % 100000000 % 10000 % 100 % 10]
theorem fb8 {H : List Obj} {p c n : Nat} (hO : H[p]? = some (.cells zs)) (hp : p < H.length) (h : n < 100000000) :
    callL pg 41 [.rs p 1 8 c, .d (.i .u64 (n : Int))] H = some ⟨false, false, .tup [], setAt H p (.cells (z0 :: ((ds8 n).map (fun x => V.d (e8 x)) ++ zs.drop 9))), p⟩ := by
  rw [callL_fn (fn := f_internal_strconv_formatBase10) rfl rfl]
  unfold zs at hO
  have f0 := r32 (a := n) (c := 100000000) (d := 100000000) rfl
  have f1 := q64 (a := n) (c := 100000000) (d := 100000000) rfl (by omega)
  have f2 := c32 (a := n % 100000000) (by omega)
  have f3 := q32 (a := n % 100000000) (c := 10000) (d := 10000) rfl (by omega)
  have f4 := r32 (a := n % 100000000) (c := 10000) (d := 10000) rfl
  have f5 := q32 (a := n % 100000000 / 10000) (c := 100) (d := 100) rfl (by omega)
  have f6 := r32 (a := n % 100000000 / 10000) (c := 100) (d := 100) rfl
  have f7 := m32 (a := n % 100000000 / 10000 / 100) (by omega)
  have f8 := a32 (a := 2 * (n % 100000000 / 10000 / 100)) (by omega)
  have f9 := smalls_lo (k := .u32) (m := n % 100000000 / 10000 / 100) (by omega)
  have f10 := smalls_hi (k := .u32) (m := n % 100000000 / 10000 / 100) (by omega)
  have f11 := m32 (a := n % 100000000 / 10000 % 100) (by omega)
  have f12 := a32 (a := 2 * (n % 100000000 / 10000 % 100)) (by omega)
  have f13 := smalls_lo (k := .u32) (m := n % 100000000 / 10000 % 100) (by omega)
  have f14 := smalls_hi (k := .u32) (m := n % 100000000 / 10000 % 100) (by omega)
  have f15 := q32 (a := n % 100000000 % 10000) (c := 100) (d := 100) rfl (by omega)
  have f16 := r32 (a := n % 100000000 % 10000) (c := 100) (d := 100) rfl
  have f17 := m32 (a := n % 100000000 % 10000 / 100) (by omega)
  have f18 := a32 (a := 2 * (n % 100000000 % 10000 / 100)) (by omega)
  have f19 := smalls_lo (k := .u32) (m := n % 100000000 % 10000 / 100) (by omega)
  have f20 := smalls_hi (k := .u32) (m := n % 100000000 % 10000 / 100) (by omega)
  have f21 := m32 (a := n % 100000000 % 10000 % 100) (by omega)
  have f22 := a32 (a := 2 * (n % 100000000 % 10000 % 100)) (by omega)
  have f23 := smalls_lo (k := .u32) (m := n % 100000000 % 10000 % 100) (by omega)
  have f24 := smalls_hi (k := .u32) (m := n % 100000000 % 10000 % 100) (by omega)
  have f25 := c32 (a := n / 100000000) (by omega)
  unfold smalls at f9 f10 f13 f14 f19 f20 f23 f24
  have hm : min H.length p = p := by omega
  have hg : ∀ o, (setAt H p o)[p]? = some o := fun o => setAt_get hO
  have hl : ∀ (e : Env) (H' : List Obj), leave H false (.tup []) ⟨e, H', p⟩ = some ⟨false, false, .tup [], H', p⟩ := fun e H' => leave_new rfl (.inr hp)
  simp only [f_internal_strconv_formatBase10, f_internal_strconv_formatBase10_R1, argEnv_cons, Nat.zero_add, Nat.reduceAdd, argEnv_nil, exL_seq, exL_ops, runOps_n, evalK_mov, rd_t, get_eq, readV_rs, spent_t, opC_ok, put_rs, evalK_lenL, lenL_rs, Int.cast_ofNat_Int, okS_some, put_d, readV_d, runOps_nil, thenC_nrm, exL_block, f_internal_strconv_formatBase10_l0_in, reduceCtorEq, get_ne, keepV_rs, Nat.reduceEqDiff, keepV_d, f_internal_strconv_formatBase10_l0_eq, f_internal_strconv_formatBase10_B0, evalK_bin, isC_t, isC_c, Bool.or_true, rd_c, bin_geq, Int.reduceLE, decide_true, exL_cond, condC_b, ↓reduceIte, exL_skip, Int.reduceEq, bin_rem, f0, evalK_conv, f2, rd_mv, takeV_d, spent_mv, bin_quo, f1, f3, f4, f15, bin_mul, f17, f16, f21, f5, f7, f6, f11, exL_opsD, runOpsD_n, opDC_same, putD_rs, putC_some, putD_d, bin_sub, Int.reduceSub, w7, w6, bin_add, f22, evalK_index, f23, f24, evalK_indexAddr, Int.reduceLT, iaV_rs, Int.reduceToNat, putD_ptr, evalK_store, readV_ptr, storeV_P, hO, one_i, cells_d1, List.length_cons, List.length_nil, ones_cons, vone_d, ones_nil, Bool.and_self, storeP_cells, Nat.reduceLT, setCells_1, List.set_cons_succ, List.set_cons_zero, storePR_some, hm, opDC_serial, putD_none, hg, setAt_setAt, Nat.min_self, runOpsD_nil, w5, w4, f18, f19, f20, w3, w2, f12, f13, f14, w1, w0, f8, f9, f10, Nat.add_zero, blockC_nrm, restrict_cons, restrict_nil, decide_false, Bool.false_eq_true, exL_exit, thenC_exit, blockC_exit, f25, bin_gtr, finC_nrm, resultVs_nil, leaveC_0, hl]
  rfl
def ds9 (n : Nat) : List Nat := [48 + n / 100000000, 48 + n % 100000000 / 10000 / 100 / 10, 48 + n % 100000000 / 10000 / 100 % 10, 48 + n % 100000000 / 10000 % 100 / 10, 48 + n % 100000000 / 10000 % 100 % 10, 48 + n % 100000000 % 10000 / 100 / 10, 48 + n % 100000000 % 10000 / 100 % 10, 48 + n % 100000000 % 10000 % 100 / 10, 48 + n % 100000000 % 10000 % 100 % 10]
theorem fb9 {H : List Obj} {p c n : Nat} (hO : H[p]? = some (.cells zs)) (hp : p < H.length) (h : n < 1000000000) :
    callL pg 41 [.rs p 1 9 c, .d (.i .u64 (n : Int))] H = some ⟨false, false, .tup [], setAt H p (.cells (z0 :: ((ds9 n).map (fun x => V.d (e8 x)) ++ zs.drop 10))), p⟩ := by
  rw [callL_fn (fn := f_internal_strconv_formatBase10) rfl rfl]
  unfold zs at hO
  have f0 := r32 (a := n) (c := 100000000) (d := 100000000) rfl
  have f1 := q64 (a := n) (c := 100000000) (d := 100000000) rfl (by omega)
  have f2 := c32 (a := n % 100000000) (by omega)
  have f3 := q32 (a := n % 100000000) (c := 10000) (d := 10000) rfl (by omega)
  have f4 := r32 (a := n % 100000000) (c := 10000) (d := 10000) rfl
  have f5 := q32 (a := n % 100000000 / 10000) (c := 100) (d := 100) rfl (by omega)
  have f6 := r32 (a := n % 100000000 / 10000) (c := 100) (d := 100) rfl
  have f7 := m32 (a := n % 100000000 / 10000 / 100) (by omega)
  have f8 := a32 (a := 2 * (n % 100000000 / 10000 / 100)) (by omega)
  have f9 := smalls_lo (k := .u32) (m := n % 100000000 / 10000 / 100) (by omega)
  have f10 := smalls_hi (k := .u32) (m := n % 100000000 / 10000 / 100) (by omega)
  have f11 := m32 (a := n % 100000000 / 10000 % 100) (by omega)
  have f12 := a32 (a := 2 * (n % 100000000 / 10000 % 100)) (by omega)
  have f13 := smalls_lo (k := .u32) (m := n % 100000000 / 10000 % 100) (by omega)
  have f14 := smalls_hi (k := .u32) (m := n % 100000000 / 10000 % 100) (by omega)
  have f15 := q32 (a := n % 100000000 % 10000) (c := 100) (d := 100) rfl (by omega)
  have f16 := r32 (a := n % 100000000 % 10000) (c := 100) (d := 100) rfl
  have f17 := m32 (a := n % 100000000 % 10000 / 100) (by omega)
  have f18 := a32 (a := 2 * (n % 100000000 % 10000 / 100)) (by omega)
  have f19 := smalls_lo (k := .u32) (m := n % 100000000 % 10000 / 100) (by omega)
  have f20 := smalls_hi (k := .u32) (m := n % 100000000 % 10000 / 100) (by omega)
  have f21 := m32 (a := n % 100000000 % 10000 % 100) (by omega)
  have f22 := a32 (a := 2 * (n % 100000000 % 10000 % 100)) (by omega)
  have f23 := smalls_lo (k := .u32) (m := n % 100000000 % 10000 % 100) (by omega)
  have f24 := smalls_hi (k := .u32) (m := n % 100000000 % 10000 % 100) (by omega)
  have f25 := c32 (a := n / 100000000) (by omega)
  have f26 := last_digit (x := n / 100000000) (by omega)
  unfold smalls at f9 f10 f13 f14 f19 f20 f23 f24
  have hm : min H.length p = p := by omega
  have hg : ∀ o, (setAt H p o)[p]? = some o := fun o => setAt_get hO
  have hl : ∀ (e : Env) (H' : List Obj), leave H false (.tup []) ⟨e, H', p⟩ = some ⟨false, false, .tup [], H', p⟩ := fun e H' => leave_new rfl (.inr hp)
  simp only [f_internal_strconv_formatBase10, f_internal_strconv_formatBase10_R1, argEnv_cons, Nat.zero_add, Nat.reduceAdd, argEnv_nil, exL_seq, exL_ops, runOps_n, evalK_mov, rd_t, get_eq, readV_rs, spent_t, opC_ok, put_rs, evalK_lenL, lenL_rs, Int.cast_ofNat_Int, okS_some, put_d, readV_d, runOps_nil, thenC_nrm, exL_block, f_internal_strconv_formatBase10_l0_in, reduceCtorEq, get_ne, keepV_rs, Nat.reduceEqDiff, keepV_d, f_internal_strconv_formatBase10_l0_eq, f_internal_strconv_formatBase10_B0, evalK_bin, isC_t, isC_c, Bool.or_true, rd_c, bin_geq, Int.reduceLE, decide_true, exL_cond, condC_b, ↓reduceIte, exL_skip, Int.reduceEq, bin_rem, f0, evalK_conv, f2, rd_mv, takeV_d, spent_mv, bin_quo, f1, f3, f4, f15, bin_mul, f17, f16, f21, f5, f7, f6, f11, exL_opsD, runOpsD_n, opDC_same, putD_rs, putC_some, putD_d, bin_sub, Int.reduceSub, w8, w7, bin_add, f22, evalK_index, f23, f24, evalK_indexAddr, Int.reduceLT, iaV_rs, Int.reduceToNat, putD_ptr, evalK_store, readV_ptr, storeV_P, hO, one_i, cells_d1, List.length_cons, List.length_nil, ones_cons, vone_d, ones_nil, Bool.and_self, storeP_cells, Nat.reduceLT, setCells_1, List.set_cons_succ, List.set_cons_zero, storePR_some, hm, opDC_serial, putD_none, hg, setAt_setAt, Nat.min_self, runOpsD_nil, w6, w5, f18, f19, f20, w4, w3, f12, f13, f14, w2, w1, f8, f9, f10, blockC_nrm, restrict_cons, restrict_nil, decide_false, Bool.false_eq_true, exL_exit, thenC_exit, blockC_exit, f25, bin_gtr, Bool.or_false, f26, Nat.add_zero, put_ptr, put_none, finC_nrm, resultVs_nil, leaveC_0, hl]
  rfl
def ds10 (n : Nat) : List Nat := [48 + n / 100000000 % 100 / 10, 48 + n / 100000000 % 100 % 10, 48 + n % 100000000 / 10000 / 100 / 10, 48 + n % 100000000 / 10000 / 100 % 10, 48 + n % 100000000 / 10000 % 100 / 10, 48 + n % 100000000 / 10000 % 100 % 10, 48 + n % 100000000 % 10000 / 100 / 10, 48 + n % 100000000 % 10000 / 100 % 10, 48 + n % 100000000 % 10000 % 100 / 10, 48 + n % 100000000 % 10000 % 100 % 10]
theorem fb10 {H : List Obj} {p c n : Nat} (hO : H[p]? = some (.cells zs)) (hp : p < H.length) (h : n < 4294967296) :
    callL pg 41 [.rs p 1 10 c, .d (.i .u64 (n : Int))] H = some ⟨false, false, .tup [], setAt H p (.cells (z0 :: ((ds10 n).map (fun x => V.d (e8 x)) ++ zs.drop 11))), p⟩ := by
  rw [callL_fn (fn := f_internal_strconv_formatBase10) rfl rfl]
  unfold zs at hO
  have f0 := r32 (a := n) (c := 100000000) (d := 100000000) rfl
  have f1 := q64 (a := n) (c := 100000000) (d := 100000000) rfl (by omega)
  have f2 := c32 (a := n % 100000000) (by omega)
  have f3 := q32 (a := n % 100000000) (c := 10000) (d := 10000) rfl (by omega)
  have f4 := r32 (a := n % 100000000) (c := 10000) (d := 10000) rfl
  have f5 := q32 (a := n % 100000000 / 10000) (c := 100) (d := 100) rfl (by omega)
  have f6 := r32 (a := n % 100000000 / 10000) (c := 100) (d := 100) rfl
  have f7 := m32 (a := n % 100000000 / 10000 / 100) (by omega)
  have f8 := a32 (a := 2 * (n % 100000000 / 10000 / 100)) (by omega)
  have f9 := smalls_lo (k := .u32) (m := n % 100000000 / 10000 / 100) (by omega)
  have f10 := smalls_hi (k := .u32) (m := n % 100000000 / 10000 / 100) (by omega)
  have f11 := m32 (a := n % 100000000 / 10000 % 100) (by omega)
  have f12 := a32 (a := 2 * (n % 100000000 / 10000 % 100)) (by omega)
  have f13 := smalls_lo (k := .u32) (m := n % 100000000 / 10000 % 100) (by omega)
  have f14 := smalls_hi (k := .u32) (m := n % 100000000 / 10000 % 100) (by omega)
  have f15 := q32 (a := n % 100000000 % 10000) (c := 100) (d := 100) rfl (by omega)
  have f16 := r32 (a := n % 100000000 % 10000) (c := 100) (d := 100) rfl
  have f17 := m32 (a := n % 100000000 % 10000 / 100) (by omega)
  have f18 := a32 (a := 2 * (n % 100000000 % 10000 / 100)) (by omega)
  have f19 := smalls_lo (k := .u32) (m := n % 100000000 % 10000 / 100) (by omega)
  have f20 := smalls_hi (k := .u32) (m := n % 100000000 % 10000 / 100) (by omega)
  have f21 := m32 (a := n % 100000000 % 10000 % 100) (by omega)
  have f22 := a32 (a := 2 * (n % 100000000 % 10000 % 100)) (by omega)
  have f23 := smalls_lo (k := .u32) (m := n % 100000000 % 10000 % 100) (by omega)
  have f24 := smalls_hi (k := .u32) (m := n % 100000000 % 10000 % 100) (by omega)
  have f25 := c32 (a := n / 100000000) (by omega)
  have f26 := r32 (a := n / 100000000) (c := 100) (d := 100) rfl
  have f27 := q32 (a := n / 100000000) (c := 100) (d := 100) rfl (by omega)
  have f28 := m32 (a := n / 100000000 % 100) (by omega)
  have f29 := a32 (a := 2 * (n / 100000000 % 100)) (by omega)
  have f30 := smalls_lo (k := .u32) (m := n / 100000000 % 100) (by omega)
  have f31 := smalls_hi (k := .u32) (m := n / 100000000 % 100) (by omega)
  unfold smalls at f9 f10 f13 f14 f19 f20 f23 f24 f30 f31
  have hm : min H.length p = p := by omega
  have hg : ∀ o, (setAt H p o)[p]? = some o := fun o => setAt_get hO
  have hl : ∀ (e : Env) (H' : List Obj), leave H false (.tup []) ⟨e, H', p⟩ = some ⟨false, false, .tup [], H', p⟩ := fun e H' => leave_new rfl (.inr hp)
  simp only [f_internal_strconv_formatBase10, f_internal_strconv_formatBase10_R1, argEnv_cons, Nat.zero_add, Nat.reduceAdd, argEnv_nil, exL_seq, exL_ops, runOps_n, evalK_mov, rd_t, get_eq, readV_rs, spent_t, opC_ok, put_rs, evalK_lenL, lenL_rs, Int.cast_ofNat_Int, okS_some, put_d, readV_d, runOps_nil, thenC_nrm, exL_block, f_internal_strconv_formatBase10_l0_in, reduceCtorEq, get_ne, keepV_rs, Nat.reduceEqDiff, keepV_d, f_internal_strconv_formatBase10_l0_eq, f_internal_strconv_formatBase10_B0, evalK_bin, isC_t, isC_c, Bool.or_true, rd_c, bin_geq, Int.reduceLE, decide_true, exL_cond, condC_b, ↓reduceIte, exL_skip, Int.reduceEq, bin_rem, f0, evalK_conv, f2, rd_mv, takeV_d, spent_mv, bin_quo, f1, f3, f4, f15, bin_mul, f17, f16, f21, f5, f7, f6, f11, exL_opsD, runOpsD_n, opDC_same, putD_rs, putC_some, putD_d, bin_sub, Int.reduceSub, w9, w8, bin_add, f22, evalK_index, f23, f24, evalK_indexAddr, Int.reduceLT, iaV_rs, Int.reduceToNat, putD_ptr, evalK_store, readV_ptr, storeV_P, hO, one_i, cells_d1, List.length_cons, List.length_nil, ones_cons, vone_d, ones_nil, Bool.and_self, storeP_cells, Nat.reduceLT, setCells_1, List.set_cons_succ, List.set_cons_zero, storePR_some, hm, opDC_serial, putD_none, hg, setAt_setAt, Nat.min_self, runOpsD_nil, w7, w6, f18, f19, f20, w5, w4, f12, f13, f14, w3, w2, f8, f9, f10, blockC_nrm, restrict_cons, restrict_nil, decide_false, Bool.false_eq_true, exL_exit, thenC_exit, blockC_exit, f25, f26, f28, f27, w1, w0, f29, f30, f31, Nat.add_zero, bin_gtr, finC_nrm, resultVs_nil, leaveC_0, hl]
  rfl
theorem cons2 {a b : Nat} {l m : List Nat} (h : a = b) (h2 : l = m) : a :: l = b :: m := by rw [h, h2]
theorem ds1_eq {n : Nat} (h2 : n < 10) : decN n = ds1 n := by
  unfold ds1
  rw [decN_small (n := n) (by omega)]
theorem ds2_eq {n : Nat} (h1 : 10 ≤ n) (h2 : n < 100) : decN n = ds2 n := by
  unfold ds2
  rw [decN_great (n := n) (by omega), decN_small (n := n / 10) (by omega)]
  simp only [List.cons_append, List.nil_append, List.append_assoc]
  refine cons2 (by omega) (cons2 (by omega) rfl)
theorem ds3_eq {n : Nat} (h1 : 100 ≤ n) (h2 : n < 1000) : decN n = ds3 n := by
  unfold ds3
  rw [decN_great (n := n) (by omega), decN_great (n := n / 10) (by omega), decN_small (n := n / 10 / 10) (by omega)]
  simp only [List.cons_append, List.nil_append, List.append_assoc]
  refine cons2 (by omega) (cons2 (by omega) (cons2 (by omega) rfl))
theorem ds4_eq {n : Nat} (h1 : 1000 ≤ n) (h2 : n < 10000) : decN n = ds4 n := by
  unfold ds4
  rw [decN_great (n := n) (by omega), decN_great (n := n / 10) (by omega), decN_great (n := n / 10 / 10) (by omega), decN_small (n := n / 10 / 10 / 10) (by omega)]
  simp only [List.cons_append, List.nil_append, List.append_assoc]
  refine cons2 (by omega) (cons2 (by omega) (cons2 (by omega) (cons2 (by omega) rfl)))
theorem ds5_eq {n : Nat} (h1 : 10000 ≤ n) (h2 : n < 100000) : decN n = ds5 n := by
  unfold ds5
  rw [decN_great (n := n) (by omega), decN_great (n := n / 10) (by omega), decN_great (n := n / 10 / 10) (by omega), decN_great (n := n / 10 / 10 / 10) (by omega), decN_small (n := n / 10 / 10 / 10 / 10) (by omega)]
  simp only [List.cons_append, List.nil_append, List.append_assoc]
  refine cons2 (by omega) (cons2 (by omega) (cons2 (by omega) (cons2 (by omega) (cons2 (by omega) rfl))))
theorem ds6_eq {n : Nat} (h1 : 100000 ≤ n) (h2 : n < 1000000) : decN n = ds6 n := by
  unfold ds6
  rw [decN_great (n := n) (by omega), decN_great (n := n / 10) (by omega), decN_great (n := n / 10 / 10) (by omega), decN_great (n := n / 10 / 10 / 10) (by omega), decN_great (n := n / 10 / 10 / 10 / 10) (by omega), decN_small (n := n / 10 / 10 / 10 / 10 / 10) (by omega)]
  simp only [List.cons_append, List.nil_append, List.append_assoc]
  refine cons2 (by omega) (cons2 (by omega) (cons2 (by omega) (cons2 (by omega) (cons2 (by omega) (cons2 (by omega) rfl)))))
theorem ds7_eq {n : Nat} (h1 : 1000000 ≤ n) (h2 : n < 10000000) : decN n = ds7 n := by
  unfold ds7
  rw [decN_great (n := n) (by omega), decN_great (n := n / 10) (by omega), decN_great (n := n / 10 / 10) (by omega), decN_great (n := n / 10 / 10 / 10) (by omega), decN_great (n := n / 10 / 10 / 10 / 10) (by omega), decN_great (n := n / 10 / 10 / 10 / 10 / 10) (by omega), decN_small (n := n / 10 / 10 / 10 / 10 / 10 / 10) (by omega)]
  simp only [List.cons_append, List.nil_append, List.append_assoc]
  refine cons2 (by omega) (cons2 (by omega) (cons2 (by omega) (cons2 (by omega) (cons2 (by omega) (cons2 (by omega) (cons2 (by omega) rfl))))))
theorem ds8_eq {n : Nat} (h1 : 10000000 ≤ n) (h2 : n < 100000000) : decN n = ds8 n := by
  unfold ds8
  rw [decN_great (n := n) (by omega), decN_great (n := n / 10) (by omega), decN_great (n := n / 10 / 10) (by omega), decN_great (n := n / 10 / 10 / 10) (by omega), decN_great (n := n / 10 / 10 / 10 / 10) (by omega), decN_great (n := n / 10 / 10 / 10 / 10 / 10) (by omega), decN_great (n := n / 10 / 10 / 10 / 10 / 10 / 10) (by omega), decN_small (n := n / 10 / 10 / 10 / 10 / 10 / 10 / 10) (by omega)]
  simp only [List.cons_append, List.nil_append, List.append_assoc]
  refine cons2 (by omega) (cons2 (by omega) (cons2 (by omega) (cons2 (by omega) (cons2 (by omega) (cons2 (by omega) (cons2 (by omega) (cons2 (by omega) rfl)))))))
theorem ds9_eq {n : Nat} (h1 : 100000000 ≤ n) (h2 : n < 1000000000) : decN n = ds9 n := by
  unfold ds9
  rw [decN_great (n := n) (by omega), decN_great (n := n / 10) (by omega), decN_great (n := n / 10 / 10) (by omega), decN_great (n := n / 10 / 10 / 10) (by omega), decN_great (n := n / 10 / 10 / 10 / 10) (by omega), decN_great (n := n / 10 / 10 / 10 / 10 / 10) (by omega), decN_great (n := n / 10 / 10 / 10 / 10 / 10 / 10) (by omega), decN_great (n := n / 10 / 10 / 10 / 10 / 10 / 10 / 10) (by omega), decN_small (n := n / 10 / 10 / 10 / 10 / 10 / 10 / 10 / 10) (by omega)]
  simp only [List.cons_append, List.nil_append, List.append_assoc]
  refine cons2 (by omega) (cons2 (by omega) (cons2 (by omega) (cons2 (by omega) (cons2 (by omega) (cons2 (by omega) (cons2 (by omega) (cons2 (by omega) (cons2 (by omega) rfl))))))))
theorem ds10_eq {n : Nat} (h1 : 1000000000 ≤ n) (h2 : n < 4294967296) : decN n = ds10 n := by
  unfold ds10
  rw [decN_great (n := n) (by omega), decN_great (n := n / 10) (by omega), decN_great (n := n / 10 / 10) (by omega), decN_great (n := n / 10 / 10 / 10) (by omega), decN_great (n := n / 10 / 10 / 10 / 10) (by omega), decN_great (n := n / 10 / 10 / 10 / 10 / 10) (by omega), decN_great (n := n / 10 / 10 / 10 / 10 / 10 / 10) (by omega), decN_great (n := n / 10 / 10 / 10 / 10 / 10 / 10 / 10) (by omega), decN_great (n := n / 10 / 10 / 10 / 10 / 10 / 10 / 10 / 10) (by omega), decN_small (n := n / 10 / 10 / 10 / 10 / 10 / 10 / 10 / 10 / 10) (by omega)]
  simp only [List.cons_append, List.nil_append, List.append_assoc]
  refine cons2 (by omega) (cons2 (by omega) (cons2 (by omega) (cons2 (by omega) (cons2 (by omega) (cons2 (by omega) (cons2 (by omega) (cons2 (by omega) (cons2 (by omega) (cons2 (by omega) rfl)))))))))

theorem fb_dec {H : List Obj} {p c n : Nat} (hO : H[p]? = some (.cells zs)) (hp : p < H.length) (h0 : 0 < n) (h : n < 4294967296) :
    (decN n).length ≤ 10 ∧ 1 ≤ (decN n).length ∧
    callL pg 41 [.rs p 1 (decN n).length c, .d (.i .u64 (n : Int))] H = some ⟨false, false, .tup [], setAt H p (.cells (z0 :: ((decN n).map (fun x => V.d (e8 x)) ++ zs.drop ((decN n).length + 1)))), p⟩ := by
  by_cases c1 : n < 10
  · have hd := ds1_eq (n := n) (by omega)
    have hl : (decN n).length = 1 := by rw [hd]; rfl
    exact ⟨by omega, by omega, by rw [hl, hd]; exact fb1 hO hp (by omega)⟩
  by_cases c2 : n < 100
  · have hd := ds2_eq (n := n) (by omega) (by omega)
    have hl : (decN n).length = 2 := by rw [hd]; rfl
    exact ⟨by omega, by omega, by rw [hl, hd]; exact fb2 hO hp (by omega)⟩
  by_cases c3 : n < 1000
  · have hd := ds3_eq (n := n) (by omega) (by omega)
    have hl : (decN n).length = 3 := by rw [hd]; rfl
    exact ⟨by omega, by omega, by rw [hl, hd]; exact fb3 hO hp (by omega)⟩
  by_cases c4 : n < 10000
  · have hd := ds4_eq (n := n) (by omega) (by omega)
    have hl : (decN n).length = 4 := by rw [hd]; rfl
    exact ⟨by omega, by omega, by rw [hl, hd]; exact fb4 hO hp (by omega)⟩
  by_cases c5 : n < 100000
  · have hd := ds5_eq (n := n) (by omega) (by omega)
    have hl : (decN n).length = 5 := by rw [hd]; rfl
    exact ⟨by omega, by omega, by rw [hl, hd]; exact fb5 hO hp (by omega)⟩
  by_cases c6 : n < 1000000
  · have hd := ds6_eq (n := n) (by omega) (by omega)
    have hl : (decN n).length = 6 := by rw [hd]; rfl
    exact ⟨by omega, by omega, by rw [hl, hd]; exact fb6 hO hp (by omega)⟩
  by_cases c7 : n < 10000000
  · have hd := ds7_eq (n := n) (by omega) (by omega)
    have hl : (decN n).length = 7 := by rw [hd]; rfl
    exact ⟨by omega, by omega, by rw [hl, hd]; exact fb7 hO hp (by omega)⟩
  by_cases c8 : n < 100000000
  · have hd := ds8_eq (n := n) (by omega) (by omega)
    have hl : (decN n).length = 8 := by rw [hd]; rfl
    exact ⟨by omega, by omega, by rw [hl, hd]; exact fb8 hO hp (by omega)⟩
  by_cases c9 : n < 1000000000
  · have hd := ds9_eq (n := n) (by omega) (by omega)
    have hl : (decN n).length = 9 := by rw [hd]; rfl
    exact ⟨by omega, by omega, by rw [hl, hd]; exact fb9 hO hp (by omega)⟩
  have hd := ds10_eq (n := n) (by omega) (by omega)
  have hl : (decN n).length = 10 := by rw [hd]; rfl
  exact ⟨by omega, by omega, by rw [hl, hd]; exact fb10 hO hp (by omega)⟩

end W

set_option linter.unusedSimpArgs false
set_option linter.unusedVariables false
namespace W
open Go (IntKind BinOp UnOp)
set_option maxRecDepth 20000
theorem zs_eq : [V.d (.i .u8 0), .d (.i .u8 0), .d (.i .u8 0), .d (.i .u8 0), .d (.i .u8 0), .d (.i .u8 0), .d (.i .u8 0), .d (.i .u8 0), .d (.i .u8 0), .d (.i .u8 0), .d (.i .u8 0), .d (.i .u8 0), .d (.i .u8 0), .d (.i .u8 0), .d (.i .u8 0), .d (.i .u8 0), .d (.i .u8 0), .d (.i .u8 0), .d (.i .u8 0), .d (.i .u8 0), .d (.i .u8 0), .d (.i .u8 0), .d (.i .u8 0), .d (.i .u8 0)] = zs := rfl
theorem allD_mapd {ds : List D} : allD (ds.map V.d) = some ds := by
  induction ds with
  | nil => rfl
  | cons d l ih => simp only [List.map_cons, allD, ih]
theorem textV_row {H : List Obj} {id o c k : Nat} {pre post : List V} {ds : List Nat} (hO : H[id]? = some (.cells (pre ++ (ds.map (fun x => V.d (e8 x)) ++ post)))) (ho : pre.length = o) (hk : ds.length = k) (h : ∀ c ∈ ds, c < 256) :
    textV (.rs id o k c) H = some (.d (.s ds)) := by
  subst ho hk
  have e1 : ((pre ++ (ds.map (fun x => V.d (e8 x)) ++ post)).drop pre.length).take ds.length = (ds.map e8).map V.d := by
    rw [List.drop_left]
    rw [List.take_append_of_le_length (by simp), List.take_of_length_le (by simp), List.map_map]; rfl
  have e2 : bytesOf (ds.map e8) = some ds := bytesOf_map h
  have e3 : allD ((ds.map e8).map V.d) = some (ds.map e8) := allD_mapd
  have e4 : Nat.ble (pre.length + ds.length) (pre ++ (ds.map (fun x => V.d (e8 x)) ++ post)).length = true := by rw [ble_d]; exact decide_eq_true (by simp)
  simp only [textV, hO, e1, e3, e2, e4, bytesO_some, cond_true]
theorem setCells_hd {v w : V} {l : List V} : setCells (v :: l) 0 [w] = some (w :: l) := by rw [setCells_1 (eq_true (by simp))]; rfl
theorem decN_256 : ∀ (f n : Nat), n ≤ f → ∀ c ∈ decN n, c < 256
  | f, n, hf, c, hc => by
    by_cases h : n < 10
    · rw [decN_small h] at hc; simp at hc; omega
    · match f with
      | 0 => omega
      | f + 1 =>
        rw [decN_great h] at hc
        rcases List.mem_append.1 hc with hc | hc
        · exact decN_256 f (n / 10) (by omega) c hc
        · simp at hc; omega
theorem wr_neg_gen {k : IntKind} {m : Nat} (h : inNeg k m = false) : wr k (Int.negSucc m) = IntKind.wrap k (Int.negSucc m) := by
  show (bif inNeg k m then Int.negSucc m else IntKind.wrap k (Int.negSucc m)) = _
  rw [h]; rfl
theorem wr_u64_neg {m : Nat} : wr .u64 (Int.negSucc m) = IntKind.wrap .u64 (Int.negSucc m) := wr_neg_gen rfl
theorem u64_neg1 {n : Nat} (h0 : 0 < n) (h : n < 4294967296) : wr .u64 (-(n : Int)) = 18446744073709551616 - (n : Int) := by
  obtain ⟨m, rfl⟩ : ∃ m, n = m + 1 := ⟨n - 1, by omega⟩
  have : (-((m + 1 : Nat) : Int)) = Int.negSucc m := by omega
  rw [this, wr_u64_neg]
  simp [IntKind.wrap, IntKind.bits, IntKind.signed]; omega
theorem u64_neg2 {n : Nat} (h0 : 0 < n) (h : n < 4294967296) : wr .u64 (0 - (18446744073709551616 - (n : Int))) = (n : Int) := by
  obtain ⟨m, hm⟩ : ∃ m : Nat, (0 - (18446744073709551616 - (n : Int))) = Int.negSucc m := by
    have hz : 0 - (18446744073709551616 - (n : Int)) < 0 := by omega
    revert hz
    generalize 0 - (18446744073709551616 - (n : Int)) = z
    intro hz
    cases z with
    | ofNat a => rw [Int.ofNat_eq_natCast] at hz; omega
    | negSucc a => exact ⟨a, rfl⟩
  rw [hm, wr_u64_neg]
  simp [IntKind.wrap, IntKind.bits, IntKind.signed]; omega
theorem formatInt_call {H : List Obj} {x : Int} (h1 : -2147483648 ≤ x) (h2 : x ≤ 2147483648) : callL pg 34 [.d (.i .i64 x), .d (.i .i64 10)] H = some ⟨false, true, .d (.s (decI x)), H, H.length⟩ := by
  rw [callL_fn (fn := f_internal_strconv_FormatInt) rfl rfl]
  unfold decI
  by_cases hn : x < 0
  · rw [if_pos hn]
    obtain ⟨n, hx⟩ : ∃ n : Nat, n = (-x).toNat := ⟨_, rfl⟩
    have hxn : x = -(n : Int) := by omega
    rw [← hx]
    have f0 : (0 ≤ x) = False := eq_false (by omega)
    have f1 : wr .u64 x = 18446744073709551616 - (n : Int) := by rw [hxn]; exact u64_neg1 (by omega) (by omega)
    have f2 := u64_neg2 (n := n) (by omega) (by omega)
    have f3 := numD_call (n := n) (H := H ++ [.cells zs]) (by omega)
    rw [numD_eq (by omega) (by omega)] at f3
    obtain ⟨l1, l2, f4⟩ := fb_dec (H := H ++ [.cells zs]) (p := H.length) (c := 23) (n := n) push_get (by simp) (by omega) (by omega)
    have f5 : wr .i64 (1 + ((decN n).length : Int)) = (((decN n).length + 1 : Nat) : Int) := by rw [wr_i64 (by omega) (by omega)]; omega
    have f6 : sliceP 24 (.ptr H.length 0) (some 1) (some (((decN n).length + 1 : Nat) : Int)) = some (.rs H.length 1 (decN n).length 23) := by
      rw [sliceP_ptr (by simp) (by simp only [Option.getD_some]; omega) (by simp; omega) (by simp)]; simp
    have f7 : sliceP 24 (.ptr H.length 0) none (some (((decN n).length + 1 : Nat) : Int)) = some (.rs H.length 0 ((decN n).length + 1) 24) := by
      rw [sliceP_ptr (by simp) (by simp only [Option.getD_none, Option.getD_some]; omega) (by simp; omega) (by simp)]; simp
    have f8 : textV (.rs H.length 0 ((decN n).length + 1) 24) (setAt (H ++ [.cells zs]) H.length (.cells (.d (.i .u8 45) :: ((decN n).map (fun x => V.d (e8 x)) ++ zs.drop ((decN n).length + 1))))) = some (.d (.s (45 :: decN n))) :=
      textV_row (pre := []) (post := zs.drop ((decN n).length + 1)) (ds := 45 :: decN n) (setAt_get push_get) rfl rfl (fun c hc => (List.mem_cons.1 hc).elim (fun e => by omega) (fun hc => decN_256 n n (Nat.le_refl _) c hc))
    have hg : ∀ o, (setAt (H ++ [.cells zs]) H.length o)[H.length]? = some o := fun o => setAt_get push_get
    have hm : min H.length (H.length + 1) = H.length := by omega
    unfold z0 at f4
    simp only [f_internal_strconv_FormatInt, argEnv_cons, Nat.zero_add, Nat.reduceAdd, argEnv_nil, exL_seq, exL_ops, runOps_n, evalK_mov, rd_c, spent_c, opC_ok, put_d, runOps_nil, thenC_nrm, rd_t, Nat.reduceEqDiff, get_ne, reduceCtorEq, get_eq, readV_d, spent_t, evalK_bin, isC_t, isC_c, Bool.or_true, bin_eql, decide_true, okS_some, exL_cond, condC_b, ↓reduceIte, Bool.or_false, bin_leq, f0, decide_false, runOps_g, wantG_bt, wantC_b, Bool.false_eq_true, put_tup, evalK_pick, readV_tup, pickV_f, exL_skip, evalK_alloc, List.map_cons, List.map_nil, zs_eq, put_ptr, evalK_conv, f1, rd_mv, takeV_d, spent_mv, bin_lss, hn, evalK_un, un_neg, f2, Option.map_some, evalK_call, allLeave_cons, leaves_d, allLeave_nil, Bool.and_self, eCall_f, f3, List.length_append, List.length_cons, List.length_nil, callC_some, spentAll_cons, spentAll_nil, hm, bin_add, f5, evalK_sliceA, readV_ptr, optInt_some, oInt_i, cut2_some, f6, put_rs, readV_rs, leaves_rs, f4, Nat.min_self, evalK_indexAddr, Int.reduceLE, Int.cast_ofNat_Int, Int.reduceLT, iaV_arr, Int.reduceToNat, Nat.reduceMul, Nat.add_zero, evalK_store, storeV_P, hg, one_i, cells_d1, ones_cons, vone_d, ones_nil, storeP_cells, setCells_hd, storePR_some, setAt_setAt, put_none, optInt_none, f7, evalK_text, f8, exL_ret, thenC_ret, finC_ret, resultVs_cons, resultV_t, ownV_d, resultVs_nil, consO_some, leaveC_1, ref_d, settle_d, leave_pure]
  · rw [if_neg hn]
    obtain ⟨n, hx⟩ : ∃ n : Nat, n = x.toNat := ⟨_, rfl⟩
    have hxn : x = (n : Int) := by omega
    rw [← hx, hxn]
    have f0 : (0 ≤ (n : Int)) = True := eq_true (by omega)
    have f1 : ((n : Int) < 0) = False := eq_false (by omega)
    by_cases hs : n < 100
    · have f2 : ((n : Int) < 100) = True := eq_true (by omega)
      have f3 := small_call (n := n) (H := H) hs
      simp only [f_internal_strconv_FormatInt, argEnv_cons, Nat.zero_add, Nat.reduceAdd, argEnv_nil, exL_seq, exL_ops, runOps_n, evalK_mov, rd_c, spent_c, opC_ok, put_d, runOps_nil, thenC_nrm, rd_t, Nat.reduceEqDiff, get_ne, reduceCtorEq, get_eq, readV_d, spent_t, evalK_bin, isC_t, isC_c, Bool.or_true, bin_eql, decide_true, okS_some, exL_cond, condC_b, ↓reduceIte, Bool.or_false, bin_leq, f0, runOps_g, wantG_bt, wantC_b, bin_lss, f2, evalK_pick, pickV_b, rd_mv, takeV_d, spent_mv, evalK_call, List.map_cons, List.map_nil, allLeave_cons, leaves_d, allLeave_nil, Bool.and_self, eCall_f, f3, callC_some, spentAll_cons, spentAll_nil, Nat.min_self, exL_ret, thenC_ret, finC_ret, resultVs_cons, resultV_t, ownV_d, resultVs_nil, consO_some, leaveC_1, ref_d, settle_d, leave_pure]
    · have f2 : ((n : Int) < 100) = False := eq_false (by omega)
      have f2' : wr .u64 (n : Int) = (n : Int) := wr_u64 (by omega) (by omega)
      have f3 := numD_call (n := n) (H := H ++ [.cells zs]) (by omega)
      rw [numD_eq (by omega) (by omega)] at f3
      obtain ⟨l1, l2, f4⟩ := fb_dec (H := H ++ [.cells zs]) (p := H.length) (c := 23) (n := n) push_get (by simp) (by omega) (by omega)
      have f5 : wr .i64 (1 + ((decN n).length : Int)) = (((decN n).length + 1 : Nat) : Int) := by rw [wr_i64 (by omega) (by omega)]; omega
      have f6 : sliceP 24 (.ptr H.length 0) (some 1) (some (((decN n).length + 1 : Nat) : Int)) = some (.rs H.length 1 (decN n).length 23) := by
        rw [sliceP_ptr (by simp) (by simp only [Option.getD_some]; omega) (by simp; omega) (by simp)]; simp
      have f8 : textV (.rs H.length 1 (decN n).length 23) (setAt (H ++ [.cells zs]) H.length (.cells (z0 :: ((decN n).map (fun x => V.d (e8 x)) ++ zs.drop ((decN n).length + 1))))) = some (.d (.s (decN n))) :=
        textV_row (pre := [z0]) (post := zs.drop ((decN n).length + 1)) (ds := decN n) (setAt_get push_get) rfl rfl (decN_256 n n (Nat.le_refl _))
      have hg : ∀ o, (setAt (H ++ [.cells zs]) H.length o)[H.length]? = some o := fun o => setAt_get push_get
      have hm : min H.length (H.length + 1) = H.length := by omega
      unfold z0 at f4 f8
      simp only [f_internal_strconv_FormatInt, argEnv_cons, Nat.zero_add, Nat.reduceAdd, argEnv_nil, exL_seq, exL_ops, runOps_n, evalK_mov, rd_c, spent_c, opC_ok, put_d, runOps_nil, thenC_nrm, rd_t, Nat.reduceEqDiff, get_ne, reduceCtorEq, get_eq, readV_d, spent_t, evalK_bin, isC_t, isC_c, Bool.or_true, bin_eql, decide_true, okS_some, exL_cond, condC_b, ↓reduceIte, Bool.or_false, bin_leq, f0, runOps_g, wantG_bt, wantC_b, bin_lss, f2, decide_false, evalK_pick, pickV_b, Bool.false_eq_true, exL_skip, evalK_alloc, List.map_cons, List.map_nil, zs_eq, put_ptr, evalK_conv, f2', rd_mv, takeV_d, spent_mv, f1, evalK_call, allLeave_cons, leaves_d, allLeave_nil, Bool.and_self, eCall_f, f3, List.length_append, List.length_cons, List.length_nil, callC_some, spentAll_cons, spentAll_nil, hm, bin_add, f5, evalK_sliceA, readV_ptr, optInt_some, oInt_i, cut2_some, f6, put_rs, readV_rs, leaves_rs, f4, Nat.min_self, put_tup, evalK_text, f8, exL_ret, thenC_ret, finC_ret, resultVs_cons, resultV_t, ownV_d, resultVs_nil, consO_some, leaveC_1, ref_d, settle_d, leave_pure]
theorem itoa_call {H : List Obj} {x : Int} (h1 : -2147483648 ≤ x) (h2 : x ≤ 2147483648) : callL pg 17 [.d (.i .i64 x)] H = some ⟨false, true, .d (.s (decI x)), H, H.length⟩ := by
  have i2 : callL pg 29 [.d (.i .i64 x)] H = some ⟨false, true, .d (.s (decI x)), H, H.length⟩ := by
    rw [callL_fn (fn := f_internal_strconv_Itoa) rfl rfl]
    simp only [f_internal_strconv_Itoa, argEnv_cons, Nat.zero_add, argEnv_nil, exL_seq, exL_ops, runOps_n, evalK_mov, rd_c, spent_c, opC_ok, put_d, runOps_nil, thenC_nrm, rd_mv, reduceCtorEq, get_ne, get_eq, takeV_d, spent_mv, evalK_call, List.map_cons, List.map_nil, allLeave_cons, leaves_d, allLeave_nil, Bool.and_self, eCall_f, formatInt_call h1 h2, callC_some, spentAll_cons, spentAll_nil, Nat.min_self, exL_ret, finC_ret, resultVs_cons, resultV_t, ownV_d, resultVs_nil, consO_some, leaveC_1, ref_d, settle_d, leave_pure]
  rw [callL_fn (fn := f_strconv_Itoa) rfl rfl]
  simp only [f_strconv_Itoa, argEnv_cons, Nat.zero_add, argEnv_nil, exL_seq, exL_ops, runOps_n, evalK_mov, rd_c, spent_c, opC_ok, put_d, runOps_nil, thenC_nrm, rd_mv, reduceCtorEq, get_ne, get_eq, takeV_d, spent_mv, evalK_call, List.map_cons, List.map_nil, allLeave_cons, leaves_d, allLeave_nil, Bool.and_self, eCall_f, i2, callC_some, spentAll_cons, spentAll_nil, Nat.min_self, exL_ret, finC_ret, resultVs_cons, resultV_t, ownV_d, resultVs_nil, consO_some, leaveC_1, ref_d, settle_d, leave_pure]
end W

set_option linter.unusedSimpArgs false
set_option linter.unusedVariables false
namespace W
open Go (IntKind BinOp UnOp)
set_option maxRecDepth 20000
def nib (n : Int) : Bool := decide (0 ≤ n) && decide (n < 16)
theorem nib_call {n : Int} {H : List Obj} : callL pg 27 [.d (.i .i64 n)] H = some ⟨false, true, .d (.b (nib n)), H, H.length⟩ := by
  rw [callL_fn (fn := f_risc_nibble) rfl rfl]
  unfold nib
  by_cases h1 : 0 ≤ n <;> by_cases h2 : n < 16 <;> simp only [f_risc_nibble, argEnv_cons, Nat.zero_add, argEnv_nil, exL_seq, exL_ops, runOps_n, evalK_mov, rd_c, spent_c, opC_ok, put_d, runOps_nil, thenC_nrm, rd_t, reduceCtorEq, get_ne, get_eq, readV_d, spent_t, evalK_bin, isC_t, isC_c, Bool.or_true, bin_geq, h1, decide_true, okS_some, runOps_g, wantG_bt, wantC_b, ↓reduceIte, Nat.reduceEqDiff, bin_lss, h2, evalK_pick, pickV_b, exL_ret, finC_ret, resultVs_cons, resultV_t, ownV_d, resultVs_nil, consO_some, leaveC_1, leaves_d, ref_d, settle_d, leave_pure, Bool.and_self, decide_false, Bool.and_false, Bool.false_eq_true, put_tup, readV_tup, pickV_f, Bool.and_true]
theorem in_call {a b c : Int} {H : List Obj} : callL pg 25 [.d (.i .i64 a), .d (.i .i64 b), .d (.i .i64 c)] H = some ⟨false, true, .d (.b (decide (b ≤ a) && decide (a ≤ c))), H, H.length⟩ := by
  rw [callL_fn (fn := f_waferref5_in) rfl rfl]
  by_cases h1 : b ≤ a <;> by_cases h2 : a ≤ c <;> simp only [f_waferref5_in, argEnv_cons, Nat.zero_add, Nat.reduceAdd, argEnv_nil, exL_seq, exL_ops, runOps_n, evalK_mov, rd_c, spent_c, opC_ok, put_d, runOps_nil, thenC_nrm, rd_t, reduceCtorEq, get_ne, get_eq, readV_d, spent_t, Nat.reduceEqDiff, evalK_bin, isC_t, Bool.or_self, bin_geq, h1, decide_true, okS_some, runOps_g, wantG_bt, wantC_b, ↓reduceIte, bin_leq, h2, evalK_pick, pickV_b, exL_ret, finC_ret, resultVs_cons, resultV_t, ownV_d, resultVs_nil, consO_some, leaveC_1, leaves_d, ref_d, settle_d, leave_pure, Bool.and_self, decide_false, Bool.and_false, Bool.false_eq_true, put_tup, readV_tup, pickV_f, Bool.and_true]
def bitN (b : Bool) : Nat := bif b then 1 else 0
theorem bit_call {b : Bool} {H : List Obj} : callL pg 16 [.d (.b b)] H = some ⟨false, true, .d (.i .u32 (bitN b : Nat)), H, H.length⟩ := by
  rw [callL_fn (fn := f_risc_bit) rfl rfl]
  cases b
  · simp only [f_risc_bit, argEnv_cons, Nat.zero_add, argEnv_nil, exL_seq, exL_ops, runOps_n, evalK_mov, rd_c, spent_c, opC_ok, put_d, runOps_nil, thenC_nrm, rd_t, reduceCtorEq, get_ne, get_eq, readV_d, spent_t, exL_cond, condC_b, Bool.false_eq_true, ↓reduceIte, exL_skip, exL_ret, finC_ret, resultVs_cons, resultV_t, ownV_d, resultVs_nil, consO_some, leaveC_1, leaves_d, ref_d, settle_d, leave_pure]
    all_goals rfl
  · simp only [f_risc_bit, argEnv_cons, Nat.zero_add, argEnv_nil, exL_seq, exL_ops, runOps_n, evalK_mov, rd_c, spent_c, opC_ok, put_d, runOps_nil, thenC_nrm, rd_t, reduceCtorEq, get_ne, get_eq, readV_d, spent_t, exL_cond, condC_b, ↓reduceIte, exL_ret, thenC_ret, finC_ret, resultVs_cons, resultV_t, ownV_d, resultVs_nil, consO_some, leaveC_1, leaves_d, ref_d, settle_d, leave_pure]
    all_goals rfl
theorem bitR_call {b : Bool} {H : List Obj} : callL pg 26 [.d (.b b)] H = some ⟨false, true, .d (.i .u32 (bitN b : Nat)), H, H.length⟩ := by
  rw [callL_fn (fn := f_waferref5_bit) rfl rfl]
  cases b
  · simp only [f_waferref5_bit, argEnv_cons, Nat.zero_add, argEnv_nil, exL_seq, exL_ops, runOps_n, evalK_mov, rd_c, spent_c, opC_ok, put_d, runOps_nil, thenC_nrm, rd_t, reduceCtorEq, get_ne, get_eq, readV_d, spent_t, exL_cond, condC_b, Bool.false_eq_true, ↓reduceIte, exL_skip, exL_ret, finC_ret, resultVs_cons, resultV_t, ownV_d, resultVs_nil, consO_some, leaveC_1, leaves_d, ref_d, settle_d, leave_pure]
    all_goals rfl
  · simp only [f_waferref5_bit, argEnv_cons, Nat.zero_add, argEnv_nil, exL_seq, exL_ops, runOps_n, evalK_mov, rd_c, spent_c, opC_ok, put_d, runOps_nil, thenC_nrm, rd_t, reduceCtorEq, get_ne, get_eq, readV_d, spent_t, exL_cond, condC_b, ↓reduceIte, exL_ret, thenC_ret, finC_ret, resultVs_cons, resultV_t, ownV_d, resultVs_nil, consO_some, leaveC_1, leaves_d, ref_d, settle_d, leave_pure]
    all_goals rfl
theorem signed20_call {n : Int} {H : List Obj} : callL pg 28 [.d (.i .i32 n), .d (.i .u64 20)] H = some ⟨false, true, .d (.b (decide (-524288 ≤ n) && decide (n < 524288))), H, H.length⟩ := by
  rw [callL_fn (fn := f_risc_signed) rfl rfl]
  have w : wr .u64 19 = 19 := rfl
  have s1 : wr .i32 (-1 * 2 ^ (min (Int.toNat 19) (IntKind.bits .i32))) = -524288 := by rfl
  have s2 : wr .i32 (1 * 2 ^ (min (Int.toNat 19) (IntKind.bits .i32))) = 524288 := by rfl
  by_cases h1 : -524288 ≤ n <;> by_cases h2 : n < 524288 <;> simp only [f_risc_signed, Int.reduceNeg, argEnv_cons, Nat.zero_add, Nat.reduceAdd, argEnv_nil, exL_seq, exL_ops, runOps_n, evalK_mov, rd_c, spent_c, opC_ok, put_d, runOps_nil, thenC_nrm, rd_t, reduceCtorEq, get_ne, get_eq, readV_d, spent_t, Nat.reduceEqDiff, evalK_bin, isC_t, isC_c, Bool.or_true, bin_sub, Int.reduceSub, w, okS_some, Bool.or_false, Int.reduceLE, bin_shl, s1, Bool.or_self, bin_geq, h1, decide_true, runOps_g, wantG_bt, wantC_b, ↓reduceIte, s2, bin_lss, h2, evalK_pick, pickV_b, exL_ret, finC_ret, resultVs_cons, resultV_t, ownV_d, resultVs_nil, consO_some, leaveC_1, leaves_d, ref_d, settle_d, leave_pure, Bool.and_self, decide_false, Bool.and_false, Bool.false_eq_true, put_tup, readV_tup, pickV_f, Bool.and_true]
theorem signed24_call {n : Int} {H : List Obj} : callL pg 28 [.d (.i .i32 n), .d (.i .u64 24)] H = some ⟨false, true, .d (.b (decide (-8388608 ≤ n) && decide (n < 8388608))), H, H.length⟩ := by
  rw [callL_fn (fn := f_risc_signed) rfl rfl]
  have w : wr .u64 23 = 23 := rfl
  have s1 : wr .i32 (-1 * 2 ^ (min (Int.toNat 23) (IntKind.bits .i32))) = -8388608 := by rfl
  have s2 : wr .i32 (1 * 2 ^ (min (Int.toNat 23) (IntKind.bits .i32))) = 8388608 := by rfl
  by_cases h1 : -8388608 ≤ n <;> by_cases h2 : n < 8388608 <;> simp only [f_risc_signed, Int.reduceNeg, argEnv_cons, Nat.zero_add, Nat.reduceAdd, argEnv_nil, exL_seq, exL_ops, runOps_n, evalK_mov, rd_c, spent_c, opC_ok, put_d, runOps_nil, thenC_nrm, rd_t, reduceCtorEq, get_ne, get_eq, readV_d, spent_t, Nat.reduceEqDiff, evalK_bin, isC_t, isC_c, Bool.or_true, bin_sub, Int.reduceSub, w, okS_some, Bool.or_false, Int.reduceLE, bin_shl, s1, Bool.or_self, bin_geq, h1, decide_true, runOps_g, wantG_bt, wantC_b, ↓reduceIte, s2, bin_lss, h2, evalK_pick, pickV_b, exL_ret, finC_ret, resultVs_cons, resultV_t, ownV_d, resultVs_nil, consO_some, leaveC_1, leaves_d, ref_d, settle_d, leave_pure, Bool.and_self, decide_false, Bool.and_false, Bool.false_eq_true, put_tup, readV_tup, pickV_f, Bool.and_true]
/-- An instruction. -/
structure Ins where
  F : Int
  U : Bool
  V : Bool
  A : Int
  B : Int
  C : Int
  Op : Int
  Imm : Int
def eI (i : Ins) : D := .agg [.i .i64 i.F, .b i.U, .b i.V, .i .i64 i.A, .i .i64 i.B, .i .i64 i.C, .i .i64 i.Op, .i .i32 i.Imm]
def nibs (i : Ins) : Bool := nib i.A && nib i.B && nib i.C && nib i.Op
def rightB (i : Ins) : Bool := nibs i &&
  (bif decide (i.F = 0) then decide (i.Imm = 0)
  else bif decide (i.F = 1) then decide (i.C = 0) && decide (0 ≤ i.Imm) && decide (i.Imm < 65536)
  else bif decide (i.F = 2) then decide (i.C = 0) && decide (i.Op = 0) && (decide (-524288 ≤ i.Imm) && decide (i.Imm < 524288))
  else bif decide (i.F = 3) then (bif decide (i.B = 0) && decide (i.Op = 0) then
    (bif i.U then decide (i.C = 0) && (decide (-8388608 ≤ i.Imm) && decide (i.Imm < 8388608)) else decide (0 ≤ i.Imm) && decide (i.Imm < 16)) else false)
  else false)
theorem right_call {i : Ins} {H : List Obj} : callL pg 15 [.d (eI i)] H = some ⟨false, true, .d (.b (rightB i)), H, H.length⟩ := by
  obtain ⟨F, U, V, A, B, C, Op, Imm⟩ := i
  rw [callL_fn (fn := f_risc_right) rfl rfl]
  unfold rightB nibs eI
  have hA := nib_call (n := A) (H := H)
  have hB := nib_call (n := B) (H := H)
  have hC := nib_call (n := C) (H := H)
  have hO := nib_call (n := Op) (H := H)
  cases nA : nib A
  · rw [nA] at hA
    simp only [f_risc_right, argEnv_cons, Nat.zero_add, argEnv_nil, exL_seq, exL_ops, runOps_n, evalK_box, rd_t, get_eq, readV_d, spent_t, cells_agg, List.map_cons, List.map_nil, ones_cons, vone_d, one_i, one_b, ones_nil, Bool.and_self, boxN_t, opC_ok, put_box, killLp_cons, killV_d, killLp_nil, evalK_mov, rd_c, spent_c, put_d, runOps_nil, thenC_nrm, evalK_fieldAddr, Nat.reduceEqDiff, get_ne, readV_box, faV_lp, okS_some, put_lp, evalK_load, readV_lp, loadV_lp, boxV_1, List.getElem?_cons_succ, List.getElem?_cons_zero, Option.map_some, copy1_d, evalK_call, allLeave_cons, leaves_d, allLeave_nil, eCall_f, hA, callC_some, spentAll_cons, spentAll_nil, Nat.min_self, evalK_un, un_not, Bool.not_false, runOps_g, wantG_bf, Bool.not_true, wantC_b, Bool.false_eq_true, ↓reduceIte, put_tup, evalK_pick, readV_tup, pickV_t, exL_cond, condC_b, exL_ret, thenC_ret, finC_ret, resultVs_cons, resultV_t, ownV_d, resultVs_nil, consO_some, leaveC_1, ref_d, settle_d, leave_pure, Bool.false_and, Int.reduceNeg]
    all_goals rfl
  rw [nA] at hA
  cases nB : nib B
  · rw [nB] at hB
    simp only [f_risc_right, argEnv_cons, Nat.zero_add, argEnv_nil, exL_seq, exL_ops, runOps_n, evalK_box, rd_t, get_eq, readV_d, spent_t, cells_agg, List.map_cons, List.map_nil, ones_cons, vone_d, one_i, one_b, ones_nil, Bool.and_self, boxN_t, opC_ok, put_box, killLp_cons, killV_d, killLp_nil, evalK_mov, rd_c, spent_c, put_d, runOps_nil, thenC_nrm, evalK_fieldAddr, Nat.reduceEqDiff, get_ne, readV_box, faV_lp, okS_some, put_lp, evalK_load, readV_lp, loadV_lp, boxV_1, List.getElem?_cons_succ, List.getElem?_cons_zero, Option.map_some, copy1_d, evalK_call, allLeave_cons, leaves_d, allLeave_nil, eCall_f, hA, callC_some, spentAll_cons, spentAll_nil, Nat.min_self, evalK_un, un_not, Bool.not_true, runOps_g, wantG_bf, Bool.not_false, wantC_b, ↓reduceIte, hB, evalK_pick, pickV_b, Bool.false_eq_true, put_tup, readV_tup, pickV_t, exL_cond, condC_b, exL_ret, thenC_ret, finC_ret, resultVs_cons, resultV_t, ownV_d, resultVs_nil, consO_some, leaveC_1, ref_d, settle_d, leave_pure, Bool.and_false, Bool.false_and, Int.reduceNeg]
    all_goals rfl
  rw [nB] at hB
  cases nC : nib C
  · rw [nC] at hC
    simp only [f_risc_right, argEnv_cons, Nat.zero_add, argEnv_nil, exL_seq, exL_ops, runOps_n, evalK_box, rd_t, get_eq, readV_d, spent_t, cells_agg, List.map_cons, List.map_nil, ones_cons, vone_d, one_i, one_b, ones_nil, Bool.and_self, boxN_t, opC_ok, put_box, killLp_cons, killV_d, killLp_nil, evalK_mov, rd_c, spent_c, put_d, runOps_nil, thenC_nrm, evalK_fieldAddr, Nat.reduceEqDiff, get_ne, readV_box, faV_lp, okS_some, put_lp, evalK_load, readV_lp, loadV_lp, boxV_1, List.getElem?_cons_succ, List.getElem?_cons_zero, Option.map_some, copy1_d, evalK_call, allLeave_cons, leaves_d, allLeave_nil, eCall_f, hA, callC_some, spentAll_cons, spentAll_nil, Nat.min_self, evalK_un, un_not, Bool.not_true, runOps_g, wantG_bf, Bool.not_false, wantC_b, ↓reduceIte, hB, evalK_pick, pickV_b, Bool.false_eq_true, hC, put_tup, readV_tup, pickV_t, exL_cond, condC_b, exL_ret, thenC_ret, finC_ret, resultVs_cons, resultV_t, ownV_d, resultVs_nil, consO_some, leaveC_1, ref_d, settle_d, leave_pure, Bool.and_false, Bool.false_and, Int.reduceNeg]
    all_goals rfl
  rw [nC] at hC
  cases nO : nib Op
  · rw [nO] at hO
    simp only [f_risc_right, argEnv_cons, Nat.zero_add, argEnv_nil, exL_seq, exL_ops, runOps_n, evalK_box, rd_t, get_eq, readV_d, spent_t, cells_agg, List.map_cons, List.map_nil, ones_cons, vone_d, one_i, one_b, ones_nil, Bool.and_self, boxN_t, opC_ok, put_box, killLp_cons, killV_d, killLp_nil, evalK_mov, rd_c, spent_c, put_d, runOps_nil, thenC_nrm, evalK_fieldAddr, Nat.reduceEqDiff, get_ne, readV_box, faV_lp, okS_some, put_lp, evalK_load, readV_lp, loadV_lp, boxV_1, List.getElem?_cons_succ, List.getElem?_cons_zero, Option.map_some, copy1_d, evalK_call, allLeave_cons, leaves_d, allLeave_nil, eCall_f, hA, callC_some, spentAll_cons, spentAll_nil, Nat.min_self, evalK_un, un_not, Bool.not_true, runOps_g, wantG_bf, Bool.not_false, wantC_b, ↓reduceIte, hB, evalK_pick, pickV_b, Bool.false_eq_true, hC, hO, exL_cond, condC_b, exL_ret, thenC_ret, finC_ret, resultVs_cons, resultV_t, ownV_d, resultVs_nil, consO_some, leaveC_1, ref_d, settle_d, leave_pure, Bool.and_false, Int.reduceNeg, Bool.false_and]
    all_goals rfl
  rw [nO] at hO
  by_cases f0 : F = 0
  · subst f0
    by_cases h1 : Imm = 0 <;> simp only [f_risc_right, h1, argEnv_cons, Nat.zero_add, argEnv_nil, exL_seq, exL_ops, runOps_n, evalK_box, rd_t, get_eq, readV_d, spent_t, cells_agg, List.map_cons, List.map_nil, ones_cons, vone_d, one_i, one_b, ones_nil, Bool.and_self, boxN_t, opC_ok, put_box, killLp_cons, killV_d, killLp_nil, evalK_mov, rd_c, spent_c, put_d, runOps_nil, thenC_nrm, evalK_fieldAddr, Nat.reduceEqDiff, get_ne, readV_box, faV_lp, okS_some, put_lp, evalK_load, readV_lp, loadV_lp, boxV_1, List.getElem?_cons_succ, List.getElem?_cons_zero, Option.map_some, copy1_d, evalK_call, allLeave_cons, leaves_d, allLeave_nil, eCall_f, hA, callC_some, spentAll_cons, spentAll_nil, Nat.min_self, evalK_un, un_not, Bool.not_true, runOps_g, wantG_bf, Bool.not_false, wantC_b, ↓reduceIte, hB, evalK_pick, pickV_b, Bool.false_eq_true, hC, hO, exL_cond, condC_b, exL_skip, Nat.add_zero, exL_block, evalK_bin, isC_t, isC_c, Bool.or_true, bin_eql, decide_true, exL_ret, blockC_ret, thenC_ret, finC_ret, resultVs_cons, resultV_t, ownV_d, resultVs_nil, consO_some, leaveC_1, ref_d, settle_d, leave_pure, Int.reduceEq, decide_false, Int.reduceLE, Bool.and_true, Int.reduceLT, Int.reduceNeg, Bool.true_and]
    all_goals rfl
  by_cases f1 : F = 1
  · subst f1
    by_cases h1 : C = 0
    · subst h1
      by_cases h2 : 0 ≤ Imm <;> by_cases h3 : Imm < 65536 <;> simp only [f_risc_right, argEnv_cons, Nat.zero_add, argEnv_nil, exL_seq, exL_ops, runOps_n, evalK_box, rd_t, get_eq, readV_d, spent_t, cells_agg, List.map_cons, List.map_nil, ones_cons, vone_d, one_i, one_b, ones_nil, Bool.and_self, boxN_t, opC_ok, put_box, killLp_cons, killV_d, killLp_nil, evalK_mov, rd_c, spent_c, put_d, runOps_nil, thenC_nrm, evalK_fieldAddr, Nat.reduceEqDiff, get_ne, readV_box, faV_lp, okS_some, put_lp, evalK_load, readV_lp, loadV_lp, boxV_1, List.getElem?_cons_succ, List.getElem?_cons_zero, Option.map_some, copy1_d, evalK_call, allLeave_cons, leaves_d, allLeave_nil, eCall_f, hA, callC_some, spentAll_cons, spentAll_nil, Nat.min_self, evalK_un, un_not, Bool.not_true, runOps_g, wantG_bf, Bool.not_false, wantC_b, ↓reduceIte, hB, evalK_pick, pickV_b, Bool.false_eq_true, hC, hO, exL_cond, condC_b, exL_skip, Nat.add_zero, exL_block, evalK_bin, isC_t, isC_c, Bool.or_true, bin_eql, Int.reduceEq, decide_false, decide_true, wantG_bt, bin_geq, h2, bin_lss, h3, exL_ret, blockC_ret, thenC_ret, finC_ret, resultVs_cons, resultV_t, ownV_d, resultVs_nil, consO_some, leaveC_1, ref_d, settle_d, leave_pure, Bool.true_and, Int.reduceNeg, Bool.and_false, put_tup, readV_tup, pickV_f, Bool.and_true, Bool.false_and]
      all_goals rfl
    · simp only [f_risc_right, argEnv_cons, Nat.zero_add, argEnv_nil, exL_seq, exL_ops, runOps_n, evalK_box, rd_t, get_eq, readV_d, spent_t, cells_agg, List.map_cons, List.map_nil, ones_cons, vone_d, one_i, one_b, ones_nil, Bool.and_self, boxN_t, opC_ok, put_box, killLp_cons, killV_d, killLp_nil, evalK_mov, rd_c, spent_c, put_d, runOps_nil, thenC_nrm, evalK_fieldAddr, Nat.reduceEqDiff, get_ne, readV_box, faV_lp, okS_some, put_lp, evalK_load, readV_lp, loadV_lp, boxV_1, List.getElem?_cons_succ, List.getElem?_cons_zero, Option.map_some, copy1_d, evalK_call, allLeave_cons, leaves_d, allLeave_nil, eCall_f, hA, callC_some, spentAll_cons, spentAll_nil, Nat.min_self, evalK_un, un_not, Bool.not_true, runOps_g, wantG_bf, Bool.not_false, wantC_b, ↓reduceIte, hB, evalK_pick, pickV_b, Bool.false_eq_true, hC, hO, exL_cond, condC_b, exL_skip, Nat.add_zero, exL_block, evalK_bin, isC_t, isC_c, Bool.or_true, bin_eql, Int.reduceEq, decide_false, decide_true, h1, wantG_bt, put_tup, readV_tup, pickV_f, exL_ret, blockC_ret, thenC_ret, finC_ret, resultVs_cons, resultV_t, ownV_d, resultVs_nil, consO_some, leaveC_1, ref_d, settle_d, leave_pure, Bool.false_and, Int.reduceNeg, Bool.true_and]
      all_goals rfl
  by_cases f2 : F = 2
  · subst f2
    have hs := signed20_call (n := Imm) (H := H)
    by_cases h1 : C = 0
    · subst h1
      by_cases h2 : Op = 0
      · subst h2
        simp only [f_risc_right, argEnv_cons, Nat.zero_add, argEnv_nil, exL_seq, exL_ops, runOps_n, evalK_box, rd_t, get_eq, readV_d, spent_t, cells_agg, List.map_cons, List.map_nil, ones_cons, vone_d, one_i, one_b, ones_nil, Bool.and_self, boxN_t, opC_ok, put_box, killLp_cons, killV_d, killLp_nil, evalK_mov, rd_c, spent_c, put_d, runOps_nil, thenC_nrm, evalK_fieldAddr, Nat.reduceEqDiff, get_ne, readV_box, faV_lp, okS_some, put_lp, evalK_load, readV_lp, loadV_lp, boxV_1, List.getElem?_cons_succ, List.getElem?_cons_zero, Option.map_some, copy1_d, evalK_call, allLeave_cons, leaves_d, allLeave_nil, eCall_f, hA, callC_some, spentAll_cons, spentAll_nil, Nat.min_self, evalK_un, un_not, Bool.not_true, runOps_g, wantG_bf, Bool.not_false, wantC_b, ↓reduceIte, hB, evalK_pick, pickV_b, Bool.false_eq_true, hC, exL_cond, condC_b, exL_skip, Nat.add_zero, exL_block, evalK_bin, isC_t, isC_c, Bool.or_true, bin_eql, Int.reduceEq, decide_false, decide_true, wantG_bt, hs, Int.reduceNeg, exL_ret, blockC_ret, thenC_ret, finC_ret, resultVs_cons, resultV_t, ownV_d, resultVs_nil, consO_some, leaveC_1, ref_d, settle_d, leave_pure, Bool.true_and, Bool.and_true]
        all_goals rfl
      · simp only [f_risc_right, argEnv_cons, Nat.zero_add, argEnv_nil, exL_seq, exL_ops, runOps_n, evalK_box, rd_t, get_eq, readV_d, spent_t, cells_agg, List.map_cons, List.map_nil, ones_cons, vone_d, one_i, one_b, ones_nil, Bool.and_self, boxN_t, opC_ok, put_box, killLp_cons, killV_d, killLp_nil, evalK_mov, rd_c, spent_c, put_d, runOps_nil, thenC_nrm, evalK_fieldAddr, Nat.reduceEqDiff, get_ne, readV_box, faV_lp, okS_some, put_lp, evalK_load, readV_lp, loadV_lp, boxV_1, List.getElem?_cons_succ, List.getElem?_cons_zero, Option.map_some, copy1_d, evalK_call, allLeave_cons, leaves_d, allLeave_nil, eCall_f, hA, callC_some, spentAll_cons, spentAll_nil, Nat.min_self, evalK_un, un_not, Bool.not_true, runOps_g, wantG_bf, Bool.not_false, wantC_b, ↓reduceIte, hB, evalK_pick, pickV_b, Bool.false_eq_true, hC, hO, exL_cond, condC_b, exL_skip, Nat.add_zero, exL_block, evalK_bin, isC_t, isC_c, Bool.or_true, bin_eql, Int.reduceEq, decide_false, decide_true, wantG_bt, h2, put_tup, readV_tup, pickV_f, exL_ret, blockC_ret, thenC_ret, finC_ret, resultVs_cons, resultV_t, ownV_d, resultVs_nil, consO_some, leaveC_1, ref_d, settle_d, leave_pure, Bool.true_and, Bool.and_false, Int.reduceNeg, Bool.false_and]
        all_goals rfl
    · simp only [f_risc_right, argEnv_cons, Nat.zero_add, argEnv_nil, exL_seq, exL_ops, runOps_n, evalK_box, rd_t, get_eq, readV_d, spent_t, cells_agg, List.map_cons, List.map_nil, ones_cons, vone_d, one_i, one_b, ones_nil, Bool.and_self, boxN_t, opC_ok, put_box, killLp_cons, killV_d, killLp_nil, evalK_mov, rd_c, spent_c, put_d, runOps_nil, thenC_nrm, evalK_fieldAddr, Nat.reduceEqDiff, get_ne, readV_box, faV_lp, okS_some, put_lp, evalK_load, readV_lp, loadV_lp, boxV_1, List.getElem?_cons_succ, List.getElem?_cons_zero, Option.map_some, copy1_d, evalK_call, allLeave_cons, leaves_d, allLeave_nil, eCall_f, hA, callC_some, spentAll_cons, spentAll_nil, Nat.min_self, evalK_un, un_not, Bool.not_true, runOps_g, wantG_bf, Bool.not_false, wantC_b, ↓reduceIte, hB, evalK_pick, pickV_b, Bool.false_eq_true, hC, hO, exL_cond, condC_b, exL_skip, Nat.add_zero, exL_block, evalK_bin, isC_t, isC_c, Bool.or_true, bin_eql, Int.reduceEq, decide_false, decide_true, h1, wantG_bt, put_tup, readV_tup, pickV_f, exL_ret, blockC_ret, thenC_ret, finC_ret, resultVs_cons, resultV_t, ownV_d, resultVs_nil, consO_some, leaveC_1, ref_d, settle_d, leave_pure, Bool.false_and, Int.reduceNeg, Bool.true_and]
      all_goals rfl
  by_cases f3 : F = 3
  · subst f3
    by_cases h1 : B = 0
    · subst h1
      by_cases h2 : Op = 0
      · subst h2
        cases U
        · by_cases h3 : 0 ≤ Imm <;> by_cases h4 : Imm < 16 <;> simp only [f_risc_right, argEnv_cons, Nat.zero_add, argEnv_nil, exL_seq, exL_ops, runOps_n, evalK_box, rd_t, get_eq, readV_d, spent_t, cells_agg, List.map_cons, List.map_nil, ones_cons, vone_d, one_i, one_b, ones_nil, Bool.and_self, boxN_t, opC_ok, put_box, killLp_cons, killV_d, killLp_nil, evalK_mov, rd_c, spent_c, put_d, runOps_nil, thenC_nrm, evalK_fieldAddr, Nat.reduceEqDiff, get_ne, readV_box, faV_lp, okS_some, put_lp, evalK_load, readV_lp, loadV_lp, boxV_1, List.getElem?_cons_succ, List.getElem?_cons_zero, Option.map_some, copy1_d, evalK_call, allLeave_cons, leaves_d, allLeave_nil, eCall_f, hA, callC_some, spentAll_cons, spentAll_nil, Nat.min_self, evalK_un, un_not, Bool.not_true, runOps_g, wantG_bf, Bool.not_false, wantC_b, ↓reduceIte, hB, evalK_pick, pickV_b, Bool.false_eq_true, hC, exL_cond, condC_b, exL_skip, Nat.add_zero, exL_block, evalK_bin, isC_t, isC_c, Bool.or_true, bin_eql, Int.reduceEq, decide_false, decide_true, bin_neq, bin_geq, h3, wantG_bt, bin_lss, h4, exL_ret, blockC_ret, thenC_ret, finC_ret, resultVs_cons, resultV_t, ownV_d, resultVs_nil, consO_some, leaveC_1, ref_d, settle_d, leave_pure, Bool.and_true, Int.reduceNeg, Bool.true_and, Bool.and_false, put_tup, readV_tup, pickV_f, Bool.false_and]
          all_goals rfl
        · have hs := signed24_call (n := Imm) (H := H)
          by_cases h3 : C = 0
          · subst h3
            simp only [f_risc_right, argEnv_cons, Nat.zero_add, argEnv_nil, exL_seq, exL_ops, runOps_n, evalK_box, rd_t, get_eq, readV_d, spent_t, cells_agg, List.map_cons, List.map_nil, ones_cons, vone_d, one_i, one_b, ones_nil, Bool.and_self, boxN_t, opC_ok, put_box, killLp_cons, killV_d, killLp_nil, evalK_mov, rd_c, spent_c, put_d, runOps_nil, thenC_nrm, evalK_fieldAddr, Nat.reduceEqDiff, get_ne, readV_box, faV_lp, okS_some, put_lp, evalK_load, readV_lp, loadV_lp, boxV_1, List.getElem?_cons_succ, List.getElem?_cons_zero, Option.map_some, copy1_d, evalK_call, allLeave_cons, leaves_d, allLeave_nil, eCall_f, hA, callC_some, spentAll_cons, spentAll_nil, Nat.min_self, evalK_un, un_not, Bool.not_true, runOps_g, wantG_bf, Bool.not_false, wantC_b, ↓reduceIte, hB, evalK_pick, pickV_b, Bool.false_eq_true, exL_cond, condC_b, exL_skip, Nat.add_zero, exL_block, evalK_bin, isC_t, isC_c, Bool.or_true, bin_eql, Int.reduceEq, decide_false, decide_true, bin_neq, wantG_bt, hs, Int.reduceNeg, exL_ret, thenC_ret, blockC_ret, finC_ret, resultVs_cons, resultV_t, ownV_d, resultVs_nil, consO_some, leaveC_1, ref_d, settle_d, leave_pure, Bool.true_and]
            all_goals rfl
          · simp only [f_risc_right, argEnv_cons, Nat.zero_add, argEnv_nil, exL_seq, exL_ops, runOps_n, evalK_box, rd_t, get_eq, readV_d, spent_t, cells_agg, List.map_cons, List.map_nil, ones_cons, vone_d, one_i, one_b, ones_nil, Bool.and_self, boxN_t, opC_ok, put_box, killLp_cons, killV_d, killLp_nil, evalK_mov, rd_c, spent_c, put_d, runOps_nil, thenC_nrm, evalK_fieldAddr, Nat.reduceEqDiff, get_ne, readV_box, faV_lp, okS_some, put_lp, evalK_load, readV_lp, loadV_lp, boxV_1, List.getElem?_cons_succ, List.getElem?_cons_zero, Option.map_some, copy1_d, evalK_call, allLeave_cons, leaves_d, allLeave_nil, eCall_f, hA, callC_some, spentAll_cons, spentAll_nil, Nat.min_self, evalK_un, un_not, Bool.not_true, runOps_g, wantG_bf, Bool.not_false, wantC_b, ↓reduceIte, hB, evalK_pick, pickV_b, Bool.false_eq_true, hC, exL_cond, condC_b, exL_skip, Nat.add_zero, exL_block, evalK_bin, isC_t, isC_c, Bool.or_true, bin_eql, Int.reduceEq, decide_false, decide_true, bin_neq, h3, wantG_bt, put_tup, readV_tup, pickV_f, exL_ret, thenC_ret, blockC_ret, finC_ret, resultVs_cons, resultV_t, ownV_d, resultVs_nil, consO_some, leaveC_1, ref_d, settle_d, leave_pure, Bool.false_and, Bool.and_true, Int.reduceNeg, Bool.true_and]
            all_goals rfl
      · simp only [f_risc_right, argEnv_cons, Nat.zero_add, argEnv_nil, exL_seq, exL_ops, runOps_n, evalK_box, rd_t, get_eq, readV_d, spent_t, cells_agg, List.map_cons, List.map_nil, ones_cons, vone_d, one_i, one_b, ones_nil, Bool.and_self, boxN_t, opC_ok, put_box, killLp_cons, killV_d, killLp_nil, evalK_mov, rd_c, spent_c, put_d, runOps_nil, thenC_nrm, evalK_fieldAddr, Nat.reduceEqDiff, get_ne, readV_box, faV_lp, okS_some, put_lp, evalK_load, readV_lp, loadV_lp, boxV_1, List.getElem?_cons_succ, List.getElem?_cons_zero, Option.map_some, copy1_d, evalK_call, allLeave_cons, leaves_d, allLeave_nil, eCall_f, hA, callC_some, spentAll_cons, spentAll_nil, Nat.min_self, evalK_un, un_not, Bool.not_true, runOps_g, wantG_bf, Bool.not_false, wantC_b, ↓reduceIte, hB, evalK_pick, pickV_b, Bool.false_eq_true, hC, hO, exL_cond, condC_b, exL_skip, Nat.add_zero, exL_block, evalK_bin, isC_t, isC_c, Bool.or_true, bin_eql, Int.reduceEq, decide_false, decide_true, bin_neq, h2, exL_ret, thenC_ret, blockC_ret, finC_ret, resultVs_cons, resultV_t, ownV_d, resultVs_nil, consO_some, leaveC_1, ref_d, settle_d, leave_pure, Bool.and_false, Int.reduceNeg, Bool.false_and, Bool.true_and]
        all_goals rfl
    · simp only [f_risc_right, argEnv_cons, Nat.zero_add, argEnv_nil, exL_seq, exL_ops, runOps_n, evalK_box, rd_t, get_eq, readV_d, spent_t, cells_agg, List.map_cons, List.map_nil, ones_cons, vone_d, one_i, one_b, ones_nil, Bool.and_self, boxN_t, opC_ok, put_box, killLp_cons, killV_d, killLp_nil, evalK_mov, rd_c, spent_c, put_d, runOps_nil, thenC_nrm, evalK_fieldAddr, Nat.reduceEqDiff, get_ne, readV_box, faV_lp, okS_some, put_lp, evalK_load, readV_lp, loadV_lp, boxV_1, List.getElem?_cons_succ, List.getElem?_cons_zero, Option.map_some, copy1_d, evalK_call, allLeave_cons, leaves_d, allLeave_nil, eCall_f, hA, callC_some, spentAll_cons, spentAll_nil, Nat.min_self, evalK_un, un_not, Bool.not_true, runOps_g, wantG_bf, Bool.not_false, wantC_b, ↓reduceIte, hB, evalK_pick, pickV_b, Bool.false_eq_true, hC, hO, exL_cond, condC_b, exL_skip, Nat.add_zero, exL_block, evalK_bin, isC_t, isC_c, Bool.or_true, bin_eql, Int.reduceEq, decide_false, decide_true, bin_neq, h1, put_tup, readV_tup, pickV_t, exL_ret, thenC_ret, blockC_ret, finC_ret, resultVs_cons, resultV_t, ownV_d, resultVs_nil, consO_some, leaveC_1, ref_d, settle_d, leave_pure, Int.reduceNeg, Bool.false_and, Bool.true_and]
      all_goals rfl
  · simp only [f_risc_right, argEnv_cons, Nat.zero_add, argEnv_nil, exL_seq, exL_ops, runOps_n, evalK_box, rd_t, get_eq, readV_d, spent_t, cells_agg, List.map_cons, List.map_nil, ones_cons, vone_d, one_i, one_b, ones_nil, Bool.and_self, boxN_t, opC_ok, put_box, killLp_cons, killV_d, killLp_nil, evalK_mov, rd_c, spent_c, put_d, runOps_nil, thenC_nrm, evalK_fieldAddr, Nat.reduceEqDiff, get_ne, readV_box, faV_lp, okS_some, put_lp, evalK_load, readV_lp, loadV_lp, boxV_1, List.getElem?_cons_succ, List.getElem?_cons_zero, Option.map_some, copy1_d, evalK_call, allLeave_cons, leaves_d, allLeave_nil, eCall_f, hA, callC_some, spentAll_cons, spentAll_nil, Nat.min_self, evalK_un, un_not, Bool.not_true, runOps_g, wantG_bf, Bool.not_false, wantC_b, ↓reduceIte, hB, evalK_pick, pickV_b, Bool.false_eq_true, hC, hO, exL_cond, condC_b, exL_skip, Nat.add_zero, exL_block, evalK_bin, isC_t, isC_c, Bool.or_true, bin_eql, f0, decide_false, f1, f2, f3, blockC_nrm, restrict_nil, exL_ret, finC_ret, resultVs_cons, resultV_t, ownV_d, resultVs_nil, consO_some, leaveC_1, ref_d, settle_d, leave_pure, Int.reduceNeg, Bool.true_and]
    all_goals rfl
end W

