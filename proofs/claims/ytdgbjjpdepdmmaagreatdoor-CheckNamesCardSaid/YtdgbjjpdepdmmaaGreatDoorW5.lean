/-
  CheckNames: names that are declared twice, or may not be, are refused, wherever they are; both checkers, of any five names: part 5 of what the proof rests on (a value semantics for a part of the language, sound against the model; the walks).
-/
import Derived.Below
import Derived.Test.YtdgbjjpdepdmmaaGreatDoorW4
/-
  A function's body, as its caller sees it.
-/
set_option linter.unusedSimpArgs false
set_option linter.unusedVariables false
open Bool renaming false_eq_true → qEl, and_eq_true → qEn, cond_eq_ite → qEt, and_self → qEv, or_true → qEy, or_self → qED, not_true → qEG, not_false → qEJ
open List renaming getElem?_cons_zero → qEm, getElem?_cons_succ → qEq, map_cons → qEs, length_cons → qEx, length_nil → qEz, map_nil → qEA, set_cons_zero → qEC, set_cons_succ → qEF, take_succ_cons → qEH, drop_zero → qEK
open Nat renaming le_refl → qEo, beq → qEr, zero_add → qEu, eq_of_beq_eq_true → qEE, add_zero → qEL
open Option renaming map_some → qEp, bind_eq_some_iff → qEw, bind_eq_bind → qEB, pure_def → qEI
namespace W
open Go (World Value Addr IntKind Program TypeId FuncId Operand Act Oper Next Result Sem BinOp UnOp Ending Exit Code Func Calls Fence)
section
variable {P : Program} {M : Maps} {g : Gh} {w : World} {β : Nat → Nat} {st : St} {a : Act}
theorem qoL : ∀ (vs : List V) (j k : Nat), get k (jl j vs) = if j ≤ k then (vs[k - j]?).getD .undef else .undef
  | [], j, k => by simp [jl, get]
  | v :: l, j, k => by
    simp only [jl, jh, qoL l (j + 1) k]
    by_cases h : k = j
    · subst h; simp
    · by_cases h2 : j + 1 ≤ k
      · have e : k - j = (k - (j + 1)) + 1 := by omega
        simp [h, h2, show j ≤ k by omega, e]
      · simp [h, h2, show ¬ j ≤ k by omega]
theorem ArgsRep.get : ∀ {vs : List V} {cs : List Value} {j : Nat}, ArgsRep M g w j vs cs → ∀ i v, vs[i]? = some v → ∃ c, cs[i]? = some c ∧ RepA M g w (j + i) v c
  | _, _, _, .nil _, i, v, h => by simp at h
  | _, _, j, .cons h hl, 0, v, hv => by simp at hv; subst hv; exact ⟨_, rfl, h⟩
  | _, _, j, .cons h hl, i + 1, v, hv => by
    obtain ⟨c, h1, h2⟩ := hl.get i v (by simpa using hv)
    exact ⟨c, by simpa using h1, by rwa [show j + 1 + i = j + (i + 1) by omega] at h2⟩
theorem ArgsRep.length : ∀ {vs : List V} {cs : List Value} {j : Nat}, ArgsRep M g w j vs cs → vs.length = cs.length
  | _, _, _, .nil _ => rfl
  | _, _, _, .cons h hl => by simp [hl.length]
theorem qmg {H : List Obj} {vs : List V} {cs : List Value} (ha : ArgsRep M g w 0 vs cs) (hH : RelH M g w H) (n lo : Nat) :
    Rel M g w β { env := jl 0 vs, H := H, lo := lo } (cs.toArray ++ Array.replicate n Go.undef) := by
  refine ⟨hH.n, fun k => ?_, hH.h, hH.fresh, hH.gl⟩
  show RepT M g w β k (get k (jl 0 vs)) _
  rw [qoL]
  simp only [Nat.zero_le, if_true, Nat.sub_zero]
  cases hv : vs[k]? with
  | none => exact .s (.undef _)
  | some v =>
    obtain ⟨c, h1, h2⟩ := ha.get k v hv
    have hlt : k < cs.length := (List.getElem?_eq_some_iff.1 h1).1
    have e : (cs.toArray ++ Array.replicate n Go.undef).getD k Go.undef = c := by
      rw [Array.getD_eq_getD_getElem?, Array.getElem?_append_left (by simpa using hlt)]
      simp [h1]
    rw [e]
    simp only [Option.getD_some, qEu] at h2 ⊢
    cases h2 with
    | s h => exact .s h
    | osl h => exact .osl h
def qrz (tmps : Array Value) : Go.ResultVar → Sem Value
  | .tmp t => pure (tmps.getD t Go.undef)
  | .cell b t => do Go.loadVar t (← Go.asAddr (tmps.getD b Go.undef))
theorem qp5 (fn : Func) (tmps : Array Value) : Go.results fn tmps = (do
    let vs ← fn.results.mapM (qrz tmps)
    pure (if h : vs.size = 1 then vs[0] else .tuple vs)) := by
  rfl
theorem qkZ (hR : Rel M g w β st a.tmps) {rv : Go.ResultVar} {r : Rv} (ht : qxL P rv = some r) {own : Bool} {v : V} (hv : qeX own st r = some v) (hl : v.leaves = true) :
    ∃ c, (qrz a.tmps rv).run P w = .ok c w ∧
      (RepS M g w v c ∨ ∃ n xs, v = .osl xs ∧ OwnSl g w (.slot n) xs c) := by
  cases rv with
  | tmp t =>
    simp only [qxL, Option.some.injEq] at ht
    subst ht
    refine ⟨a.tmps.getD t Go.undef, rfl, ?_⟩
    simp only [qeX] at hv
    have he := hR.e t
    generalize get t st.env = x at he hv
    generalize a.tmps.getD t Go.undef = c at he
    cases he with
    | s h =>
      have hx : v = x ∨ v = copy x := by
        cases h <;> simp only [Option.some.injEq] at hv <;> cases own <;> simp only [cond_true, cond_false] at hv <;> first | exact .inl hv.symm | exact .inr hv.symm
      rcases hx with rfl | rfl
      · exact .inl h
      · exact .inl (qi4 h)
    | osl h =>
      simp only [Option.some.injEq] at hv
      cases own with
      | true => simp only [cond_true] at hv; subst hv; exact .inr ⟨t, _, rfl, h⟩
      | false => simp only [cond_false, copy] at hv; subst hv; exact .inl (.d _ _ h.rep)
    | lp s off =>
      simp only [Option.some.injEq] at hv
      cases own <;> simp only [cond_true, cond_false, copy] at hv <;> subst hv <;> simp [V.leaves, V.ok] at hl
    | cp x b off vs hr hc hp =>
      simp only [Option.some.injEq] at hv
      cases own <;> simp only [cond_true, cond_false, copy] at hv <;> subst hv <;> simp [V.leaves, V.ok] at hl
    | box cs arr T hb ho hp hl' hr => cases hv
  | cell b t =>
    simp only [qxL, Option.map_eq_some_iff] at ht
    obtain ⟨l, hlay, rfl⟩ := ht
    simp only [qeX] at hv
    have he := hR.e b
    split at hv
    · rename_i cs hbox
      rw [hbox] at he
      generalize htm : a.tmps.getD b Go.undef = c at he
      cases he with
      | s h => cases h
      | box _ arr T hb ho hp hl' hr =>
        obtain ⟨c, h1, h2⟩ := qlC (P := P) hlay hb (Nat.le_of_eq hl') hr hv
        refine ⟨c, ?_, .inl h2⟩
        simp only [qrz, htm, Go.asAddr, Sem.run_bind, Sem.run_pure, Result.andThen_ok, h1]
    · rename_i id off hptr
      rw [hptr] at he
      generalize htm : a.tmps.getD b Go.undef = c at he
      have hld : yQ l st (.ptr id off) = some v := hv
      cases he with
      | s h =>
        obtain ⟨c', h1, h2⟩ := qk5 (P := P) (a := a) hlay hR (.s h) hld
        refine ⟨c', ?_, .inl h2⟩
        simp only [qrz, htm, Sem.run_bind]
        cases h with
        | ptr _ _ hid =>
          simp only [Go.asAddr, Sem.run_pure, Result.andThen_ok]
          simp only [Go.Instr.loadAt] at h1
          exact h1
    · cases hv
theorem qkG : ∀ {vs : List V}, V.ok.oks vs = true → ∀ v ∈ vs, v.ok = true
  | [], _, v, h => by simp at h
  | x :: l, h, v, hv => by
    simp only [V.ok.oks, qEn] at h
    rcases List.mem_cons.1 hv with e | hv
    · subst e; exact h.1
    · exact qkG h.2 v hv
theorem qmL {v : V} (h : v.ok = true) : v.leaves = true := by cases v <;> first | exact h | rfl
theorem qgZ (hR : Rel M g w β st a.tmps) {own : Bool} : ∀ {rvs : List Go.ResultVar} {rs : List Rv} {vs : List V}, qgC P rvs = some rs → yD own st rs = some vs → (∀ v ∈ vs, v.ok = true) →
    ∃ cs, (rvs.mapM (qrz a.tmps)).run P w = .ok cs w ∧ RepSL M g w vs cs
  | [], rs, vs, ht, hv, _ => by
    simp only [qgC, Option.some.injEq] at ht
    subst ht
    simp only [yD, Option.some.injEq] at hv
    subst hv
    exact ⟨[], by simp, .nil⟩
  | rv :: rvs, rs, vs, ht, hv, hok => by
    simp only [qgC] at ht
    split at ht
    · rename_i r l hr hl
      simp only [Option.some.injEq] at ht
      subst ht
      simp only [yD] at hv
      split at hv
      · rename_i v hv1
        split at hv
        · rename_i vs' hv2
          simp only [Option.some.injEq] at hv
          subst hv
          have hvok := hok v (by simp)
          obtain ⟨c, h1, h2⟩ := qkZ (P := P) hR hr hv1 (qmL hvok)
          obtain ⟨cs, h3, h4⟩ := qgZ hR hl hv2 (fun v hv => hok v (by simp [hv]))
          have h2' : RepS M g w v c := by
            rcases h2 with h | ⟨n, xs, rfl, _⟩
            · exact h
            · cases hvok
          refine ⟨c :: cs, ?_, .cons _ _ _ _ h2' h4⟩
          rw [List.mapM_cons]
          simp only [Sem.run_bind, h1, Result.andThen_ok, h3, Sem.run_pure]
        · cases hv
      · cases hv
    · cases ht
theorem qoy {H : List Obj} (h : RelH M g w H) {b n : Nat} (hb : g.own b = some (.slot n)) (hlt : b < w.heap.size) (ℓ : Option Loc) : RelH M (g.setOwn b ℓ) w H :=
  ⟨h.n, fun id o ho => (h.h id o ho).mono (qdn g w b ℓ) (qEo _) (fun _ _ => rfl) (by rw [h.n]; exact (List.getElem?_eq_some_iff.1 ho).1) (qaC ℓ hb (by simp)) (fun i => qaC ℓ hb (by simp)), fun x hx => by
    have : x ≠ b := by omega
    simpa [Gh.setOwn, this] using h.fresh x hx, h.gl.mono (qdn g w b ℓ)⟩
theorem qnX {fn : Func} {rs : List Rv} (htr : qgC P fn.results.toList = some rs) (hR : Rel M g w β st a.tmps) {own : Bool} {vs : List V} (hv : yD own st rs = some vs) (hl : (qh2 vs).leaves = true) :
    ∃ c g', (Go.results fn a.tmps).run P w = .ok c w ∧ RelH M g' w st.H ∧ Evo g w g' w ∧ RepA M g' w 0 (qh2 vs) c := by
  have hm : ∀ cs, (fn.results.toList.mapM (qrz a.tmps)).run P w = .ok cs w →
      (Go.results fn a.tmps).run P w = .ok (match cs with | [c] => c | cs => .tuple cs.toArray) w := by
    intro cs h
    rw [qp5, Array.mapM_eq_mapM_toList]
    simp only [Sem.run_bind, map_eq_pure_bind, h, Result.andThen_ok, Sem.run_pure]
    rcases cs with _ | ⟨c, _ | ⟨c2, cs⟩⟩ <;> simp
  by_cases h1 : ∃ v, vs = [v]
  · obtain ⟨v, rfl⟩ := h1
    simp only [qh2] at hl ⊢
    -- one
    cases hrs : fn.results.toList with
    | nil =>
      rw [hrs] at htr
      simp only [qgC, Option.some.injEq] at htr
      subst htr
      simp [yD] at hv
    | cons rv l =>
      rw [hrs] at htr
      simp only [qgC] at htr
      split at htr
      · rename_i r rl hr hrl
        simp only [Option.some.injEq] at htr
        subst htr
        simp only [yD] at hv
        split at hv
        · rename_i v1 hv1
          split at hv
          · rename_i vs' hv2
            simp only [Option.some.injEq, List.cons.injEq] at hv
            obtain ⟨rfl, rfl⟩ := hv
            obtain ⟨c, k1, k2⟩ := qkZ (P := P) hR hr hv1 hl
            obtain ⟨cs, k3, k4⟩ := qgZ hR hrl hv2 (by simp)
            cases k4
            have hrun := hm [c] (by rw [hrs, List.mapM_cons]; simp only [Sem.run_bind, k1, Result.andThen_ok, k3, Sem.run_pure])
            rcases k2 with k2 | ⟨n, xs, rfl, k2⟩
            · exact ⟨c, g, hrun, hR.toH, Evo.refl g w, .s k2⟩
            · rcases k2.setOwn with ⟨b, hb, hlt, hv'⟩ | hv'
              case inr => exact ⟨c, g, hrun, hR.toH, Evo.refl g w, .osl (hv' _)⟩
              exact ⟨c, g.setOwn b (some (.slot 0)), hrun, qoy hR.toH hb hlt _, qfd _ hb (by simp), .osl (hv' _)⟩
          · cases hv
        · cases hv
      · cases htr
  · have e : qh2 vs = .tup vs := by
      rcases vs with _ | ⟨v, _ | ⟨v2, vs⟩⟩
      · rfl
      · exact absurd ⟨v, rfl⟩ h1
      · rfl
    rw [e] at hl ⊢
    have hok : V.ok.oks vs = true := by simpa [V.leaves, V.ok] using hl
    obtain ⟨cs, k1, k2⟩ := qgZ hR htr hv (qkG hok)
    have hlen := k2.length
    refine ⟨.tuple cs.toArray, g, ?_, hR.toH, Evo.refl g w, .s (.tup _ _ (by simpa using k2))⟩
    rw [hm cs k1]
    rcases cs with _ | ⟨c, _ | ⟨c2, cs⟩⟩
    · rfl
    · exfalso
      apply h1
      match vs, hlen with
      | [v], _ => exact ⟨v, rfl⟩
    · rfl
end
def qCQ (P : Program) (M : Maps) (pg : Pg) : Prop :=
  ∀ f' i, look M.fm f' = some i → ∀ fn', pg.fn i = some fn' → ∃ fn A own, P.funcs[f']? = some fn ∧ (fn.name == "runtime.NumGoroutine") = false ∧ kr M P A own fn = some fn'
def FOk (P : Program) (M : Maps) (n : Nat) (fn' : Fn) : Prop := ∃ fn A own, P.funcs[n]? = some fn ∧ (fn.name == "runtime.NumGoroutine") = false ∧ kr M P A own fn = some fn'
theorem qR {P : Program} {M : Maps} {n k : Nat} {x fn' : Fn} {rest : Option Fn} (hx : FOk P M k x) (hr : rest = some fn' → FOk P M n fn') (h : (bif qEr n k then some x else rest) = some fn') : FOk P M n fn' := by
  cases hb : qEr n k with
  | false => rw [hb] at h; exact hr h
  | true =>
    rw [hb] at h
    obtain rfl := qEE hb
    cases h
    exact hx
theorem qAI {P : Program} {M : Maps} {n : Nat} {fn' : Fn} (h : (none : Option Fn) = some fn') : FOk P M n fn' := by cases h
def Tab (P : Program) (M : Maps) (pg : Pg) : Prop := qCQ P M pg ∧ qpC P M
theorem qnO {P : Program} {M : Maps} {A : Ann} {own : Bool} {fn : Func} {fn' : Fn} (h : kr M P A own fn = some fn') :
    ∃ c x d hh rs, fn.body = some c ∧ qbL fn.ntmps c = true ∧ qnf M P A c = some (x, d, hh) ∧ qgC P fn.results.toList = some rs ∧ fn' = ⟨fn.params.size + fn.nfree, rs, own, x, d, hh⟩ := by
  unfold kr at h
  split at h
  · rename_i c hbody
    split at h
    · cases h
    · rename_i hdst
      split at h
      · rename_i x d hh rs hb hrs
        simp only [Option.some.injEq] at h
        exact ⟨c, x, d, hh, rs, hbody, by simpa using hdst, hb, hrs, h.symm⟩
      · cases h
  · cases h
theorem MarksOk.put {g : Gh} {w0 w : World} {ms : List Go.Deferred} (h : MarksOk g w0 w ms) {r : Nat} {o : Go.Obj} (hr : ∀ d ∈ ms, d.target ≠ .collected r) : MarksOk g w0 (w.putObj r o) ms := by
  induction h with
  | nil => exact .nil
  | cons r' ht hlo hb ho hf hl ih =>
    rename_i d ms
    have hne : r' ≠ r := fun e => hr d (by simp) (by rw [ht, e])
    exact .cons r' ht hlo ((Go.World.putObj_heap_other hne).trans hb) ho hf (ih (fun d' hd' => hr d' (by simp [hd'])))
theorem qeR {P : Program} {F : Fence} {n : Nat} {fn : Func} {tmps : Array Value} {R : Ending → World → Prop} {u : Go.FrameMode} {rest : List Go.Deferred} (hu : u ≠ .run) {g : Gh} {w0 : World} (J : World → Prop)
    (hJ : ∀ w r, J w → w.heap[r]? = some (.deferred (some [])) → g.own r = none → w0.heap.size ≤ r → J (w.putObj r (.deferred none))) (hrest : ∀ w, J w → Go.LeavesInM F n P fn tmps R rest u w) :
    ∀ (ms : List Go.Deferred) (w : World), MarksOk g w0 w ms → J w → Go.LeavesInM F n P fn tmps R (ms ++ rest) u w
  | [], w, _, h => hrest w h
  | d :: ms, w, .cons r ht hlo hb ho hf hl, h => by
    refine ⟨hu, .inl ⟨r, w.putObj r (.deferred none), ht, Go.run_takeDeferred hb, ?_⟩⟩
    exact qeR hu J hJ hrest ms _ (hl.put hf) (hJ w r h hb ho hlo)
section
variable {P : Program} {M : Maps} {g : Gh} {w : World}
theorem qiJ {fn : Func} {fn' : Fn} (hrs : qgC P fn.results.toList = some fn'.res) {H : List Obj} (hH : RelH M g w H) {st2 : St} (hlo : ∀ id, id < st2.lo → id < H.length → st2.H[id]? = H[id]?) {r : Cr} (hend : y4 fn' H st2 = some r)
    {g2 : Gh} {w2 : World} {β2 : Nat → Nat} {a : Act} (hR : Rel M g2 w2 β2 st2 a.tmps) (hE : Evo g w g2 w2) {ms : List Go.Deferred} (hm : MarksOk g2 w w2 ms) : Go.LeavesInM Fence.wide 0 P fn a.tmps (zW M g w r) ms .returning w2 := by
  have := qeR (P := P) (F := Fence.wide) (n := 0) (fn := fn) (tmps := a.tmps) (R := zW M g w r) (u := .returning) (rest := []) (by simp) (g := g2) (w0 := w) (fun wx => Rel M g2 wx β2 st2 a.tmps ∧ Evo g w g2 wx)
    (fun wx r' h hb ho hl => ⟨qkb h.1 hb rfl rfl ho, qkg h.2 hl hb rfl rfl⟩) (fun wx h => ?_) ms w2 hm ⟨hR, hE⟩
  · rwa [List.append_nil] at this
  · obtain ⟨hRx, hEx⟩ := h
    obtain ⟨vs, hvs, hl⟩ := qjJ hend
    have hlv : (qh2 vs).leaves = true := by
      unfold leave at hl
      cases hq : (qh2 vs).leaves with
      | true => rfl
      | false => simp [hq] at hl
    obtain ⟨v, g3, k1, k2, k3, k4⟩ := qnX hrs hRx hvs hlv
    obtain ⟨h1, h2⟩ := qkW hH k2 (hEx.trans k3) hlo k4 hl
    exact ⟨v, k1, h1, h2⟩
theorem qm1 {fn : Func} {H : List Obj} (hH : RelH M g w H) {st2 : St} (hlo : ∀ id, id < st2.lo → id < H.length → st2.H[id]? = H[id]?) {v : V} {r : Cr} (hend : leave H true v st2 = some r) {cv : Value}
    {g2 : Gh} {w2 : World} {β2 : Nat → Nat} {a : Act} (hR : Rel M g2 w2 β2 st2 a.tmps) (hE : Evo g w g2 w2) (hv : RepA M g2 w2 0 v cv) {ms : List Go.Deferred} (hm : MarksOk g2 w w2 ms) :
    Go.LeavesInM Fence.wide 0 P fn a.tmps (zW M g w r) ms (.panicking [{ v := cv, recovered := false }]) w2 := by
  have := qeR (P := P) (F := Fence.wide) (n := 0) (fn := fn) (tmps := a.tmps) (R := zW M g w r) (u := .panicking [{ v := cv, recovered := false }]) (rest := []) (by simp) (g := g2) (w0 := w) (fun wx => Rel M g2 wx β2 st2 a.tmps ∧ Evo g w g2 wx ∧ RepA M g2 wx 0 v cv)
    (fun wx r' h hb ho hl => ⟨qkb h.1 hb rfl rfl ho, qkg h.2.1 hl hb rfl rfl, ?_⟩) (fun wx h => ?_) ms w2 hm ⟨hR, hE, hv⟩
  · rwa [List.append_nil] at this
  · cases h.2.2 with
    | s hs => exact .s (hs.mono (qcX hb rfl rfl) (qEo _) (fun _ _ => rfl) hs.ref)
    | osl hs => exact .osl (hs.mono (qcX hb rfl rfl) (qf0 ho _))
  · obtain ⟨hRx, hEx, hvx⟩ := h
    obtain ⟨h1, g3, h2, h3, h4⟩ := qkW hH hRx.toH hEx hlo hvx hend
    exact ⟨h1, g3, cv, rfl, h2, h3, h4⟩
theorem qmD {pg : Pg} (hT : Tab P M pg) {ex : C → St → Option (Ex × St)} (hlo : ∀ c st e st', ex c st = some (e, st') → LoOk st st') (he : qfE P M ex) (hs : qje ex)
    {fn : Func} {fn' : Fn} (hrs : qgC P fn.results.toList = some fn'.res) {H : List Obj} (hH : RelH M g w H) {h : Nat} {vs : List V} {v : V} {st' : St} (hlo' : ∀ id, id < st'.lo → id < H.length → st'.H[id]? = H[id]?) {r : Cr} (hh : handle pg ex fn' H h vs v st' = some r)
    {h' : FuncId} (hlook : look M.fm h' = some h) {fv cv : Array Value} {g2 : Gh} {w2 : World} {β2 : Nat → Nat} {a : Act} (hR : Rel M g2 w2 β2 st' a.tmps) (hE : Evo g w g2 w2) (hvs : RepSL M g2 w2 vs (fv ++ cv).toList) {ms : List Go.Deferred} (hm : MarksOk g2 w w2 ms)
    {u : Go.FrameMode} {pv : Value} (hv : RepS M g2 w2 v pv) (hu : (u = .returning ∧ pv = .nilIface) ∨ u = .panicking [{ v := pv, recovered := false }]) :
    Go.LeavesInM Fence.wide 0 P fn a.tmps (zW M g w r) ({ target := .fn (.func h') cv, args := fv } :: ms) u w2 := by
  obtain ⟨hf, d, st2, k1, k2, k3, k4, k5, k6⟩ := qgf hh
  obtain ⟨fnh, A, own, q1, q2, q3⟩ := hT.1 h' h hlook hf k1
  obtain ⟨c, x, dd, hh', rs, c1, c2, c3, c4, c5⟩ := qnO q3
  subst c5
  simp only at k2 k3 k4 k5
  subst k2
  subst k4
  have hres : fnh.results = #[] := by
    apply Array.ext'
    cases hq : fnh.results.toList with
    | nil => rfl
    | cons y l =>
      rw [hq] at c4
      simp only [qgC] at c4
      split at c4 <;> simp at c4
  have htr : trH M P A c = some (d, x) ∧ kH c = true := by
    unfold qnf at c3
    split at c3
    · split at c3
      · rename_i hnd
        split at c3
        · rename_i d' x' ht
          simp only [Option.some.injEq, Prod.mk.injEq] at c3
          obtain ⟨rfl, rfl, rfl⟩ := c3
          exact ⟨ht, hnd⟩
        · cases c3
      · cases c3
    · split at c3
      · split at c3 <;> simp at c3
      · split at c3 <;> simp at c3
  have hun : u ≠ .run := by rcases hu with ⟨rfl, _⟩ | rfl <;> simp
  have hinv : ∀ wx, (Go.invoke (.fn (.func h') cv) fv).run P wx = .ok (.enter h' (fv ++ cv)) wx := fun wx => by
    have hn : ¬ fnh.name = "runtime.NumGoroutine" := by simpa using q2
    simp [Go.invoke, Go.callFunc, q1, hn, c1]
  refine ⟨hun, .inr ⟨fun hd => WF.wide.depth hd, .func h', cv, h', fv ++ cv, rfl, hinv w2, fun _ _ => trivial, ?_⟩⟩
  refine Go.callsDIn_of_wpSIn q1 c1 trivial (fun c₀ cs hmode => ?_)
  have hargs : ArgsRep M (js (qbt 0 []) g2) w2 0 vs (fv ++ cv).toList := qgu 0 hvs
  have hrel := qmg (β := fun _ => 0) hargs (qk2 (hand := qbt 0 []) hR.toH) (fnh.ntmps - (fv ++ cv).size) st'.lo
  have hrel' : Rel M (js (qbt 0 []) g2) w2 (fun _ => 0) { env := jl 0 vs, H := st'.H, lo := st'.lo } ((fv ++ cv) ++ Array.replicate (fnh.ntmps - (fv ++ cv).size) Go.undef) := by
    have e : (fv ++ cv).toList.toArray = fv ++ cv := by simp
    rw [e] at hrel
    exact hrel
  have hsz : fnh.ntmps ≤ ((fv ++ cv) ++ Array.replicate (fnh.ntmps - (fv ++ cv).size) Go.undef).size := by simp only [Array.size_append, Array.size_replicate]; omega
  let u' : Go.FrameMode := match u with | .panicking [{ v, .. }] => .panicking [{ v, recovered := true }] | u => u
  have hset : Go.settle u' = .returning := by rcases hu with ⟨rfl, _⟩ | rfl <;> rfl
  have hrec : Go.recoverD (c₀ :: cs) = some (pv, { c₀ with mode := u' } :: cs) ∨ (Go.recoverD (c₀ :: cs) = none ∧ pv = .nilIface ∧ { c₀ with mode := u' } :: cs = c₀ :: cs) := by
    rcases hu with ⟨rfl, hp⟩ | rfl
    · refine .inr ⟨by simp [Go.recoverD, hmode], hp, ?_⟩
      show { c₀ with mode := Go.FrameMode.returning } :: cs = c₀ :: cs
      rw [← hmode]
    · exact .inl (by simp [Go.recoverD, hmode, u'])
  have main : ∀ (e3 : Ex), (e3 = .nrm ∨ e3 = .ret) → ex x ⟨(d, v) :: jl 0 vs, st'.H, st'.lo⟩ = some (e3, st2) → c.wpSIn Fence.wide 0 P (Go.bodyPostS P fnh c₀ cs fun
          | .returned _, u', w' => Go.LeavesInM Fence.wide 0 P fn a.tmps (zW M g w r) ms (Go.settle u') w'
          | .panicked chain, u', w' => Go.LeavesInM Fence.wide 0 P fn a.tmps (zW M g w r) ms (Go.raised u' chain) w'
          | .outgrown, _, w' => zW M g w r .outgrown w') { tmps := (fv ++ cv) ++ Array.replicate (fnh.ntmps - (fv ++ cv).size) Go.undef, defers := [] } (c₀ :: cs) w2 := by
    intro e3 hen hrun
    refine qmQ he hs htr.1 (st := ⟨jl 0 vs, st'.H, st'.lo⟩) hrun hen c2 hsz hrel' (qiw hv) hrec (fun z a3 w3 hp => ?_)
    have key : Good (kH c = true) M (js (qbt 0 []) g2) w2 { tmps := (fv ++ cv) ++ Array.replicate (fnh.ntmps - (fv ++ cv).size) Go.undef, defers := [] } st2 a3 w3 →
        a3.defers = [] ∧ ∃ u'', { c₀ with mode := u' } :: cs = { c₀ with mode := u'' } :: cs ∧ ∃ v, (Go.results fnh a3.tmps).run P w3 = .ok v w3 ∧ Go.LeavesInM Fence.wide 0 P fn a.tmps (zW M g w r) ms (Go.settle u'') w3 := by
      intro hg
      obtain ⟨⟨g3, β3, r1, r2, _⟩, _, r5⟩ := hg
      refine ⟨r5 htr.2, u', rfl, .tuple #[], by simp [Go.results, hres], ?_⟩
      rw [hset]
      have hR4 := hR.restRel (os := []) (j := 0) r2 r1.toH (lo := st2.lo) none
      have hE4 : Evo g2 w2 (qb2 (qbt 0 []) none g2 g3) w3 := qg5 hR.fr r2
      refine qiJ hrs hH (fun id h1 h2 => ?_) k6 hR4 (hE.trans hE4) (hm.mono hE4)
      have hl := hlo _ _ _ _ hrun
      have h1 : id < st2.lo := h1
      have := hl.old id h1 (Nat.lt_of_lt_of_le h2 ?_)
      · exact this.trans (hlo' id (Nat.lt_of_lt_of_le h1 hl.lo) h2)
      · have := hR.n
        have := hE.n
        have := hH.n
        simp only at *
        omega
    rcases hen with rfl | rfl
    · cases z with
      | normal => exact key hp
      | _ => exact hp.elim
    · cases z with
      | ret => exact key hp
      | _ => exact hp.elim
  rcases k5 with k5 | k5
  · exact main .nrm (.inl rfl) k5
  · exact main .ret (.inr rfl) k5
end
theorem qho {P : Program} {M : Maps} {pg : Pg} (hT : Tab P M pg) {ex : C → St → Option (Ex × St)} (hlo : ∀ c st e st', ex c st = some (e, st') → LoOk st st') (he : qfE P M ex) (hs : qje ex)
    {i : Nat} {vs : List V} {H : List Obj} {r : Cr} (hcall : zC pg ex i vs H = some r) {f' : FuncId} (hlook : look M.fm f' = some i) (hext : pg.fn i ≠ none) {g : Gh} {w : World} {argv : List Value} (hargs : ArgsRep M g w 0 vs argv) (hH : RelH M g w H) :
    Calls P f' argv.toArray w (zW M g w r) ∧ (Go.callFunc f' argv.toArray).run P w = .ok (.enter f' argv.toArray) w := by
  unfold zC at hcall
  split at hcall
  · rename_i hn; exact absurd hn hext
  · rename_i fn' hfn'
    obtain ⟨fn, A, own, hf, hname, htr⟩ := hT.1 f' i hlook fn' hfn'
    obtain ⟨c, x, dd, hh, rs, hbody, hdst, hb, hrs, rfl⟩ := qnO htr
    simp only at hcall
    split at hcall
    · rename_i hnp
      obtain ⟨hnp, hhn⟩ := hnp
      subst hhn
      have hrel := qmg (β := fun _ => 0) hargs hH (fn.ntmps - argv.toArray.size) H.length
      have hsize : fn.ntmps ≤ (argv.toArray ++ Array.replicate (fn.ntmps - argv.toArray.size) Go.undef).size := by simp; omega
      have main : c.wpIn Fence.wide 0 P (Go.bodyPostM Fence.wide 0 P fn (zW M g w r)) { tmps := argv.toArray ++ Array.replicate (fn.ntmps - argv.toArray.size) Go.undef, defers := [] } w →
          Calls P f' argv.toArray w (zW M g w r) ∧ (Go.callFunc f' argv.toArray).run P w = .ok (.enter f' argv.toArray) w := by
        intro hwp
        refine ⟨Go.callsIn_wide.1 (Go.callsIn_of_wp_marks (args := argv.toArray) hf hbody trivial hwp), ?_⟩
        have hn : ¬ fn.name = "runtime.NumGoroutine" := by simpa using hname
        simp [Go.callFunc, hf, hn, hbody]
      apply main
      have old : ∀ {st : St} {e : Ex}, ex x { env := jl 0 vs, H, lo := H.length } = some (e, st) → ∀ id, id < st.lo → id < H.length → st.H[id]? = H[id]? := fun h id h1 h2 => (hlo _ _ _ _ h).old id h1 h2
      -- an end ahead of any 'defer', or without one
      have endR : ∀ {e : Ex} {st : St}, ex x { env := jl 0 vs, H, lo := H.length } = some (e, st) → y4 ⟨fn.params.size + fn.nfree, rs, own, x, dd, none⟩ H st = some r → ∀ a' w', Good False M g w { tmps := argv.toArray ++ Array.replicate (fn.ntmps - argv.toArray.size) Go.undef, defers := [] } st a' w' →
          Go.LeavesInM Fence.wide 0 P fn a'.tmps (zW M g w r) a'.defers .returning w' := by
        intro e st hrun hend a' w' hg
        obtain ⟨⟨g1, β1, hR1, hE1, ms, hms, hmk⟩, _, _⟩ := hg
        rw [hms, List.append_nil]
        exact qiJ (fn' := ⟨fn.params.size + fn.nfree, rs, own, x, dd, none⟩) hrs hH (old hrun) hend hR1 hE1 hmk
      have endP : ∀ {v : V} {st : St}, ex x { env := jl 0 vs, H, lo := H.length } = some (.pan v, st) → leave H true v st = some r → ∀ ch a' w', BadEnd False M g w { tmps := argv.toArray ++ Array.replicate (fn.ntmps - argv.toArray.size) Go.undef, defers := [] } v st ch a' w' →
          Go.LeavesInM Fence.wide 0 P fn a'.tmps (zW M g w r) a'.defers (.panicking ch) w' := by
        intro v st hrun hend ch a' w' hg
        obtain ⟨⟨g1, cv, β1, rfl, hR1, hE1, hv, ms, hms, hmk⟩, _, _⟩ := hg
        rw [hms, List.append_nil]
        exact qm1 hH (old hrun) hend hR1 hE1 hv hmk
      unfold qnf at hb
      split at hb
      · split at hb
        · split at hb <;> simp at hb
        · cases hb
      · split at hb
        · -- a deferred closure
          split at hb
          · rename_i pre t post htD
            simp only [Option.some.injEq, Prod.mk.injEq] at hb
            obtain ⟨rfl, rfl, _⟩ := hb
            split at hcall
            · rename_i st hrun
              simp only at hcall
              obtain ⟨h, first, cap, e, st', v, k1, k2, k3, k4, k5⟩ := qeM hcall
              refine qi0 he hs htD hrun hdst hsize hrel (fun hne => absurd rfl hne) (fun _ => ⟨h, first, cap, e, st', k1, k2, k3, fun z a' w' hp => ?_⟩)
              obtain ⟨g1, w1, a1, ds1, h', fv, cv, q1, q2, q3, q4, q5, ⟨ms0, q6, q6'⟩, q7, q8⟩ := hp
              have q6 : ds1 = ms0 := by simpa using q6
              subst q6
              have hlo2 : ∀ id, id < st'.lo → id < H.length → st'.H[id]? = H[id]? := fun id h1 h2 => by
                have l1 := hlo _ _ _ _ hrun
                have l2 := hlo _ _ _ _ k3
                exact (l1.trans l2).old id h1 h2
              -- behind the rest: marks, the closure, marks
              have fin : ∀ {g2 : Gh} {β2 : Nat → Nat} {u : Go.FrameMode} {pv : Value}, Rel M g2 w' β2 st' a'.tmps → Evo g1 w1 g2 w' → DefOk g2 w1 w' a1.defers a'.defers → RepS M g2 w' v pv → ((u = .returning ∧ pv = .nilIface) ∨ u = .panicking [{ v := pv, recovered := false }]) →
                  Go.LeavesInM Fence.wide 0 P fn a'.tmps (zW M g w r) a'.defers u w' := by
                intro g2 β2 u pv hR2 hE2 hD2 hv hu
                obtain ⟨ms, hms, hmk⟩ := hD2
                rw [hms, q7]
                have hun : u ≠ .run := by rcases hu with ⟨rfl, _⟩ | rfl <;> simp
                have hsl : RepSL M g1 w1 (first ++ cap) (fv ++ cv).toList := by
                  rw [Array.toList_append]; exact q2.append q3
                refine qeR hun (g := g2) (w0 := w1) (fun wx => Rel M g2 wx β2 st' a'.tmps ∧ Evo g w g2 wx ∧ RepS M g2 wx v pv ∧ RepSL M g2 wx (first ++ cap) (fv ++ cv).toList ∧ MarksOk g2 w wx ds1)
                  (fun wx r' hx hb' ho' hl' => ⟨qkb hx.1 hb' rfl rfl ho', qkg hx.2.1 (Nat.le_trans q4.size hl') hb' rfl rfl, ?_, ?_, ?_⟩) (fun wx hx => ?_) ms w' hmk ⟨hR2, q4.trans hE2, hv, ?_, q6'.mono hE2⟩
                · exact hx.2.2.1.mono (qcX hb' rfl rfl) (qEo _) (fun _ _ => rfl) hx.2.2.1.ref
                · exact hx.2.2.2.1.mono (qcX hb' rfl rfl) (qEo _) (fun _ _ => rfl) hx.2.2.2.1.ref
                · refine hx.2.2.2.2.put (fun d hd => ?_)
                  obtain ⟨r0, hr0, _, hlt⟩ := q6'.lt d hd
                  rw [hr0]
                  intro e
                  cases e
                  omega
                · exact qmD (fn' := ⟨fn.params.size + fn.nfree, rs, own, pre, some (t, post), none⟩) hT hlo he hs hrs hH hlo2 k4 q1 hx.1 hx.2.1 hx.2.2.2.1 hx.2.2.2.2 hx.2.2.1 hu
                · exact hsl.mono hE2.toGrow hE2.n hE2.φ hsl.ref
              rcases k5 with ⟨hen, rfl⟩ | ⟨rfl, hi⟩
              · have good : Good False M g1 w1 a1 st' a' w' → Go.LeavesInM Fence.wide 0 P fn a'.tmps (zW M g w r) a'.defers .returning w' := fun hg => by
                  obtain ⟨⟨g2, β2, hR2, hE2, hD2⟩, _, _⟩ := hg
                  exact fin hR2 hE2 hD2 (.d _ _ .ni) (.inl ⟨rfl, rfl⟩)
                rcases hen with rfl | rfl
                · cases z with
                  | normal => exact good q8
                  | _ => exact q8.elim
                · cases z with
                  | ret => exact good q8
                  | _ => exact q8.elim
              · cases z with
                | panic ch =>
                  obtain ⟨⟨g2, pv, β2, rfl, hR2, hE2, hv, hD2⟩, _, _⟩ := (q8 : BadEnd False M g1 w1 a1 v st' ch a' w')
                  cases hv with
                  | s hv => exact fin hR2 hE2 hD2 hv (.inr rfl)
                  | osl hv => cases hi
                | _ => exact q8.elim
            · rename_i st hrun
              refine qi0 he hs htD hrun hdst hsize hrel (fun _ z a' w' hp => ?_) (fun h => by cases h)
              cases z with
              | ret => exact endR hrun hcall a' w' hp
              | _ => exact hp.elim
            · rename_i v st hrun
              refine qi0 he hs htD hrun hdst hsize hrel (fun _ z a' w' hp => ?_) (fun h => by cases h)
              cases z with
              | panic ch => exact endP hrun hcall ch a' w' hp
              | _ => exact hp.elim
            · cases hcall
          · cases hb
        · split at hb
          · rename_i x' hc
            simp only [Option.some.injEq, Prod.mk.injEq] at hb
            obtain ⟨rfl, rfl, _⟩ := hb
            split at hcall
            · rename_i st hrun
              refine he A 0 c x' hc _ .nrm st hrun g w _ { tmps := argv.toArray ++ Array.replicate (fn.ntmps - argv.toArray.size) Go.undef, defers := [] } fn.ntmps hdst hsize hrel Fence.wide 0 .wide (.inl rfl) _ (fun z a' w' hp => ?_)
              cases z with
              | normal => exact endR hrun hcall a' w' (Good.weak (fun h => h.elim) hp)
              | _ => exact hp.elim
            · rename_i st hrun
              refine he A 0 c x' hc _ .ret st hrun g w _ { tmps := argv.toArray ++ Array.replicate (fn.ntmps - argv.toArray.size) Go.undef, defers := [] } fn.ntmps hdst hsize hrel Fence.wide 0 .wide (.inl rfl) _ (fun z a' w' hp => ?_)
              cases z with
              | ret => exact endR hrun hcall a' w' (Good.weak (fun h => h.elim) hp)
              | _ => exact hp.elim
            · rename_i v st hrun
              refine he A 0 c x' hc _ (.pan v) st hrun g w _ { tmps := argv.toArray ++ Array.replicate (fn.ntmps - argv.toArray.size) Go.undef, defers := [] } fn.ntmps hdst hsize hrel Fence.wide 0 .wide (.inl rfl) _ (fun z a' w' hp => ?_)
              cases z with
              | panic ch =>
                have hp : BadEnd _ M g w _ v st ch a' w' := hp
                exact endP hrun hcall ch a' w' ⟨hp.r, hp.size, fun h => h.elim⟩
              | _ => exact hp.elim
            · cases hcall
          · cases hb
    · cases hcall
theorem qfH {P : Program} {f' : FuncId} {args : Array Value} {w : World} {M : Maps} {g : Gh} {r : Cr} (h : Calls P f' args w (zW M g w r) ∧ (Go.callFunc f' args).run P w = .ok (.enter f' args) w) : qk0 P f' args w (zW M g w r) := by
  intro o a K Q hK hQ
  rw [h.2, Oper.upon_enter]
  refine h.1.mono (fun en w' hp => ?_)
  cases en with
  | returned v => exact hK v w' hp
  | panicked ch => exact hQ ch w' hp
  | outgrown => exact hp.elim
theorem qf9 {P : Program} {M : Maps} {pg : Pg} (hT : Tab P M pg) (hx : y3 P M pg.ext) {ex : C → St → Option (Ex × St)} (hlo : ∀ c st e st', ex c st = some (e, st') → LoOk st st') (he : qfE P M ex) (hs : qje ex) :
    y3 P M (zC pg ex) := by
  intro i vs H r hcall f' hlook g w argv hargs hH
  cases hn : pg.fn i with
  | none =>
    have : pg.ext i vs H = some r := by
      unfold zC at hcall
      rw [hn] at hcall
      exact hcall
    exact hx i vs H r this f' hlook g w argv hargs hH
  | some fn' => exact qfH (qho hT hlo he hs hcall hlook (by rw [hn]; simp) hargs hH)
end W

/-
  What an operation looks at, and what it changes.
-/
set_option linter.unusedSimpArgs false
set_option linter.unusedVariables false
namespace W
open Go (IntKind BinOp UnOp)
structure Fr (k : OpK) (st st2 : St) (r r2 : Or) : Prop where
  pan : r2.pan = r.pan
  same : r2.same = r.same
  v : r2.v = r.v
  inn : ∀ s, s ∈ k.boxW → get s r2.st.env = get s r.st.env
  out1 : ∀ s, s ∉ k.boxW → get s r.st.env = get s st.env
  out2 : ∀ s, s ∉ k.boxW → get s r2.st.env = get s st2.env
  H1 : k.free = true → r.same = true → r.st.H = st.H ∧ r2.st.H = st2.H
  H2 : st2.H = st.H → r2.st.H = r.st.H
  lp : ∀ n, qbz n r.st.env = qbz n st.env
  lp2 : ∀ n, qbz n r2.st.env = qbz n st2.env
def qDi (k : OpK) (e e2 : Env) : Prop := ∀ s, s ∈ jG k.rds ∨ s ∈ k.boxR → get s e2 = get s e
theorem qg2 {e e2 : Env} {x : O} (h : ∀ s, s ∈ jG [x] → get s e2 = get s e) : rd e2 x = rd e x := by
  cases x with
  | t n => simp only [rd]; rw [h n (by simp [jG])]
  | mv n => simp only [rd]; rw [h n (by simp [jG])]
  | c x => rfl
  | f i => rfl
  | g i x => rfl
theorem qbh (a b : List O) : jG (a ++ b) = jG a ++ jG b := by
  induction a with
  | nil => rfl
  | cons x l ih => cases x <;> simp [jG, ih]
theorem qah (x : O) (l : List O) : jG (x :: l) = jG [x] ++ jG l := qbh [x] l
theorem qfN {e e2 : Env} : ∀ {l : List O}, (∀ s, s ∈ jG l → get s e2 = get s e) → l.map (rd e2) = l.map (rd e)
  | [], _ => rfl
  | x :: l, h => by
    rw [qah] at h
    simp only [qEs]
    rw [qg2 (fun s hs => h s (by simp [hs])), qfN (fun s hs => h s (by simp [hs]))]
theorem qbT {e e2 : Env} {x : Option O} (h : ∀ s, s ∈ jG x.toList → get s e2 = get s e) : z7 e2 x = z7 e x := by
  cases x with
  | none => rfl
  | some x => simp only [z7]; rw [qg2 (x := x) (by simpa using h)]
theorem qio (n : Nat) (x : O) (e : Env) : qbz n (spent x e) = qbz n e := by cases x <;> rfl
theorem qcY (n : Nat) : ∀ (l : List O) (e : Env), qbz n (spentAll l e) = qbz n e
  | [], _ => rfl
  | x :: l, e => by simp only [spentAll]; rw [qcY n l, qio]
theorem qe4 (x : O) (e : Env) (k : Nat) : get k (spent x e) = if k ∈ y7 [x] then .undef else get k e := jT [x] e k
variable {st st2 : St} {r : Or}
theorem qnB {k : OpK} (hst : r.st = st) {r2 : Or} (h2 : r2 = { r with st := st2 }) (hW : ∀ s, s ∈ k.boxW → get s st2.env = get s st.env) : Fr k st st2 r r2 := by
  subst h2
  refine ⟨rfl, rfl, rfl, fun s hs => (by rw [hst]; exact hW s hs), fun s _ => (by rw [hst]), fun s _ => rfl, fun _ _ => ⟨by rw [hst], rfl⟩, fun h => (by rw [hst]; exact h), fun n => (by rw [hst]), fun n => rfl⟩
theorem qfS {k : OpK} {l : List O} {v : V} (hW : k.boxW = y7 l) {same : Bool} {pan : Bool} {H' H2' : List Obj} {lo lo2 : Nat} (h1 : k.free = true → same = true → H' = st.H ∧ H2' = st2.H) (h2 : st2.H = st.H → H2' = H') :
    Fr k st st2 ⟨pan, same, v, { env := spentAll l st.env, H := H', lo := lo }⟩ ⟨pan, same, v, { env := spentAll l st2.env, H := H2', lo := lo2 }⟩ := by
  refine ⟨rfl, rfl, rfl, fun s hs => ?_, fun s hs => ?_, fun s hs => ?_, h1, h2, fun n => qcY n l _, fun n => qcY n l _⟩
  · rw [hW] at hs; simp only [jT, hs, if_true]
  · rw [hW] at hs; simp only [jT, hs, if_false]
  · rw [hW] at hs; simp only [jT, hs, if_false]
theorem kJ {v : V} (h : ok v st = some r) : r.st = st ∧ ok v st2 = some { r with st := st2 } := by
  simp only [ok, Option.some.injEq] at h; subst h; exact ⟨rfl, rfl⟩
theorem qyZ {c a b : O} (h : qgB c a b st = some r) (e1 : rd st2.env c = rd st.env c) (e2 : rd st2.env a = rd st.env a) (e3 : rd st2.env b = rd st.env b) : r.st = st ∧ qgB c a b st2 = some { r with st := st2 } := by
  unfold qgB at h ⊢; rw [e1, e2, e3]
  split at h
  · rename_i hz; (try simp only [hz]); exact kJ h
  · cases h
theorem qw6 {z : List D} {p : List (Nat × Nat × O)} (h : qec z p st = some r) (e : (p.map fun (o, s, x) => (o, s, rd st2.env x)) = (p.map fun (o, s, x) => (o, s, rd st.env x))) : r.st = st ∧ qec z p st2 = some { r with st := st2 } := by
  unfold qec at h ⊢; rw [e]
  cases hk : qbn (p.map fun (o, s, x) => (o, s, rd st.env x)) with
  | false => rw [hk] at h; simp at h
  | true =>
    rw [hk] at h
    simp only [qEG, cond_false] at h ⊢
    split at h
    · rename_i hz; (try simp only [hz]); exact kJ h
    · cases h
theorem qmR {z : D} {n : Nat} {p : List (Nat × O)} (h : qaf z n p st = some r) (e : (p.map fun (j, x) => (j, rd st2.env x)) = (p.map fun (j, x) => (j, rd st.env x))) : r.st = st ∧ qaf z n p st2 = some { r with st := st2 } := by
  unfold qaf at h ⊢; rw [e]
  split at h
  · rename_i hz; (try simp only [hz])
    split at h
    · rename_i hw; (try simp only [hw, if_true]); exact kJ h
    · cases h
  · cases h
theorem qvn {z : List D} {p : List (Nat × Nat × O)} (h : qc7 z p st = some r) (e : (p.map fun (o, s, x) => (o, s, rd st2.env x)) = (p.map fun (o, s, x) => (o, s, rd st.env x))) : r.st = st ∧ qc7 z p st2 = some { r with st := st2 } := by
  unfold qc7 at h ⊢; rw [e]
  cases hk : qbn (p.map fun (o, s, x) => (o, s, rd st.env x)) with
  | false => rw [hk] at h; simp at h
  | true =>
    rw [hk] at h
    simp only [qEG, cond_false] at h ⊢
    split at h
    · rename_i hz; (try simp only [hz]); exact kJ h
    · cases h
theorem qoP {z : D} {n : Nat} {p : List (Nat × O)} (h : qaX z n p st = some r) (e : (p.map fun (j, x) => (j, rd st2.env x)) = (p.map fun (j, x) => (j, rd st.env x))) : r.st = st ∧ qaX z n p st2 = some { r with st := st2 } := by
  unfold qaX at h ⊢; rw [e]
  split at h
  · rename_i hz; (try simp only [hz])
    split at h
    · rename_i hw; (try simp only [hw, if_true]); exact kJ h
    · cases h
  · cases h
theorem qpU {x : O} (h : qbC x st = some r) (e1 : rd st2.env x = rd st.env x) : r.st = st ∧ qbC x st2 = some { r with st := st2 } := by
  unfold qbC at h ⊢; rw [e1]
  split at h
  · rename_i hz; (try simp only [hz]); exact kJ h
  · rename_i hz; (try simp only [hz]); exact kJ h
  · rename_i hz; (try simp only [hz]); exact kJ h
  · cases h
theorem qBy {op : BinOp} {kd : Kd} {x y : O} (h : qjX op kd x y st = some r) (e1 : rd st2.env x = rd st.env x) (e2 : rd st2.env y = rd st.env y) : r.st = st ∧ qjX op kd x y st2 = some { r with st := st2 } := by
  unfold qjX at h ⊢; rw [e1, e2]
  split at h
  · rename_i hz; (try simp only [hz]); exact kJ h
  · cases h
theorem qDZ {op : UnOp} {x : O} (h : eUn op x st = some r) (e1 : rd st2.env x = rd st.env x) : r.st = st ∧ eUn op x st2 = some { r with st := st2 } := by
  unfold eUn at h ⊢; rw [e1]
  split at h
  · rename_i hz; (try simp only [hz])
    split at h
    · rename_i hw; (try simp only [hw]); exact kJ h
    · cases h
  · cases h
theorem qzH {k : IntKind} {x : O} (h : qhq k x st = some r) (e1 : rd st2.env x = rd st.env x) : r.st = st ∧ qhq k x st2 = some { r with st := st2 } := by
  unfold qhq at h ⊢; rw [e1]
  split at h
  · rename_i hz; (try simp only [hz]); exact kJ h
  · cases h
theorem qxj {x : O} (h : qfr x st = some r) (e1 : rd st2.env x = rd st.env x) : r.st = st ∧ qfr x st2 = some { r with st := st2 } := by
  unfold qfr at h ⊢; rw [e1]
  split at h
  · rename_i hz; (try simp only [hz]); exact kJ h
  · cases h
theorem qz8 {x : O} (h : qgW x st = some r) (e1 : rd st2.env x = rd st.env x) (hH : st2.H = st.H) : r.st = st ∧ qgW x st2 = some { r with st := st2 } := by
  unfold qgW at h ⊢; rw [e1, hH]
  simp only [qEt] at h ⊢
  split at h
  · rename_i hz; (try simp only [hz]); exact kJ h
  · rename_i hz; (try simp only [hz])
    split at h
    · rename_i hw; (try simp only [hw]); exact kJ h
    · cases h
  · rename_i hz; (try simp only [hz])
    split at h
    · rename_i hw; (try simp only [hw])
      split at h
      · rename_i hw2; (try simp only [hw2, if_true])
        split at h
        · rename_i hw3; (try simp only [hw3])
          split at h
          · rename_i hw4; (try simp only [hw4]); exact kJ h
          · cases h
        · cases h
      · cases h
    · cases h
  · cases h
theorem qzF {x : O} (h : qg7 x st = some r) (e1 : rd st2.env x = rd st.env x) : r.st = st ∧ qg7 x st2 = some { r with st := st2 } := by
  unfold qg7 at h ⊢; rw [e1]
  split at h
  · rename_i hz; (try simp only [hz]); exact kJ h
  · cases h
theorem qwo {t : Nat} {x : O} (h : qgw t x st = some r) (e1 : rd st2.env x = rd st.env x) : r.st = st ∧ qgw t x st2 = some { r with st := st2 } := by
  unfold qgw at h ⊢; rw [e1]
  split at h
  · rename_i hz; (try simp only [hz, if_true]); exact kJ h
  · cases h
theorem qpJ {t : Nat} {z : D} {x : O} (h : qbD t z x st = some r) (e1 : rd st2.env x = rd st.env x) : r.st = st ∧ qbD t z x st2 = some { r with st := st2 } := by
  unfold qbD at h ⊢; rw [e1]
  split at h
  · rename_i t' v hz
    (try simp only [hz])
    cases hb : qEr t' t with
    | true => simp only [hb, cond_true] at h ⊢; exact kJ h
    | false => simp only [hb, cond_false] at h ⊢; exact kJ h
  · rename_i hz; (try simp only [hz]); exact kJ h
  · cases h
theorem qzt {f : Nat} {a b : List O} (h : qiA f a b st = some r) (e1 : a.map (rd st2.env) = a.map (rd st.env)) (e2 : b.map (rd st2.env) = b.map (rd st.env)) : r.st = st ∧ qiA f a b st2 = some { r with st := st2 } := by
  unfold qiA at h ⊢; rw [e1, e2]
  split at h
  · rename_i hz; (try simp only [hz, if_true]); exact kJ h
  · cases h
theorem qvz {x : O} {a b : Option O} (h : qdq x a b st = some r) (e1 : rd st2.env x = rd st.env x) (e2 : z7 st2.env a = z7 st.env a) (e3 : z7 st2.env b = z7 st.env b) : r.st = st ∧ qdq x a b st2 = some { r with st := st2 } := by
  unfold qdq at h ⊢; rw [e1, e2, e3]
  split at h
  · rename_i hz1 hz2; (try simp only [hz1, hz2])
    split at h
    · rename_i hw; (try simp only [hw]); exact kJ h
    · cases h
  · cases h
theorem qto {n : Nat} {x : O} {a b : Option O} (h : qdt n x a b st = some r) (e1 : rd st2.env x = rd st.env x) (e2 : z7 st2.env a = z7 st.env a) (e3 : z7 st2.env b = z7 st.env b) : r.st = st ∧ qdt n x a b st2 = some { r with st := st2 } := by
  unfold qdt at h ⊢; rw [e1, e2, e3]
  split at h
  · rename_i hz1 hz2; (try simp only [hz1, hz2])
    split at h
    · rename_i hw; (try simp only [hw]); exact kJ h
    · cases h
  · cases h
theorem qtD {n : Nat} {x : O} {a b : Option O} (h : qdE n x a b st = some r) (e1 : rd st2.env x = rd st.env x) (e2 : z7 st2.env a = z7 st.env a) (e3 : z7 st2.env b = z7 st.env b) : r.st = st ∧ qdE n x a b st2 = some { r with st := st2 } := by
  unfold qdE at h ⊢; rw [e1, e2, e3]
  split at h
  · rename_i hz1 hz2; (try simp only [hz1, hz2])
    split at h
    · rename_i hw; (try simp only [hw]); exact kJ h
    · cases h
  · cases h
theorem qur {n : Nat} {x : O} {a : Option O} {b m : O} (h : qdp n x a b m st = some r) (e1 : rd st2.env x = rd st.env x) (e2 : z7 st2.env a = z7 st.env a) (e3 : rd st2.env b = rd st.env b) (e4 : rd st2.env m = rd st.env m) : r.st = st ∧ qdp n x a b m st2 = some { r with st := st2 } := by
  unfold qdp at h ⊢; rw [e1, e2, e3, e4]
  split at h
  · rename_i hz1 hz2 hz3; (try simp only [hz1, hz2, hz3])
    split at h
    · rename_i hw; (try simp only [hw]); exact kJ h
    · cases h
  · cases h
theorem qoz {x : O} {o : Nat} {l : L} (h : yX x o l st = some r) (e1 : rd st2.env x = rd st.env x) : r.st = st ∧ yX x o l st2 = some { r with st := st2 } := by
  unfold yX at h ⊢; rw [e1]
  split at h
  · rename_i hz; (try simp only [hz]); exact kJ h
  · rename_i hz; (try simp only [hz]); exact kJ h
  · rename_i hz; (try simp only [hz])
    split at h
    · rename_i hw; (try simp only [hw])
      split at h
      · rename_i hq; (try simp only [hq, if_true]); exact kJ h
      · cases h
    · cases h
  · cases h
theorem qwy {x : O} {o : Nat} {l : L} (h : qfe x o l st = some r) (e1 : rd st2.env x = rd st.env x) : r.st = st ∧ qfe x o l st2 = some { r with st := st2 } := by
  unfold qfe at h ⊢; rw [e1]
  split at h
  · rename_i hz; (try simp only [hz])
    split at h
    · rename_i hw; (try simp only [hw]); exact kJ h
    · cases h
  · rename_i hz; (try simp only [hz])
    split at h
    · rename_i hw; (try simp only [hw]); exact kJ h
    · cases h
  · cases h
theorem qoY {x i : O} {n : Nat} {arr : Option Nat} (h : ym x i n arr st = some r) (e1 : rd st2.env x = rd st.env x) (e2 : rd st2.env i = rd st.env i) : r.st = st ∧ ym x i n arr st2 = some { r with st := st2 } := by
  unfold ym at h ⊢; rw [e2]
  split at h
  · rename_i hz; (try simp only [hz])
    cases arr with
    | some len =>
      simp only [qcc, qEt, e1] at h ⊢
      split at h
      · rename_i hw; (try simp only [hw, if_true])
        split at h
        · rename_i hq; (try simp only [hq]); exact kJ h
        · rename_i hq; (try simp only [hq]); exact kJ h
        · rename_i hq; (try simp only [hq])
          split at h
          · rename_i hq1; (try simp only [hq1, if_true])
            split at h
            · rename_i hq2; (try simp only [hq2])
              split at h
              · rename_i hq3; (try simp only [hq3, if_true]); exact kJ h
              · cases h
            · cases h
          · cases h
        · cases h
      · cases h
    | none =>
      simp only [qco, qEt, e1] at h ⊢
      split at h
      · rename_i hw; (try simp only [hw, if_true])
        split at h
        · rename_i hq; (try simp only [hq])
          split at h
          · rename_i hq2; (try simp only [hq2])
            split at h
            · rename_i hq3; (try simp only [hq3, if_true]); exact kJ h
            · cases h
          · cases h
        · rename_i hq; (try simp only [hq])
          split at h
          · rename_i hq3; (try simp only [hq3, if_true]); exact kJ h
          · cases h
        · cases h
      · cases h
  · cases h
theorem qxw {x i : O} (h : qe9 x i st = some r) (e1 : rd st2.env x = rd st.env x) (e2 : rd st2.env i = rd st.env i) : r.st = st ∧ qe9 x i st2 = some { r with st := st2 } := by
  unfold qe9 at h ⊢; rw [e1, e2]
  split at h
  · rename_i hz1 hz2; (try simp only [hz1, hz2, qEt] at h ⊢)
    split at h
    · rename_i hw; (try simp only [hw, if_true])
      split at h
      · rename_i hq; (try simp only [hq]); exact kJ h
      · cases h
    · cases h
  · cases h
theorem qtO {kk : Nat} {z : D} {m k : O} {c : Bool} (h : qdI kk z m k c st = some r) (e1 : rd st2.env m = rd st.env m) (e2 : rd st2.env k = rd st.env k) (eH : st2.H = st.H) : r.st = st ∧ qdI kk z m k c st2 = some { r with st := st2 } := by
  unfold qdI at h ⊢; rw [e1, e2]
  split at h
  · rename_i hz1 hz2; (try simp only [hz1, hz2])
    split at h
    · rename_i hw; (try simp only [hw, if_true]); exact kJ h
    · cases h
  · rename_i hz1 hz2; (try simp only [hz1, hz2, eH])
    split at h
    · rename_i hw; (try simp only [hw])
      split at h
      · rename_i hq; (try simp only [hq, if_true])
        split at h
        · rename_i hq2; (try simp only [hq2]); exact kJ h
        · rename_i hq2; (try simp only [hq2]); exact kJ h
        · cases h
      · cases h
    · cases h
  · cases h
theorem qsC {x : O} {i : Nat} (h : qb9 x i st = some r) (e : ∀ s, s ∈ jG [x] → get s st2.env = get s st.env) : r.st = st ∧ qb9 x i st2 = some { r with st := st2 } := by
  unfold qb9 at h ⊢
  split at h
  · rename_i n
    rw [e n (by simp [jG])]
    split at h
    · rename_i hz; (try simp only [hz])
      split at h
      · rename_i hw; (try simp only [hw]); exact kJ h
      · cases h
    · cases h
  · cases h
end W

/-
  What an operation looks at, and what it changes: those that change something.
-/
set_option linter.unusedSimpArgs false
set_option linter.unusedVariables false
namespace W
open Go (IntKind BinOp UnOp)
variable {st st2 : St} {r : Or}
theorem qsa {v : V} (h : ∀ m o, v ≠ .lp m o) (n k : Nat) (e : Env) : qbz n ((k, v) :: e) = qbz n e := by
  cases v <;> first | rfl | exact absurd rfl (h _ _)
theorem qCe {x : O} (h : qnd x st = some r) (e1 : rd st2.env x = rd st.env x) : ∃ r2, qnd x st2 = some r2 ∧ Fr (.mov x) st st2 r r2 := by
  simp only [qnd, ok, Option.some.injEq] at h ⊢
  subst h
  refine ⟨_, rfl, ?_⟩
  rw [e1]
  exact qfS (l := [x]) rfl (fun _ _ => ⟨rfl, rfl⟩) (fun h => h)
theorem qxP {loc : Bool} {z : List D} (h : qfG loc z st = some r) (eH : (!loc) = true → st2.H = st.H) : ∃ r2, qfG loc z st2 = some r2 ∧ Fr (.alloc loc z) st st2 r r2 := by
  cases loc with
  | true =>
    simp only [qfG, cond_true] at h ⊢
    obtain ⟨h1, h2⟩ := kJ (st2 := st2) h
    exact ⟨_, h2, qnB h1 rfl (fun s hs => by cases hs)⟩
  | false =>
    simp only [qfG, cond_false, okH, Option.some.injEq] at h ⊢
    subst h
    have e := eH rfl
    refine ⟨_, rfl, rfl, rfl, by rw [e], fun s hs => (by cases hs), fun s _ => rfl, fun s _ => rfl, fun h => (by cases h), fun _ => by rw [e], fun n => rfl, fun n => rfl⟩
theorem qBf {loc : Bool} {x : O} (h : qlJ loc x st = some r) (e1 : rd st2.env x = rd st.env x) (eH : (!loc) = true → st2.H = st.H) : ∃ r2, qlJ loc x st2 = some r2 ∧ Fr (.box loc x) st st2 r r2 := by
  simp only [qlJ] at h ⊢
  rw [e1]
  split at h
  · cases h
  · rename_i hv
    (try rw [if_neg hv])
    cases loc with
    | true =>
      simp only [cond_true, ok, Option.some.injEq] at h ⊢
      subst h
      exact ⟨_, rfl, qfS (l := [x]) rfl (fun _ _ => ⟨rfl, rfl⟩) (fun h => h)⟩
    | false =>
      simp only [cond_false] at h ⊢
      split at h
      · rename_i hv2
        (try rw [if_pos hv2])
        simp only [okH, Option.some.injEq] at h ⊢
        subst h
        have e := eH rfl
        rw [e]
        exact ⟨_, rfl, qfS (l := [x]) rfl (fun h => by cases h) (fun h => rfl)⟩
      · cases h
theorem qwG (h : qgY st = some r) (eH : st2.H = st.H) : ∃ r2, qgY st2 = some r2 ∧ Fr .mkMap st st2 r r2 := by
  simp only [qgY, okH, Option.some.injEq] at h ⊢
  subst h
  refine ⟨_, rfl, rfl, rfl, by rw [eH], fun s hs => (by cases hs), fun s _ => rfl, fun s _ => rfl, fun h => (by cases h), fun _ => by rw [eH], fun n => rfl, fun n => rfl⟩
theorem qr0 {z : D} {a b : O} (h : qdJ z a b st = some r) (e1 : rd st2.env a = rd st.env a) (e2 : rd st2.env b = rd st.env b) (eH : st2.H = st.H) : ∃ r2, qdJ z a b st2 = some r2 ∧ Fr (.mkSlice z a b) st st2 r r2 := by
  unfold qdJ at h ⊢
  rw [e1, e2]
  split at h
  · rename_i hz1 hz2; (try simp only [hz1, hz2])
    split at h
    · rename_i hw; (try simp only [hw])
      split at h
      · rename_i hq; (try simp only [hq, if_true])
        simp only [okH, Option.some.injEq] at h
        subst h
        (try rw [if_pos hw])
        refine ⟨_, rfl, rfl, rfl, by rw [eH, hq], fun s hs => (by cases hs), fun s _ => rfl, fun s _ => rfl, fun h => (by cases h), fun _ => by rw [eH, hq], fun n => rfl, fun n => rfl⟩
      · cases h
    · cases h
  · cases h
theorem qqc {z : D} {n : Nat} {p : List (Nat × O)} (h : qbG z n p st = some r) (e : (p.map fun (j, x) => (j, rd st2.env x)) = (p.map fun (j, x) => (j, rd st.env x))) (eH : st2.H = st.H) : ∃ r2, qbG z n p st2 = some r2 ∧ Fr (.buildRow z n p) st st2 r r2 := by
  unfold qbG at h ⊢
  rw [e]
  split at h
  · rename_i xs hz; (try simp only [hz])
    split at h
    · rename_i hw
      (try rw [if_pos hw])
      simp only [okH, Option.some.injEq] at h
      subst h
      refine ⟨_, rfl, rfl, rfl, by rw [eH], fun s hs => (by cases hs), fun s _ => rfl, fun s _ => rfl, fun h => (by cases h), fun _ => by rw [eH], fun n => rfl, fun n => rfl⟩
    · cases h
  · cases h
theorem qp4 {x : O} (h : qbs x st = some r) (e : rd st2.env x = rd st.env x) (eH : st2.H = st.H) : ∃ r2, qbs x st2 = some r2 ∧ Fr (.bytesRow x) st st2 r r2 := by
  unfold qbs at h ⊢
  rw [e]
  split at h
  · rename_i t hz; (try simp only [hz])
    simp only [okH, Option.some.injEq] at h
    subst h
    refine ⟨_, rfl, rfl, rfl, by rw [eH], fun s hs => (by cases hs), fun s _ => rfl, fun s _ => rfl, fun h => (by cases h), fun _ => by rw [eH], fun n => rfl, fun n => rfl⟩
  · cases h
theorem qoa {kk : Nat} {m k x : O} (h : qaH kk m k x st = some r) (e1 : rd st2.env m = rd st.env m) (e2 : rd st2.env k = rd st.env k) (e3 : rd st2.env x = rd st.env x) (eH : st2.H = st.H) :
    ∃ r2, qaH kk m k x st2 = some r2 ∧ Fr (.mapUpdate kk m k x) st st2 r r2 := by
  unfold qaH at h ⊢
  rw [e1, e2, e3, eH]
  split at h
  · rename_i hz1 hz2; (try simp only [hz1, hz2])
    split at h
    · rename_i hw; (try simp only [hw])
      simp only at h
      split at h
      · rename_i hq
        (try rw [if_pos hq])
        split at h
        · rename_i hq2; (try simp only [hq2])
          simp only [okH, Option.some.injEq] at h
          subst h
          exact ⟨_, rfl, qfS (l := [x]) rfl (fun h => by cases h) (fun _ => rfl)⟩
        · cases h
      · cases h
    · cases h
  · cases h
theorem qzW {call : Call} (hc : qae call) {f : O} {l : List O} (h : qe6 call f l st = some r) (e1 : rd st2.env f = rd st.env f) (e2 : l.map (rd st2.env) = l.map (rd st.env)) (eH : st2.H = st.H) :
    ∃ r2, qe6 call f l st2 = some r2 ∧ Fr (.call f l) st st2 r r2 := by
  unfold qe6 at h ⊢
  rw [e1, e2, eH]
  split at h
  · rename_i hz; (try simp only [hz])
    simp only at h ⊢
    split at h
    · rename_i hw
      (try rw [if_pos hw])
      split at h
      · rename_i q hq; (try simp only [hq])
        simp only [Option.some.injEq] at h
        subst h
        have hs := (hc _ _ _ _ hq).2.2
        exact ⟨_, rfl, qfS (l := l) rfl (fun _ hh => ⟨hs hh, by rw [eH]; exact hs hh⟩) (fun _ => rfl)⟩
      · cases h
    · cases h
  · cases h
theorem qe3 : ∀ {l : List O} {s : Nat}, s ∈ y7 l → s ∈ jG l
  | .mv n :: l, s, h => by
    simp only [y7, jG, List.mem_cons] at h ⊢
    exact h.imp id qe3
  | .t n :: l, s, h => by
    simp only [jG, List.mem_cons]
    exact .inr (qe3 (l := l) h)
  | .c _ :: l, s, h => qe3 (l := l) h
  | .f _ :: l, s, h => qe3 (l := l) h
  | .g _ _ :: l, s, h => qe3 (l := l) h
theorem qo6 (x : O) (l : List O) : y7 (x :: l) = y7 [x] ++ y7 l := by cases x <;> rfl
theorem qvy {size bytes : Nat} {x y : O} (h : qei size bytes x y st = some r) (e1 : rd st2.env x = rd st.env x) (e2 : rd st2.env y = rd st.env y) (hy : ∀ s, s ∈ y7 [y] → get s st2.env = get s st.env) :
    ∃ r2, qei size bytes x y st2 = some r2 ∧ Fr (.bi (.append size bytes) [x, y]) st st2 r r2 := by
  unfold qei at h ⊢
  rw [e1, e2]
  split at h
  · rename_i hz; (try simp only [hz])
    simp only [ok, Option.some.injEq] at h
    subst h
    have hW : ∀ s, s ∈ (OpK.bi (.append size bytes) [x, y]).boxW ↔ s ∈ y7 [x] ∨ s ∈ y7 [y] := fun s => by
      show s ∈ y7 [x, y] ↔ _
      rw [qo6]; simp
    refine ⟨_, rfl, rfl, rfl, rfl, fun s hs => ?_, fun s hs => ?_, fun s hs => ?_, fun _ _ => ⟨rfl, rfl⟩, fun h => h, fun n => qio n x _, fun n => qio n x _⟩
    · show get s (spent x st2.env) = get s (spent x st.env)
      rw [qe4, qe4]
      split
      · rfl
      · rename_i hx
        exact hy s (((hW s).1 hs).resolve_left hx)
    · rw [hW, not_or] at hs
      show get s (spent x st.env) = _
      rw [qe4, if_neg hs.1]
    · rw [hW, not_or] at hs
      show get s (spent x st2.env) = _
      rw [qe4, if_neg hs.1]
  · cases h
theorem qwi {l : L} {a : O} (h : qfI l a st = some r) (e1 : rd st2.env a = rd st.env a) : r.st = st ∧ qfI l a st2 = some { r with st := st2 } := by
  unfold qfI at h ⊢
  rw [e1]
  split at h
  · rename_i x hx
    split at h
    · rename_i v hv
      have hv2 : yQ l st2 (.cp x) = some v := hv
      simp only [hv2]
      exact kJ h
    · cases h
  · cases h
theorem qzC {sl : Option Nat} {l : L} {a : O} (h : qcl false sl l a st = some r) (e1 : rd st2.env a = rd st.env a) (e2 : ∀ s, sl = some s → get s st2.env = get s st.env) (eH : sl.isNone = true → st2.H = st.H) :
    ∃ r2, qcl false sl l a st2 = some r2 ∧ Fr (.load false sl l a) st st2 r r2 := by
  unfold qcl at h ⊢
  rw [e1]
  cases hs : jN sl (rd st.env a) with
  | false => rw [hs] at h; simp at h
  | true =>
    rw [hs] at h
    simp only [qEG, cond_false] at h ⊢
    have key : ∀ v, yQ l st (rd st.env a) = some v → yQ l st2 (rd st.env a) = some v := by
      intro v hv
      unfold yQ at hv ⊢
      split at hv
      · rename_i s off hz
        have hsl : sl = some s := by
          rw [hz] at hs
          cases sl with
          | none => simp [jN] at hs
          | some n => exact congrArg some (by simpa [jN] using hs)
        rw [e2 s hsl]; exact hv
      · exact hv
      · rename_i id off hz
        have hsl : sl.isNone = true := by
          rw [hz] at hs
          cases sl with
          | none => rfl
          | some n => simp [jN] at hs
        rw [eH hsl]; exact hv
      · cases hv
    split at h
    · rename_i v hv
      rw [key v hv]
      obtain ⟨h1, h2⟩ := kJ (st2 := st2) h
      exact ⟨_, h2, qnB h1 rfl (fun s hs => by cases hs)⟩
    · cases h
theorem qob {k : OpK} {s : Nat} {l : List O} {cs : List V} {v : V} {same pan : Bool} (hW : ∀ n, n ∈ k.boxW ↔ n = s ∨ n ∈ y7 l) :
    Fr k st st2 ⟨pan, same, v, { st with env := (s, .box cs) :: spentAll l st.env }⟩ ⟨pan, same, v, { st2 with env := (s, .box cs) :: spentAll l st2.env }⟩ := by
  refine ⟨rfl, rfl, rfl, fun n hn => ?_, fun n hn => ?_, fun n hn => ?_, fun _ _ => ⟨rfl, rfl⟩, fun h => h, fun n => qcY n l _, fun n => qcY n l _⟩
  · rw [hW] at hn
    simp only [jh, jT]
    rcases hn with h | h
    · simp [h]
    · simp [h]
  · rw [hW, not_or] at hn
    simp only [jh, jT, hn.1, hn.2, if_false]
  · rw [hW, not_or] at hn
    simp only [jh, jT, hn.1, hn.2, if_false]
theorem qun {sl : Option Nat} {l : L} {a : O} (h : qcl true sl l a st = some r) (e1 : rd st2.env a = rd st.env a) (e2 : ∀ s, sl = some s → get s st2.env = get s st.env) (eH : sl.isNone = true → st2.H = st.H) :
    ∃ r2, qcl true sl l a st2 = some r2 ∧ Fr (.load true sl l a) st st2 r r2 := by
  unfold qcl at h ⊢
  rw [e1]
  cases hs : jN sl (rd st.env a) with
  | false => rw [hs] at h; simp at h
  | true =>
    rw [hs] at h
    simp only [qEG, cond_false, cond_true] at h ⊢
    cases hl : l.agg with
    | true => rw [hl] at h; simp at h
    | false =>
      rw [hl] at h
      simp only [cond_false] at h ⊢
      split at h
      · rename_i v st' hst
        unfold qji at hst ⊢
        split at hst
        · rename_i s off hz
          have hsl : sl = some s := by
            rw [hz] at hs
            cases sl with
            | none => simp [jN] at hs
            | some n => exact congrArg some (by simpa [jN] using hs)
          subst hsl
          rw [e2 s rfl]
          split at hst
          · rename_i cs hb
            split at hst
            · rename_i v' hc
              simp only [Option.some.injEq, Prod.mk.injEq] at hst
              obtain ⟨rfl, rfl⟩ := hst
              simp only [ok, Option.some.injEq] at h ⊢
              subst h
              exact ⟨_, rfl, qob (l := []) (fun n => by simp [OpK.boxW, y7])⟩
            · cases hst
          · cases hst
        · rename_i id off hz
          have hsl : sl = none := by
            rw [hz] at hs
            cases sl with
            | none => rfl
            | some n => simp [jN] at hs
          subst hsl
          rw [eH rfl]
          split at hst
          · rename_i cs hb
            split at hst
            · rename_i v' hc
              simp only [Option.some.injEq, Prod.mk.injEq] at hst
              obtain ⟨rfl, rfl⟩ := hst
              simp only [okH, Option.some.injEq] at h ⊢
              subst h
              exact ⟨_, rfl, rfl, rfl, rfl, fun s hs => (by cases hs), fun s _ => rfl, fun s _ => rfl, fun h => (by cases h), fun _ => rfl, fun n => rfl, fun n => rfl⟩
            · cases hst
          · cases hst
        · cases hst
      · cases h
theorem qxu {sl : Option Nat} {l : L} {a x : O} (h : qfo sl l a x st = some r) (e1 : rd st2.env a = rd st.env a) (e3 : rd st2.env x = rd st.env x) (e2 : ∀ s, sl = some s → get s st2.env = get s st.env) (eH : sl.isNone = true → st2.H = st.H) :
    ∃ r2, qfo sl l a x st2 = some r2 ∧ Fr (.store sl l a x) st st2 r r2 := by
  unfold qfo at h ⊢
  rw [e1, e3]
  cases hs : jN sl (rd st.env a) with
  | false => rw [hs] at h; simp at h
  | true =>
    rw [hs] at h
    simp only [qEG, cond_false] at h ⊢
    split at h
    · rename_i st' hst
      unfold qek at hst ⊢
      split at hst
      · rename_i s off hz
        have hsl : sl = some s := by
          rw [hz] at hs
          cases sl with
          | none => simp [jN] at hs
          | some n => exact congrArg some (by simpa [jN] using hs)
        subst hsl
        have e4 : get s (spent x st2.env) = get s (spent x st.env) := by rw [qe4, qe4, e2 s rfl]
        simp only [e4]
        split at hst
        · rename_i cs hb
          split at hst
          · rename_i hc
            (try rw [if_pos hc])
            split at hst
            · rename_i cs' hset
              simp only [Option.some.injEq] at hst
              subst hst
              (try simp only [hb, if_pos hc, hset])
              simp only [ok, Option.some.injEq] at h ⊢
              subst h
              exact ⟨_, rfl, qob (l := [x]) (fun n => by simp [OpK.boxW])⟩
            · cases hst
          · cases hst
        · cases hst
      · rename_i id off hz
        have hsl : sl = none := by
          rw [hz] at hs
          cases sl with
          | none => rfl
          | some n => simp [jN] at hs
        subst hsl
        simp only [eH rfl]
        split at hst
        · rename_i cs hb
          split at hst
          · rename_i hc
            (try rw [if_pos hc])
            split at hst
            · rename_i cs' hset
              simp only [Option.some.injEq] at hst
              subst hst
              (try simp only [hb, if_pos hc, hset])
              simp only [okH, Option.some.injEq] at h ⊢
              subst h
              exact ⟨_, rfl, qfS (l := [x]) rfl (fun h => by cases h) (fun _ => rfl)⟩
            · cases hst
          · cases hst
        · cases hst
      · cases hst
    · cases h
theorem qzp {x : O} (h : qh8 x st = some r) (e1 : rd st2.env x = rd st.env x) : r.st = st ∧ qh8 x st2 = some { r with st := st2 } := by
  unfold qh8 at h ⊢; rw [e1]
  split at h
  · rename_i hz; (try simp only [hz]); exact kJ h
  · cases h
theorem qyR {x : O} (h : qfx x st = some r) (e1 : rd st2.env x = rd st.env x) : r.st = st ∧ qfx x st2 = some { r with st := st2 } := by
  unfold qfx at h ⊢; rw [e1]
  split at h
  · rename_i hz; (try simp only [hz])
    split at h
    · rename_i hw; (try simp only [hw]); exact kJ h
    · cases h
  · rename_i hz; (try simp only [hz]); exact kJ h
  · cases h
theorem qyM {x : O} (h : qh7 x st = some r) (e1 : rd st2.env x = rd st.env x) (eH : st2.H = st.H) : r.st = st ∧ qh7 x st2 = some { r with st := st2 } := by
  unfold qh7 at h ⊢; rw [e1, eH]
  split at h
  · rename_i hz; (try simp only [hz]); exact kJ h
  · rename_i hz; (try simp only [hz])
    split at h
    · rename_i hw; (try simp only [hw]); exact kJ h
    · cases h
  · cases h
theorem qgN {e e2 : Env} : ∀ {p : List (Nat × Nat × O)}, (∀ s, s ∈ jG (p.map (·.2.2)) → get s e2 = get s e) → (p.map fun (o, s, x) => (o, s, rd e2 x)) = (p.map fun (o, s, x) => (o, s, rd e x))
  | [], _ => rfl
  | (o, n, x) :: l, h => by
    simp only [qEs] at h ⊢
    rw [qah] at h
    rw [qg2 (fun s hs => h s (by simp [hs])), qgN (fun s hs => h s (by simp [hs]))]
theorem qeS {e e2 : Env} : ∀ {p : List (Nat × O)}, (∀ s, s ∈ jG (p.map (·.2)) → get s e2 = get s e) → (p.map fun (j, x) => (j, rd e2 x)) = (p.map fun (j, x) => (j, rd e x))
  | [], _ => rfl
  | (o, x) :: l, h => by
    simp only [qEs] at h ⊢
    rw [qah] at h
    rw [qg2 (fun s hs => h s (by simp [hs])), qeS (fun s hs => h s (by simp [hs]))]
theorem qvg {call : Call} (hc : qae call) {k : OpK} (h : kf call k st = some r) (hs : qDi k st.env st2.env) (hH : k.looks = true → st2.H = st.H) : ∃ r2, kf call k st2 = some r2 ∧ Fr k st st2 r r2 := by
  have s1 : ∀ {x : O} {l l' : List O}, k.rds = l ++ x :: l' → rd st2.env x = rd st.env x := fun {x l l'} e => qg2 (fun s hs' => hs s (.inl (by rw [e, qbh, qah]; simp [hs'])))
  have pure : ∀ {f : St → Option Or}, kf call k = f → (r.st = st ∧ f st2 = some { r with st := st2 }) → (∀ s, s ∈ k.boxW → get s st2.env = get s st.env) → ∃ r2, kf call k st2 = some r2 ∧ Fr k st st2 r r2 := fun hf ⟨h1, h2⟩ hW => ⟨_, by rw [hf]; exact h2, qnB h1 rfl hW⟩
  have nW : ∀ {s : Nat}, s ∈ ([] : List Nat) → get s st2.env = get s st.env := fun h => by cases h
  cases k with
  | mov x => exact qCe h (s1 (l := []) rfl)
  | pick c a b => exact pure rfl (qyZ h (s1 (l := []) rfl) (s1 (l := [c]) rfl) (s1 (l := [c, a]) rfl)) (fun s h => nW h)
  | alloc loc z => exact qxP h hH
  | box loc x => exact qBf h (s1 (l := []) rfl) hH
  | build z p => exact pure rfl (qw6 h (qgN fun s h => hs s (.inl h))) (fun s h => nW h)
  | buildSlice z n p => exact pure rfl (qmR h (qeS fun s h => hs s (.inl h))) (fun s h => nW h)
  | buildV z p => exact pure rfl (qvn h (qgN fun s h => hs s (.inl h))) (fun s h => nW h)
  | buildFull z n p => exact pure rfl (qoP h (qeS fun s h => hs s (.inl h))) (fun s h => nW h)
  | load mv sl l a =>
    have e2 : ∀ s, sl = some s → get s st2.env = get s st.env := fun s e => hs s (.inr (by subst e; simp [OpK.boxR]))
    cases mv with
    | false => exact qzC h (s1 (l := []) rfl) e2 hH
    | true => exact qun h (s1 (l := []) rfl) e2 hH
  | loadC l a => exact pure rfl (qwi h (s1 (l := []) rfl)) (fun s h => nW h)
  | store sl l a x => exact qxu h (s1 (l := []) rfl) (s1 (l := [a]) rfl) (fun s e => hs s (.inr (by subst e; simp [OpK.boxR]))) hH
  | nilCheck x => exact pure rfl (qpU h (s1 (l := []) rfl)) (fun s h => nW h)
  | bin op kd x y => exact pure rfl (qBy h (s1 (l := []) rfl) (s1 (l := [x]) rfl)) (fun s h => nW h)
  | un op x => exact pure rfl (qDZ h (s1 (l := []) rfl)) (fun s h => nW h)
  | conv k x => exact pure rfl (qzH h (s1 (l := []) rfl)) (fun s h => nW h)
  | bytes x => exact pure rfl (qxj h (s1 (l := []) rfl)) (fun s h => nW h)
  | text x => exact pure rfl (qz8 h (s1 (l := []) rfl) (hH rfl)) (fun s h => nW h)
  | movS x => exact pure rfl (qzF h (s1 (l := []) rfl)) (fun s h => nW h)
  | mkIfc t x => exact pure rfl (qwo h (s1 (l := []) rfl)) (fun s h => nW h)
  | mkFn f a b => exact pure rfl (qzt h (qfN fun s h => hs s (.inl (by show s ∈ jG (a ++ b); rw [qbh]; simp [h]))) (qfN fun s h => hs s (.inl (by show s ∈ jG (a ++ b); rw [qbh]; simp [h])))) (fun s h => nW h)
  | mkMap => exact qwG h (hH rfl)
  | mkSlice z a b => exact qr0 h (s1 (l := []) rfl) (s1 (l := [a]) rfl) (hH rfl)
  | bytesRow x => exact qp4 h (s1 (l := []) rfl) (hH rfl)
  | buildRow z n p => exact qqc h (qeS fun s h => hs s (.inl h)) (hH rfl)
  | assertOk t z x => exact pure rfl (qpJ h (s1 (l := []) rfl)) (fun s h => nW h)
  | sliceS x a b =>
    have e : ∀ s, s ∈ jG a.toList ∨ s ∈ jG b.toList → get s st2.env = get s st.env := fun s h => hs s (.inl (by
      show s ∈ jG (x :: (a.toList ++ b.toList)); rw [qah, qbh]; simp only [List.mem_append]; exact .inr h))
    exact pure rfl (qvz h (s1 (l := []) rfl) (qbT fun s h => e s (.inl h)) (qbT fun s h => e s (.inr h))) (fun s h => nW h)
  | sliceL n x a b =>
    have e : ∀ s, s ∈ jG a.toList ∨ s ∈ jG b.toList → get s st2.env = get s st.env := fun s h => hs s (.inl (by
      show s ∈ jG (x :: (a.toList ++ b.toList)); rw [qah, qbh]; simp only [List.mem_append]; exact .inr h))
    exact pure rfl (qto h (s1 (l := []) rfl) (qbT fun s h => e s (.inl h)) (qbT fun s h => e s (.inr h))) (fun s h => nW h)
  | sliceA n x a b =>
    have e : ∀ s, s ∈ jG a.toList ∨ s ∈ jG b.toList → get s st2.env = get s st.env := fun s h => hs s (.inl (by
      show s ∈ jG (x :: (a.toList ++ b.toList)); rw [qah, qbh]; simp only [List.mem_append]; exact .inr h))
    exact pure rfl (qtD h (s1 (l := []) rfl) (qbT fun s h => e s (.inl h)) (qbT fun s h => e s (.inr h))) (fun s h => nW h)
  | sliceM n x a b m =>
    have e : ∀ s, s ∈ jG a.toList → get s st2.env = get s st.env := fun s h => hs s (.inl (by
      show s ∈ jG (m :: b :: x :: a.toList); rw [qah m, qah b, qah x]; simp only [List.mem_append]; exact Or.inr (Or.inr (Or.inr h))))
    exact pure rfl (qur h (s1 (l := [m, b]) rfl) (qbT fun s h => e s h) (s1 (l := [m]) rfl) (s1 (l := []) rfl)) (fun s h => nW h)
  | stuck => cases h
  | fieldAddr x o l => exact pure rfl (qoz h (s1 (l := []) rfl)) (fun s h => nW h)
  | field x o l => exact pure rfl (qwy h (s1 (l := []) rfl)) (fun s h => nW h)
  | indexAddr x i n arr => exact pure rfl (qoY h (s1 (l := []) rfl) (s1 (l := [x]) rfl)) (fun s h => nW h)
  | index x i => exact pure rfl (qxw h (s1 (l := []) rfl) (s1 (l := [x]) rfl)) (fun s h => nW h)
  | lookup kk z m k c => exact pure rfl (qtO h (s1 (l := []) rfl) (s1 (l := [m]) rfl) (hH rfl)) (fun s h => nW h)
  | mapUpdate kk m k x => exact qoa h (s1 (l := []) rfl) (s1 (l := [m]) rfl) (s1 (l := [m, k]) rfl) (hH rfl)
  | extract x i => exact pure rfl (qsC h (fun s h => hs s (.inl h))) (fun s h => nW h)
  | call f l => exact qzW hc h (s1 (l := []) rfl) (qfN fun s h => hs s (.inl (by show s ∈ jG (f :: l); rw [qah]; simp [h]))) (hH rfl)
  | panic x =>
    refine pure rfl ?_ (fun s h => nW h)
    have e := s1 (x := x) (l := []) (l' := []) rfl
    simp only [kf] at h
    show r.st = st ∧ qih x st2 = _
    unfold qih at h ⊢
    rw [e]
    split at h
    · rename_i hz; (try simp only [hz])
      simp only [Option.some.injEq] at h
      subst h
      exact ⟨rfl, rfl⟩
    · cases h
  | bi b l =>
    have hW : ∀ s, s ∈ y7 l → get s st2.env = get s st.env := fun s h => hs s (.inl (qe3 h))
    have eL : l.map (rd st2.env) = l.map (rd st.env) := qfN fun s h => hs s (.inl h)
    simp only [kf, eBi] at h
    cases b with
    | lenS =>
      rcases l with _ | ⟨x, _ | ⟨y, l⟩⟩
      · cases h
      · exact pure rfl (qzp h (s1 (l := []) rfl)) hW
      · cases h
    | lenL =>
      rcases l with _ | ⟨x, _ | ⟨y, l⟩⟩
      · cases h
      · exact pure rfl (qyR h (s1 (l := []) rfl)) hW
      · cases h
    | lenM =>
      rcases l with _ | ⟨x, _ | ⟨y, l⟩⟩
      · cases h
      · exact pure rfl (qyM h (s1 (l := []) rfl) (hH rfl)) hW
      · cases h
    | append size bytes =>
      rcases l with _ | ⟨x, _ | ⟨y, _ | ⟨z, l⟩⟩⟩
      · cases h
      · cases h
      · exact qvy h (s1 (l := []) rfl) (s1 (l := [x]) rfl) (fun s h => hW s (by rw [qo6]; simp [h]))
      · cases h
    | max =>
      refine pure (f := fun st => eBi .max l st) rfl ?_ hW
      have h' : (match qjl (l.map (rd st.env)) with | some v => ok v st | none => none) = some r := by cases l <;> exact h
      have g : eBi .max l st2 = (match qjl (l.map (rd st2.env)) with | some v => ok v st2 | none => none) := by cases l <;> rfl
      show r.st = st ∧ eBi .max l st2 = _
      rw [g, eL]
      split at h'
      · rename_i hz; (try simp only [hz]); exact kJ h'
      · cases h'
    | min =>
      refine pure (f := fun st => eBi .min l st) rfl ?_ hW
      have h' : (match qjf (l.map (rd st.env)) with | some v => ok v st | none => none) = some r := by cases l <;> exact h
      have g : eBi .min l st2 = (match qjf (l.map (rd st2.env)) with | some v => ok v st2 | none => none) := by cases l <;> rfl
      show r.st = st ∧ eBi .min l st2 = _
      rw [g, eL]
      split at h'
      · rename_i hz; (try simp only [hz]); exact kJ h'
      · cases h'
end W

/-
  Regions whose order is open: whatever the order, the same.
-/
set_option linter.unusedSimpArgs false
set_option linter.unusedVariables false
namespace W
open Go (IntKind BinOp UnOp Oper)
abbrev El := Op × Bool × List Nat
def qfO (call : Call) (x : El) (st : St) : Option St :=
  match wanted x.1.g st.env with
  | some true => match kf call x.1.k st with
    | some r => bif r.pan || !(r.same || x.2.1) then none else qer (qmy x.1.k) x.2.2 x.1.dst r.v r.st
    | none => none
  | some false => some (put x.1.dst (.tup []) st)
  | none => none
def qi1 (call : Call) : List El → St → Option St
  | [], st => some st
  | x :: l, st => match qfO call x st with
    | some st' => qi1 call l st'
    | none => none
theorem qeO {call : Call} : ∀ {l : List El} {st : St} {e : Ex} {st' : St}, jf call l st = some (e, st') → e = .nrm ∧ qi1 call l st = some st'
  | [], st, e, st', h => by simp only [jf, Option.some.injEq, Prod.mk.injEq] at h; exact ⟨h.1.symm, by rw [← h.2]; rfl⟩
  | (o, s, no) :: l, st, e, st', h => by
    simp only [jf] at h
    simp only [qi1, qfO]
    split at h
    · rename_i hw
      simp only [hw]
      split at h
      · rename_i r hr
        simp only [hr]
        rw [qEt] at h ⊢
        split at h
        · cases h
        · rename_i hp
          rw [if_neg hp]
          split at h
          · rename_i st1 h1
            simp only [h1]
            exact qeO h
          · cases h
      · cases h
    · rename_i hw
      simp only [hw]
      exact qeO h
    · cases h
structure Eqv (st st2 : St) : Prop where
  e : ∀ k, get k st2.env = get k st.env
  H : st2.H = st.H
  lp : ∀ n, qbz n st2.env = qbz n st.env
theorem Eqv.refl (st : St) : Eqv st st := ⟨fun _ => rfl, rfl, fun _ => rfl⟩
theorem Eqv.trans {a b c : St} (h : Eqv a b) (h' : Eqv b c) : Eqv a c := ⟨fun k => (h'.e k).trans (h.e k), h'.H.trans h.H, fun n => (h'.lp n).trans (h.lp n)⟩
structure FrD (x : El) (st st2 st1 st1' : St) (b : Nat → Bool) : Prop where
  inn : ∀ s, s ∈ x.1.wr → get s st1'.env = get s st1.env
  out1 : ∀ s, s ∉ x.1.wr → get s st1.env = get s st.env
  out2 : ∀ s, s ∉ x.1.wr → get s st1'.env = get s st2.env
  H1 : x.2.1 = false → st1.H = st.H ∧ st1'.H = st2.H
  H2 : st2.H = st.H → st1'.H = st1.H
  lp : ∀ n, qbz n st1.env = (qbz n st.env && b n)
  lp2 : ∀ n, qbz n st1'.env = (qbz n st2.env && b n)
  no : ∀ n, qeb n x.2.2 = true → b n = true
theorem qk6 {n : Nat} : ∀ {l : List Nat}, n ∈ l → qeb n l = true
  | m :: l, h => by
    simp only [qeb, Bool.or_eq_true]
    rcases List.mem_cons.1 h with e | h
    · subst e; exact .inl (by simp)
    · exact .inr (qk6 h)
theorem qny {g : Option (Nat × Bool)} {e e2 : Env} (h : ∀ n w, g = some (n, w) → get n e2 = get n e) : wanted g e2 = wanted g e := by
  cases g with
  | none => rfl
  | some nw => obtain ⟨n, w⟩ := nw; simp only [wanted]; rw [h n w rfl]
theorem quJ {o : Op} {s : Nat} (h : s ∈ jG o.k.rds ∨ s ∈ o.k.boxR) : s ∈ o.re := by
  unfold Op.re
  simp only [List.mem_append]
  rcases h with h | h
  · exact .inr (.inl h)
  · exact .inr (.inr (.inl h))
theorem qnM {o : Op} {s : Nat} (h : s ∈ o.k.boxW) : s ∈ o.re := by
  unfold Op.re
  simp only [List.mem_append]
  exact .inr (.inr (.inr h))
theorem qv0 {o : Op} {n : Nat} {w : Bool} (h : o.g = some (n, w)) : n ∈ o.re := by
  unfold Op.re; rw [h]; simp
theorem frD {call : Call} (hc : qae call) {x : El} {st st2 st1 : St} (h : qfO call x st = some st1) (hfl : x.2.1 = false → x.1.k.free = true) (hs : ∀ s, s ∈ x.1.re → get s st2.env = get s st.env) (hH : x.1.k.looks = true → st2.H = st.H)
    (hbx : ∀ n, n ∈ qf1 x.1 → qbz n st.env = true → qbz n st2.env = true) : ∃ st1' b, qfO call x st2 = some st1' ∧ FrD x st st2 st1 st1' b := by
  unfold qfO at h ⊢
  rw [qny (e := st.env) (fun n w hg => hs n (qv0 hg))]
  split at h
  · rename_i hw
    (try simp only [hw])
    split at h
    · rename_i r hr
      obtain ⟨r2, hr2, F⟩ := qvg hc hr (fun s h => hs s (quJ h)) hH
      simp only [hr2]
      rw [qEt] at h ⊢
      rw [F.pan, F.same]
      split at h
      · cases h
      · rename_i hp
        rw [if_neg hp]
        have hsame : x.2.1 = false → r.same = true := fun hf => by
          simp only [Bool.or_eq_true, not_or, Bool.not_eq_true', hf, Bool.or_false] at hp
          simpa using hp.2
        have done : ∀ {v : V} {b : Nat → Bool} {n : Nat}, x.1.dst = some n → (∀ m (e : Env), qbz m ((n, v) :: e) = (qbz m e && b m)) → (∀ m, qeb m x.2.2 = true → b m = true) →
            FrD x st st2 { r.st with env := (n, v) :: r.st.env } { r2.st with env := (n, v) :: r2.st.env } b := by
          intro v b n hdst hb hno
          have hwr : ∀ s, s ∈ x.1.wr ↔ s = n ∨ s ∈ x.1.k.boxW := fun s => by unfold Op.wr; rw [hdst]; simp
          refine ⟨fun s hs => ?_, fun s hs => ?_, fun s hs => ?_, fun hf => F.H1 (hfl hf) (hsame hf), F.H2, fun m => ?_, fun m => ?_, hno⟩
          · show get s ((n, v) :: r2.st.env) = get s ((n, v) :: r.st.env)
            rw [jh, jh]
            split
            · rfl
            · rename_i hne; exact F.inn s (((hwr s).1 hs).resolve_left hne)
          · rw [hwr, not_or] at hs
            show get s ((n, v) :: r.st.env) = _
            rw [jh, if_neg hs.1]; exact F.out1 s hs.2
          · rw [hwr, not_or] at hs
            show get s ((n, v) :: r2.st.env) = _
            rw [jh, if_neg hs.1]; exact F.out2 s hs.2
          · show qbz m ((n, v) :: r.st.env) = _
            rw [hb, F.lp]
          · show qbz m ((n, v) :: r2.st.env) = _
            rw [hb, F.lp2]
        unfold qer at h ⊢
        rw [F.v]
        cases hdst : x.1.dst with
        | none =>
          rw [hdst] at h
          simp only [Option.some.injEq] at h
          subst h
          have hwr : ∀ s, s ∈ x.1.wr ↔ s ∈ x.1.k.boxW := fun s => by unfold Op.wr; rw [hdst]; simp
          exact ⟨_, fun _ => true, rfl, fun s hs => F.inn s ((hwr s).1 hs), fun s hs => F.out1 s (fun h => hs ((hwr s).2 h)), fun s hs => F.out2 s (fun h => hs ((hwr s).2 h)), fun hf => F.H1 (hfl hf) (hsame hf), F.H2,
            fun n => by rw [F.lp]; simp, fun n => by rw [F.lp2]; simp, fun _ _ => rfl⟩
        | some n =>
          rw [hdst] at h
          simp only at h ⊢
          split at h
          · rename_i cs hv
            rw [qEt] at h
            split at h
            · rename_i hb
              simp only [Option.some.injEq] at h
              subst h
              simp only [qEn] at hb
              have hb2 : (qmy x.1.k && qbz n r2.st.env) = true := by
                rw [qEn]
                refine ⟨hb.1, ?_⟩
                rw [F.lp2]
                exact hbx n (by unfold qf1; rw [hb.1, hdst]; simp) (by rw [← F.lp]; exact hb.2)
              rw [hb2]
              simp only [cond_true]
              exact ⟨_, fun _ => true, rfl, done hdst (fun m e => by simp [qbz]) (fun _ _ => rfl)⟩
            · cases h
          · rename_i m o hv
            rw [qEt] at h
            split at h
            · cases h
            · rename_i hb
              simp only [Option.some.injEq] at h
              subst h
              have hb' : qeb m x.2.2 = false := by simpa using hb
              simp only [hb', cond_false]
              refine ⟨_, fun k => !Nat.beq m k, rfl, done hdst (fun k e => by simp only [qbz]; rw [Bool.and_comm]) (fun k hk => ?_)⟩
              cases hq : qEr m k with
              | false => rfl
              | true =>
                have := qEE hq
                subst this
                rw [hb'] at hk; cases hk
          · rename_i h1 h2
            simp only [Option.some.injEq] at h
            subst h
            refine ⟨_, fun _ => true, rfl, ?_⟩
            exact done hdst (fun m e => by rw [qsa (fun k o => h2 k o)]; simp) (fun _ _ => rfl)
    · cases h
  · rename_i hw
    (try simp only [hw])
    simp only [Option.some.injEq] at h
    subst h
    cases hdst : x.1.dst with
    | none =>
      refine ⟨_, fun _ => true, rfl, fun s hs' => ?_, fun s _ => rfl, fun s _ => rfl, fun _ => ⟨rfl, rfl⟩, fun h => h, fun n => by simp [put], fun n => by simp [put], fun _ _ => rfl⟩
      unfold Op.wr at hs'
      rw [hdst] at hs'
      exact hs s (qnM (by simpa using hs'))
    | some n =>
      have hwr : ∀ s, s ∈ x.1.wr ↔ s = n ∨ s ∈ x.1.k.boxW := fun s => by unfold Op.wr; rw [hdst]; simp
      refine ⟨_, fun _ => true, rfl, fun s hs' => ?_, fun s hs' => ?_, fun s hs' => ?_, fun _ => ⟨rfl, rfl⟩, fun h => h, fun m => by simp [put, qbz], fun m => by simp [put, qbz], fun _ _ => rfl⟩
      · show get s ((n, .tup []) :: st2.env) = get s ((n, .tup []) :: st.env)
        rw [jh, jh]
        split
        · rfl
        · rename_i hne; exact hs s (qnM (((hwr s).1 hs').resolve_left hne))
      · rw [hwr, not_or] at hs'
        show get s ((n, .tup []) :: st.env) = _
        rw [jh, if_neg hs'.1]
      · rw [hwr, not_or] at hs'
        show get s ((n, .tup []) :: st2.env) = _
        rw [jh, if_neg hs'.1]
  · cases h
theorem qjP {a b : List Nat} (h : meets a b = false) : ∀ n, n ∈ a → n ∉ b := by
  intro n hn hb
  simp only [meets, List.any_eq_false] at h
  exact h n hn (by simpa using hb)
structure Apart (o o' : Op) : Prop where
  f1 : o.k.free = true ∨ (o'.k.looks = false ∧ o'.k.free = true)
  f2 : o'.k.free = true ∨ (o.k.looks = false ∧ o.k.free = true)
  w1 : ∀ n, n ∈ o.wr → n ∉ o'.wr ∧ n ∉ o'.re
  w2 : ∀ n, n ∈ o'.wr → n ∉ o.wr ∧ n ∉ o.re
theorem qlF {o o' : Op} (h : apart o o' = true) : Apart o o' := by
  simp only [apart, qEn, Bool.not_eq_true', Bool.and_eq_false_iff, Bool.or_eq_false_iff, Bool.not_eq_false'] at h
  obtain ⟨⟨⟨h1, h2⟩, h3⟩, h4⟩ := h
  refine ⟨by rcases h1 with h | h; exact .inl h; exact .inr h, by rcases h2 with h | h; exact .inl h; exact .inr h, fun n hn => ?_, fun n hn => ?_⟩
  · have := qjP h3 n hn
    simpa [not_or] using this
  · have := qjP h4 n hn
    simpa [not_or] using this
theorem commute {call : Call} (hc : qae call) {x y : El} {st st1 st2 : St} (hx : qfO call x st = some st1) (hy : qfO call y st1 = some st2) (lx : x.2.1 = false → x.1.k.free = true) (ly : y.2.1 = false → y.1.k.free = true) (fx : x.2.1 = false ∨ (y.1.k.looks = false ∧ y.2.1 = false)) (fy : y.2.1 = false ∨ (x.1.k.looks = false ∧ x.2.1 = false)) (hap : Apart x.1 y.1)
    (hno : ∀ n, n ∈ qf1 x.1 → qeb n y.2.2 = true) : ∃ st1' st2', qfO call y st = some st1' ∧ qfO call x st1' = some st2' ∧ Eqv st2 st2' := by
  -- x, once more in its own state: what it changes
  obtain ⟨_, bx, hx0, Fx⟩ := frD hc (st2 := st) hx lx (fun _ _ => rfl) (fun _ => rfl) (fun _ _ h => h)
  rw [hx] at hx0
  cases hx0
  -- y ahead
  obtain ⟨st1', by_, hy', Fy⟩ := frD hc (st2 := st) hy ly (fun s hs => (Fx.out1 s (fun h => (hap.w1 s h).2 hs)).symm) (fun hl => by
      rcases fx with h | h
      · exact (Fx.H1 h).1.symm
      · rw [h.1] at hl; cases hl) (fun n hn h => by
      rw [Fx.lp] at h; simp only [qEn] at h; exact h.1)
  -- x behind it
  obtain ⟨st2', b3, hx', Fx'⟩ := frD hc (st2 := st1') hx lx (fun s hs => Fy.out2 s (fun h => (hap.w2 s h).2 hs)) (fun hl => by
      rcases fy with h | h
      · exact (Fy.H1 h).2
      · rw [h.1] at hl; cases hl) (fun n hn h => by
      rw [Fy.lp2, h, Fy.no n (hno n hn)]; rfl)
  refine ⟨st1', st2', hy', hx', fun s => ?_, ?_, fun n => ?_⟩
  · by_cases h1 : s ∈ x.1.wr
    · have h2 : s ∉ y.1.wr := (hap.w1 s h1).1
      rw [Fx'.inn s h1, Fy.out1 s h2]
    · rw [Fx'.out2 s h1]
      by_cases h2 : s ∈ y.1.wr
      · rw [Fy.inn s h2]
      · rw [Fy.out2 s h2, Fy.out1 s h2, Fx.out1 s h1]
  · rcases fx with h | h
    · -- x leaves the objects alone
      rw [(Fx'.H1 h).2]
      exact Fy.H2 (Fx.H1 h).1.symm
    · rw [(Fy.H1 h.2).1]
      exact Fx'.H2 (Fy.H1 h.2).2
  · rw [Fx'.lp2, Fy.lp2, Fy.lp, Fx.lp]
    -- what x adds is the same
    have e : (qbz n st.env && bx n) = (qbz n st.env && b3 n) := by rw [← Fx.lp, ← Fx'.lp]
    cases h1 : qbz n st.env with
    | false => simp
    | true =>
      rw [h1] at e
      simp only [Bool.true_and] at e ⊢
      rw [e, Bool.and_comm]
theorem qr4 {call : Call} (hc : qae call) {x : El} {st st2 st1 : St} (h : qfO call x st = some st1) (lx : x.2.1 = false → x.1.k.free = true) (he : Eqv st st2) : ∃ st1', qfO call x st2 = some st1' ∧ Eqv st1 st1' := by
  obtain ⟨st1', b, h1, F⟩ := frD hc h lx (fun s _ => he.e s) (fun _ => he.H) (fun n _ h => by rw [he.lp]; exact h)
  refine ⟨st1', h1, fun s => ?_, F.H2 he.H, fun n => by rw [F.lp, F.lp2, he.lp]⟩
  by_cases hs : s ∈ x.1.wr
  · exact F.inn s hs
  · rw [F.out2 s hs, F.out1 s hs, he.e]
theorem qnR {call : Call} (hc : qae call) : ∀ {l : List El} {st st2 stF : St}, (∀ x ∈ l, x.2.1 = false → x.1.k.free = true) → qi1 call l st = some stF → Eqv st st2 → ∃ stF2, qi1 call l st2 = some stF2 ∧ Eqv stF stF2
  | [], st, st2, stF, _, h, he => by simp only [qi1, Option.some.injEq] at h; subst h; exact ⟨st2, rfl, he⟩
  | x :: l, st, st2, stF, hf, h, he => by
    simp only [qi1] at h ⊢
    split at h
    · rename_i st1 h1
      obtain ⟨st1', h2, he2⟩ := qr4 hc h1 (hf x (by simp)) he
      simp only [h2]
      exact qnR hc (fun y hy => hf y (by simp [hy])) h he2
    · cases h
theorem qot {call : Call} (hc : qae call) {x : El} {post : List El} : ∀ {pre : List El} {st stF : St}, (∀ y ∈ pre ++ x :: post, y.2.1 = false → y.1.k.free = true) → (∀ y ∈ pre, (y.2.1 = false ∨ (x.1.k.looks = false ∧ x.2.1 = false)) ∧ (x.2.1 = false ∨ (y.1.k.looks = false ∧ y.2.1 = false))) → (∀ y ∈ pre, Apart y.1 x.1 ∧ ∀ n, n ∈ qf1 y.1 → qeb n x.2.2 = true) →
    qi1 call (pre ++ x :: post) st = some stF → ∃ st1 stF', qfO call x st = some st1 ∧ qi1 call (pre ++ post) st1 = some stF' ∧ Eqv stF stF'
  | [], st, stF, _, hf, _, h => by
    simp only [List.nil_append, qi1] at h
    split at h
    · rename_i st1 h1
      exact ⟨st1, stF, h1, h, Eqv.refl _⟩
    · cases h
  | y :: pre, st, stF, hl, hf, ha, h => by
    simp only [List.cons_append, qi1] at h
    split at h
    · rename_i sty hy
      obtain ⟨stx, stF1, h1, h2, h3⟩ := qot hc (pre := pre) (fun z hz => hl z (by simp only [List.cons_append, List.mem_cons]; exact .inr hz)) (fun z hz => hf z (by simp [hz])) (fun z hz => ha z (by simp [hz])) h
      obtain ⟨st1', st2', h4, h5, h6⟩ := commute hc hy h1 (hl y (by simp)) (hl x (by simp)) (hf y (by simp)).1 (hf y (by simp)).2 (ha y (by simp)).1 (ha y (by simp)).2
      obtain ⟨stF2, h7, h8⟩ := qnR hc (fun z hz => hl z (by
        simp only [List.cons_append, List.mem_cons, List.mem_append] at hz ⊢
        rcases hz with h | h
        · exact .inr (.inl h)
        · exact .inr (.inr (.inr h)))) h2 h6
      refine ⟨st1', stF2, h4, ?_, h3.trans h8⟩
      simp only [List.cons_append, qi1, h5]
      exact h7
    · cases h
end W

/-
  Regions whose order is open: simulated.
-/
set_option linter.unusedSimpArgs false
set_option linter.unusedVariables false
namespace W
open Go (World Value Addr IntKind Program TypeId FuncId Operand Act Oper Next Result Sem BinOp UnOp Ending Exit Code Func Fence)
def qc4 (acc : Array Nat) (o : Oper) : Array Nat :=
  acc.push (o.after.foldl (fun s e => if Go.Region.binds .any e then s ||| 2 ^ e.on ||| acc.getD e.on 0 else s) 0)
theorem qti (ops : Array Oper) : Go.Region.before ops = ops.toList.foldl qc4 #[] := by
  unfold Go.Region.before
  rw [← Array.foldl_toList]
  rfl
theorem qiH (acc : Array Nat) : ∀ (l : List Go.Edge) (s j : Nat), (l.foldl (fun s e => if Go.Region.binds .any e then s ||| 2 ^ e.on ||| acc.getD e.on 0 else s) s).testBit j = true →
    s.testBit j = true ∨ ∃ e ∈ l, Go.Region.binds .any e = true ∧ (e.on = j ∨ (acc.getD e.on 0).testBit j = true)
  | [], s, j, h => .inl h
  | e :: l, s, j, h => by
    simp only [List.foldl_cons] at h
    rcases qiH acc l _ j h with h | ⟨e', he', hb, hj⟩
    · split at h
      · rename_i hb
        simp only [Nat.testBit_or, Bool.or_eq_true] at h
        rcases h with (h | h) | h
        · exact .inl h
        · rw [Nat.testBit_two_pow] at h
          exact .inr ⟨e, by simp, hb, .inl (by simpa using h)⟩
        · exact .inr ⟨e, by simp, hb, .inr h⟩
      · exact .inl h
    · exact .inr ⟨e', by simp [he'], hb, hj⟩
theorem qnC : ∀ (l : List Oper) (acc : Array Nat) (i : Nat), i < acc.size → (l.foldl qc4 acc).getD i 0 = acc.getD i 0
  | [], acc, i, _ => rfl
  | o :: l, acc, i, h => by
    simp only [List.foldl_cons]
    rw [qnC l _ i (by simp [qc4]; omega)]
    simp only [qc4, Array.getD_eq_getD_getElem?, Array.getElem?_push]
    rw [if_neg (by omega)]
theorem qq5 : ∀ (l : List Oper) (acc : Array Nat) (k : Nat) (o : Oper), l[k]? = some o → ∀ j, ((l.foldl qc4 acc).getD (acc.size + k) 0).testBit j = true →
    ∃ e ∈ o.after.toList, Go.Region.binds .any e = true ∧ (e.on = j ∨ ((l.foldl qc4 acc).getD e.on 0).testBit j = true)
  | [], acc, k, o, h, j, _ => by simp at h
  | o' :: l, acc, 0, o, h, j, hb => by
    simp at h; subst h
    simp only [List.foldl_cons, qEL] at hb
    rw [qnC l _ acc.size (by simp [qc4])] at hb
    have e0 : (qc4 acc o').getD acc.size 0 = o'.after.foldl (fun s e => if Go.Region.binds .any e then s ||| 2 ^ e.on ||| acc.getD e.on 0 else s) 0 := by
      simp [qc4]
    rw [e0, ← Array.foldl_toList] at hb
    rcases qiH acc _ _ j hb with h | ⟨e, he, hbi, hj⟩
    · simp at h
    · refine ⟨e, he, hbi, hj.imp id (fun h => ?_)⟩
      have hlt : e.on < acc.size := by
        rcases Nat.lt_or_ge e.on acc.size with h1 | h1
        · exact h1
        · rw [Array.getD_eq_getD_getElem?, Array.getElem?_eq_none (by omega)] at h
          simp at h
      rw [qnC (o' :: l) acc e.on hlt]
      exact h
  | o' :: l, acc, k + 1, o, h, j, hb => by
    simp only [List.foldl_cons] at hb ⊢
    have hs : (qc4 acc o').size = acc.size + 1 := by simp [qc4]
    have := qq5 l (qc4 acc o') k o (by simpa using h) j (by rw [hs, show acc.size + 1 + k = acc.size + (k + 1) by omega]; exact hb)
    exact this
theorem qoN {ops : Array Oper} {i : Nat} {o : Oper} (h : ops[i]? = some o) {j : Nat} (hb : ((Go.Region.before ops).getD i 0).testBit j = true) :
    ∃ e ∈ o.after.toList, Go.Region.binds .any e = true ∧ (e.on = j ∨ ((Go.Region.before ops).getD e.on 0).testBit j = true) := by
  rw [qti] at hb ⊢
  exact qq5 ops.toList #[] i o (by simpa using h) j (by simpa using hb)
section
variable {P : Program} {M : Maps} {call : Call}
theorem qhJ {A : Ann} {rid : Nat} {ops : Array Oper} : ∀ {rest : List Oper} {i : Nat} {l : List Op}, qbM M P A rid ops i rest = some l → l.length = rest.length ∧ ∀ k o, rest[k]? = some o → ∃ q, l[k]? = some q ∧ q.dst = o.dst ∧ gOf ops o.guard = some q.g ∧
    q.k = qc6 (qaR M P A (fun k' => (mvs A rid (i + k)).contains k') (match o.dst with | some d => A.loc.contains d | none => false) o.op)
  | [], i, l, h => by simp only [qbM, Option.some.injEq] at h; subst h; exact ⟨rfl, fun k o h => by simp at h⟩
  | o' :: rest, i, l, h => by
    simp only [qbM] at h
    split at h
    · rename_i g' r hg hr
      simp only [Option.some.injEq] at h
      subst h
      obtain ⟨h1, h2⟩ := qhJ hr
      refine ⟨by simp [h1], fun k o ho => ?_⟩
      cases k with
      | zero =>
        simp at ho
        subst ho
        exact ⟨_, rfl, rfl, hg, rfl⟩
      | succ k =>
        obtain ⟨q, q1, q2, q3, q4⟩ := h2 k o (by simpa using ho)
        exact ⟨q, by simpa using q1, q2, q3, by rw [show i + (k + 1) = i + 1 + k by omega]; exact q4⟩
    · cases h
theorem qpL {k : OpK} (h : k.looks = false) : k.isCall = false := by cases k <;> first | rfl | cases h
theorem qkD {ops : Array Oper} {l : List Op} {o o' : Op} {i j : Nat} (ha : o.k.free = true ∨ (o'.k.looks = false ∧ o'.k.free = true)) (s1 : qe7 ops l.length i = false) (s2 : qe7 ops l.length j = false) (hc : qgi ops l i = true → o'.k.looks = false ∧ o'.k.free = true) :
    qcW ops l o i = false ∨ (o'.k.looks = false ∧ qcW ops l o' j = false) := by
  have right : o'.k.looks = false ∧ o'.k.free = true → o'.k.looks = false ∧ qcW ops l o' j = false := fun h => ⟨h.1, by
    unfold qcW
    rw [h.2, s2, qpL h.1]; rfl⟩
  rcases ha with ha | ha
  · cases h : qgi ops l i with
    | true => exact .inr (right (hc h))
    | false =>
      left
      unfold qcW
      rw [ha, s1, h]; simp
  · exact .inr (right ha)
def qdK (ops : Array Oper) (l : List Op) (i : Nat) : El := (l.getD i default, qcW ops l (l.getD i default) i, qf3 ops l i)
theorem qrc (ops : Array Oper) (l : List Op) : (l.zipIdx.map fun (o, i) => (o, qcW ops l o i, qf3 ops l i)) = (List.range l.length).map (qdK ops l) := by
  apply List.ext_getElem?
  intro k
  simp only [List.getElem?_map, List.getElem?_zipIdx, List.getElem?_range']
  by_cases hk : k < l.length
  · rw [List.getElem?_range hk]
    simp [hk, qdK]
  · rw [List.getElem?_eq_none (by omega), List.getElem?_eq_none (by simp; omega)]
    rfl
theorem qjW {n : Nat} : ∀ {e : Env}, qbz n e = true → qd9 n e = e
  | [], _ => rfl
  | (m, v) :: e, h => by
    have h2 : qbz n e = true := by
      cases v <;> first | exact h | (simp only [qbz, qEn] at h; exact h.2)
    simp only [qd9, qjW h2]
    cases v with
    | lp t o =>
      simp only [qbz, qEn, Bool.not_eq_true'] at h
      simp [h.1]
    | _ => rfl
theorem quN {bx : Bool} {no : List Nat} {dst : Option Nat} {v : V} {st st' : St} (h : qer bx no dst v st = some st') : put dst v st = st' := by
  unfold qer at h
  cases dst with
  | none => simpa [put] using h
  | some n =>
    simp only at h
    split at h
    · rw [qEt] at h
      split at h
      · rename_i hb
        simp only [Option.some.injEq] at h
        simp only [qEn] at hb
        rw [← h]
        simp only [put, qjW hb.2]
      · cases h
    · rw [qEt] at h
      split at h
      · cases h
      · simpa [put] using h
    · rename_i hb _
      simp only [Option.some.injEq] at h
      rw [← h, qa7 (fun cs e => hb cs e)]
def rem (n : Nat) (listed : Array Bool) : List Nat := (List.range n).filter fun i => !listed.getD i true
theorem qf5 (n : Nat) (listed : Array Bool) : (rem n listed).Pairwise (· < ·) := (List.pairwise_lt_range).filter _
theorem qc8 {n i : Nat} {listed : Array Bool} : i ∈ rem n listed ↔ i < n ∧ listed.getD i true = false := by
  simp [rem, List.mem_filter]
theorem qqx {n i : Nat} {listed : Array Bool} (hs : listed.size = n) {pre post : List Nat} (h : rem n listed = pre ++ i :: post) : rem n (listed.setIfInBounds i true) = pre ++ post := by
  have hi : i < listed.size := by
    have : i ∈ rem n listed := by rw [h]; simp
    rw [hs]; exact (qc8.1 this).1
  have e : rem n (listed.setIfInBounds i true) = (rem n listed).filter (fun k => k != i) := by
    unfold rem
    rw [List.filter_filter]
    apply List.filter_congr
    intro k hk
    by_cases hki : k = i
    · subst hki; simp [hi]
    · have : i ≠ k := fun e => hki e.symm
      simp [Array.getElem?_setIfInBounds_ne this, hki]
  rw [e, h]
  have hp := qf5 n listed
  rw [h] at hp
  rw [List.pairwise_append] at hp
  obtain ⟨_, h2, h3⟩ := hp
  rw [List.pairwise_cons] at h2
  rw [List.filter_append, List.filter_cons]
  simp only [bne_self_eq_false, qEl, if_false]
  congr 1
  · rw [List.filter_eq_self]
    intro k hk
    have := h3 k hk i (by simp)
    simp; omega
  · rw [List.filter_eq_self]
    intro k hk
    have := h2.1 k hk
    simp; omega
theorem qoD {ops : Array Oper} (hlex : qqa ops = true) {listed : Array Bool} (hs : listed.size = ops.size) (hr : Go.Region.ready .any ops listed = []) : rem ops.size listed = [] := by
  cases hq : rem ops.size listed with
  | nil => rfl
  | cons i t =>
    exfalso
    have hi : i ∈ rem ops.size listed := by rw [hq]; simp
    obtain ⟨h1, h2⟩ := qc8.1 hi
    have : i ∈ Go.Region.ready .any ops listed := by
      rw [Go.mem_ready]
      refine ⟨h2, ops[i], by simp [h1], fun e he hb => ?_⟩
      simp only [qqa, List.all_eq_true] at hlex
      have h3 := hlex (ops[i], i) (by rw [List.mem_zipIdx_iff_getElem?]; simp [h1]) e (by simpa using he)
      simp only [hb, qEG, Bool.false_or, Nat.blt_eq] at h3
      -- it's smaller: listed
      cases hl : listed.getD e.on false with
      | true => rfl
      | false =>
        exfalso
        have : e.on ∈ rem ops.size listed := qc8.2 ⟨by omega, by
          have hlt : e.on < listed.size := by omega
          simp only [Array.getD_eq_getD_getElem?, Array.getElem?_eq_getElem hlt, Option.getD_some] at hl ⊢
          exact hl⟩
        have hp := qf5 ops.size listed
        rw [hq] at this hp
        rcases List.mem_cons.1 this with h | h
        · omega
        · have := (List.pairwise_cons.1 hp).1 _ h; omega
    rw [hr] at this
    cases this
theorem qjo {ops : Array Oper} {listed : Array Bool} (hrem : rem ops.size listed = []) : Go.Region.ready .any ops listed = [] := by
  cases hq : Go.Region.ready .any ops listed with
  | nil => rfl
  | cons i t =>
    exfalso
    have hi : i ∈ Go.Region.ready .any ops listed := by rw [hq]; simp
    rw [Go.mem_ready] at hi
    obtain ⟨h1, o, ho, _⟩ := hi
    have : i ∈ rem ops.size listed := qc8.2 ⟨(Array.getElem?_eq_some_iff.1 ho).1, h1⟩
    rw [hrem] at this; cases this
theorem qqJ (hcs : y3 P M call) (hlo : qae call) {F : Fence} (hF : WF F) {m : Nat} {A : Ann} {rid nt : Nat} {ops : Array Oper} {l : List Op} (htr : qbM M P A rid ops 0 ops.toList = some l) (hlex : qqa ops = true) (hord : qf8 ops l = true)
    (hdst : ∀ o ∈ ops.toList, ∀ d, o.dst = some d → d < nt) (hnd : ∀ o ∈ ops.toList, F.round = none ∨ qfY o.op) (tl : List Nat) (htl : ∀ z ∈ tl, ∀ j, j < z → ((Go.Region.before ops).getD z 0).testBit j = true) : ∀ (fuel : Nat) (front : List Nat) (listed : Array Bool), listed.size = ops.size → rem ops.size listed = front ++ tl → front.length = fuel →
      (∀ x, listed.getD x false = true → ∀ j, ((Go.Region.before ops).getD x 0).testBit j = true → listed.getD j false = true) →
    ∀ (st stF : St) (g : Gh) (w : World) (β : Nat → Nat) (a : Act), nt ≤ a.tmps.size → qi1 call (front.map (qdK ops l)) st = some stF → Rel M g w β st a.tmps →
    ∀ Q : Exit → Act → World → Prop, (∀ listed' a' w' st', listed'.size = ops.size → rem ops.size listed' = tl → (∀ x, listed'.getD x false = true → ∀ j, ((Go.Region.before ops).getD x 0).testBit j = true → listed'.getD j false = true) → Eqv stF st' → Good True M g w a st' a' w' → Go.wpAnyIn F m P .any ops Q tl.length listed' a' w') → Go.wpAnyIn F m P .any ops Q (fuel + tl.length) listed a w := by
  obtain ⟨hlen, hget⟩ := qhJ htr
  have hll : l.length = ops.size := by simpa using hlen
  have noReady := fun listed => qoD (listed := listed) hlex
  intro fuel
  induction fuel with
  | zero =>
    intro front listed hs hrem hf hcl st stF g w β a hnt hrun hR Q hQ
    have hfr : front = [] := List.eq_nil_of_length_eq_zero hf
    subst hfr
    simp only [qEA, qi1, Option.some.injEq] at hrun
    subst hrun
    rw [qEu]
    exact hQ listed a w st hs (by simpa using hrem) hcl (Eqv.refl _) ⟨⟨g, β, hR, Evo.refl g w, .refl⟩, rfl, fun _ => rfl⟩
  | succ fuel ih =>
    intro front listed hs hrem0 hf hcl st stF g w β a hnt hrun hR Q hQ
    rw [Nat.succ_add]
    refine ⟨fun hr => ?_, fun i hi => ?_⟩
    · have := noReady listed hs hr
      rw [hrem0] at this
      have : front = [] := (List.append_eq_nil_iff.1 this).1
      rw [this] at hf; simp at hf
    · rw [Go.mem_ready] at hi
      obtain ⟨h1, o, ho, hpre⟩ := hi
      have hilt := (Array.getElem?_eq_some_iff.1 ho).1
      have him : i ∈ rem ops.size listed := qc8.2 ⟨hilt, h1⟩
      -- what stands before i is listed
      have hbef : ∀ j, ((Go.Region.before ops).getD i 0).testBit j = true → listed.getD j false = true := fun j hj => by
        obtain ⟨e, he, hb, hj⟩ := qoN ho hj
        have hl := hpre e (by simpa using he) hb
        rcases hj with rfl | hj
        · exact hl
        · exact hcl _ hl j hj
      have hif : i ∈ front := by
        rw [hrem0, List.mem_append] at him
        refine him.resolve_right (fun hz => ?_)
        cases front with
        | nil => simp at hf
        | cons k front =>
          have hkm : k ∈ rem ops.size listed := by rw [hrem0]; simp
          have hsort := qf5 ops.size listed
          rw [hrem0, List.pairwise_append] at hsort
          have hk := htl i hz k (hsort.2.2 k (by simp) i hz)
          have h3 := hbef k hk
          have h2 := (qc8.1 hkm).2
          have hlt : k < listed.size := by rw [hs]; exact (qc8.1 hkm).1
          simp only [Array.getD_eq_getD_getElem?, Array.getElem?_eq_getElem hlt, Option.getD_some] at h3 h2
          rw [h3] at h2; cases h2
      obtain ⟨pre, post, hfr⟩ := List.append_of_mem hif
      have hrem : rem ops.size listed = pre ++ i :: (post ++ tl) := by rw [hrem0, hfr]; simp
      have hwhole : front.map (qdK ops l) = pre.map (qdK ops l) ++ qdK ops l i :: post.map (qdK ops l) := by rw [hfr]; simp
      rw [hwhole] at hrun
      obtain ⟨q, hq1, hq2, hq3, hq4⟩ := hget i o (by simpa using ho)
      have hel : (qdK ops l i).1 = q := by simp [qdK, hq1]
      have hsorted := qf5 ops.size listed
      obtain ⟨st1, stF', hstep, hrest, heqv⟩ := qot hlo (x := qdK ops l i) (pre := pre.map (qdK ops l)) (post := post.map (qdK ops l)) (fun y hy => by
          have : ∃ k, y = qdK ops l k := by
            simp only [List.mem_append, List.mem_map, List.mem_cons] at hy
            rcases hy with ⟨k, _, h⟩ | h | ⟨k, _, h⟩
            · exact ⟨k, h.symm⟩
            · exact ⟨i, h⟩
            · exact ⟨k, h.symm⟩
          obtain ⟨k, rfl⟩ := this
          intro hf
          have hf : qcW ops l (l.getD k default) k = false := hf
          unfold qcW at hf
          simp only [Bool.or_eq_false_iff, Bool.not_eq_false'] at hf
          exact hf.1.1) (fun y hy => by
          obtain ⟨k, hk, rfl⟩ := List.mem_map.1 hy
          have hkm : k ∈ rem ops.size listed := by rw [hrem]; simp [hk]
          have hki : k < i := by
            rw [hrem, List.pairwise_append] at hsorted
            exact hsorted.2.2 k hk i (by simp)
          have hnb : ((Go.Region.before ops).getD i 0).testBit k = false := by
            cases hq : ((Go.Region.before ops).getD i 0).testBit k with
            | false => rfl
            | true =>
              have := hbef k hq
              have h2 := (qc8.1 hkm).2
              have hlt : k < listed.size := by rw [hs]; exact (qc8.1 hkm).1
              simp only [Array.getD_eq_getD_getElem?, Array.getElem?_eq_getElem hlt, Option.getD_some] at this h2
              rw [this] at h2; cases h2
          have s1 : qe7 ops l.length i = false := by
            unfold qe7
            rw [List.all_eq_false]
            refine ⟨k, by rw [List.mem_range]; omega, ?_⟩
            have b1 : qEr k i = false := by
              cases hq : qEr k i with
              | false => rfl
              | true => have := qEE hq; omega
            have b2 : Nat.blt k i = true := by simpa using hki
            rw [b1, b2, cond_true, hnb]; simp
          have s2 : qe7 ops l.length k = false := by
            unfold qe7
            rw [List.all_eq_false]
            refine ⟨i, by rw [List.mem_range]; omega, ?_⟩
            have b1 : qEr i k = false := by
              cases hq : qEr i k with
              | false => rfl
              | true => have := qEE hq; omega
            have b2 : Nat.blt i k = false := by
              cases hq : Nat.blt i k with
              | false => rfl
              | true => have : i < k := by simpa using hq
                        omega
            rw [b1, b2, cond_false, hnb]; simp
          have hkl : k < l.length := by rw [hll]; omega
          have hil : i < l.length := by rw [hll]; omega
          have ek : (qdK ops l k).1 = l[k] := by simp [qdK, hkl]
          have ei : (qdK ops l i).1 = l[i] := by simp [qdK, hil]
          have fk : (qdK ops l k).2.1 = qcW ops l l[k] k := by simp [qdK, hkl]
          have fi : (qdK ops l i).2.1 = qcW ops l l[i] i := by simp [qdK, hil]
          have hbl : Nat.blt k i = true := by simpa using hki
          have hbl2 : Nat.blt i k = false := by
            cases hq : Nat.blt i k with
            | false => rfl
            | true => have : i < k := by simpa using hq
                      omega
          have hne1 : qEr i k = false := by
            cases hq : qEr i k with
            | false => rfl
            | true => have := qEE hq; omega
          have hne2 : qEr k i = false := by
            cases hq : qEr k i with
            | false => rfl
            | true => have := qEE hq; omega
          have hap : Apart l[k] l[i] := by
            simp only [qf8, List.all_eq_true] at hord
            have := hord (l[k], k) (by rw [List.mem_zipIdx_iff_getElem?]; simp [hkl]) (l[i], i) (by rw [List.mem_zipIdx_iff_getElem?]; simp [hil])
            simp only [Bool.or_eq_true, Bool.not_eq_true', hnb, qEl, or_false] at this
            refine qlF (this.resolve_left ?_)
            rw [hbl]; simp
          have c1 : qgi ops l k = true → l[i].k.looks = false ∧ l[i].k.free = true := fun h => by
            simp only [qgi, List.all_eq_true] at h
            have := h (l[i], i) (by rw [List.mem_zipIdx_iff_getElem?]; simp [hil])
            rw [hne1, hbl2, cond_false, hnb] at this
            simpa using this
          have c2 : qgi ops l i = true → l[k].k.looks = false ∧ l[k].k.free = true := fun h => by
            simp only [qgi, List.all_eq_true] at h
            have := h (l[k], k) (by rw [List.mem_zipIdx_iff_getElem?]; simp [hkl])
            rw [hne2, hbl, cond_true, hnb] at this
            simpa using this
          have e1 : (qdK ops l k).1.k = l[k].k := by rw [ek]
          have e2 : (qdK ops l i).1.k = l[i].k := by rw [ei]
          rw [e1, e2, fk, fi]
          exact ⟨qkD hap.f1 s2 s1 c1, qkD hap.f2 s1 s2 c2⟩) (fun y hy => by
          obtain ⟨k, hk, rfl⟩ := List.mem_map.1 hy
          have hkm : k ∈ rem ops.size listed := by rw [hrem]; simp [hk]
          have hki : k < i := by
            rw [hrem, List.pairwise_append] at hsorted
            exact hsorted.2.2 k hk i (by simp)
          have hnb : ((Go.Region.before ops).getD i 0).testBit k = false := by
            cases hq : ((Go.Region.before ops).getD i 0).testBit k with
            | false => rfl
            | true =>
              have := hbef k hq
              have h2 := (qc8.1 hkm).2
              have hlt : k < listed.size := by rw [hs]; exact (qc8.1 hkm).1
              simp only [Array.getD_eq_getD_getElem?, Array.getElem?_eq_getElem hlt, Option.getD_some] at this h2
              rw [this] at h2; cases h2
          have hkl : k < l.length := by rw [hll]; omega
          have hil : i < l.length := by rw [hll]; omega
          have ek : (qdK ops l k).1 = l[k] := by simp [qdK, hkl]
          have ei : (qdK ops l i).1 = l[i] := by simp [qdK, hil]
          refine ⟨?_, fun n hn => ?_⟩
          · simp only [qf8, List.all_eq_true] at hord
            have := hord (l[k], k) (by rw [List.mem_zipIdx_iff_getElem?]; simp [hkl]) (l[i], i) (by rw [List.mem_zipIdx_iff_getElem?]; simp [hil])
            simp only [Bool.or_eq_true, Bool.not_eq_true', hnb, qEl, or_false] at this
            rw [ek, ei]
            refine qlF (this.resolve_left ?_)
            have hbl : Nat.blt k i = true := by simpa using hki
            rw [hbl]; simp
          · refine qk6 ?_
            show n ∈ qf3 ops l i
            unfold qf3
            rw [List.mem_flatMap]
            refine ⟨(l[k], k), by rw [List.mem_zipIdx_iff_getElem?]; simp [hkl], ?_⟩
            simp only [hnb, qEl, if_false]
            rw [ek] at hn
            exact hn) hrun
      have hrem' := qqx hs hrem
      have hf' : (pre ++ post).length = fuel := by
        rw [hfr] at hf; simp at hf ⊢; omega
      have hcl' : ∀ x, (listed.setIfInBounds i true).getD x false = true → ∀ j, ((Go.Region.before ops).getD x 0).testBit j = true → (listed.setIfInBounds i true).getD j false = true := by
        intro x hx j hj
        by_cases hxi : i = x
        · subst hxi; exact Go.getD_set_true (hbef j hj)
        · rw [Go.getD_set_ne false hxi] at hx
          exact Go.getD_set_true (hcl x hx j hj)
      have go : ∀ {g1 : Gh} {w1 : World} {β1 : Nat → Nat} {a1 : Act}, a1.tmps.size = a.tmps.size → DefOk g1 w w1 a.defers a1.defers → a1.defers = a.defers → Rel M g1 w1 β1 st1 a1.tmps → Evo g w g1 w1 → Go.wpAnyIn F m P .any ops Q (fuel + tl.length) (listed.setIfInBounds i true) a1 w1 := by
        intro g1 w1 β1 a1 hs1 hd1 hq1 hR1 hE1
        refine ih (pre ++ post) _ (by simpa using hs) (by rw [hrem', List.append_assoc]) hf' hcl' st1 stF' g1 w1 β1 a1 (by rw [hs1]; exact hnt) (by rw [List.map_append]; exact hrest) hR1 Q (fun listed' a' w' st' hs2 hr2 hc2 he hg => ?_)
        exact hQ listed' a' w' st' hs2 hr2 hc2 (heqv.trans he) (hg.trans hE1 hs1 hd1 (fun _ => hq1) id)
      have hd : zu o a := fun n hn => Nat.lt_of_lt_of_le (hdst o (by
        have := Array.mem_of_getElem? ho
        simpa using this) n hn) hnt
      unfold Go.wpOpIn
      simp only [ho]
      unfold qfO at hstep
      rw [hel] at hstep
      split at hstep
      · rename_i hw
        rw [qci hR hq3 hw]
        simp only [if_true]
        refine qil hF (hnd o (by
          have := Array.mem_of_getElem? ho
          simpa using this)) ?_
        split at hstep
        · rename_i r hr
          rw [qEt] at hstep
          split at hstep
          · cases hstep
          · rename_i hp
            have hpan : r.pan = false := by
              simp only [Bool.or_eq_true, not_or] at hp
              simpa using hp.1
            have hput := quN hstep
            have hq5 := hr
            rw [hq4] at hq5
            have hq6 := qe0 hq5
            rw [← hq4] at hq6
            refine qqu hcs hd hR hq6 (fun hloc hn => ?_) hr ⟨fun _ c w1 g1 β1 hR1 hE1 => ?_, fun hp2 => ?_⟩
            · rw [hn] at hloc; simp at hloc
            · rw [← hq2, hput, hq2] at hR1
              exact go (qad _ _ _) (qfB _ _ _) (yV _ _ _) hR1 hE1
            · rw [hpan] at hp2; cases hp2
        · cases hstep
      · rename_i hw
        rw [qci hR hq3 hw]
        simp only [qEl, if_false]
        simp only [Option.some.injEq] at hstep
        subst hstep
        refine ⟨fun f _ => hF.fn f, ?_⟩
        exact go (qad _ _ _) (qfB _ _ _) (yV _ _ _) (by rw [hq2]; exact qiI hR hd) (Evo.refl g w)
      · cases hstep
theorem qqA (hm : P.follows .mixedOrders = true) (hcs : y3 P M call) (hlo : qae call) : qqN P M call := by
  intro A rid ops l htr hlex hord st e st' hrun g w β a nt hdst hnt hR F m hF hnd Q hQ
  obtain ⟨rfl, hrunD⟩ := qeO hrun
  have hll : l.length = ops.size := by simpa using (qhJ htr).1
  refine Go.wpIn_region_any hm ?_
  have hall : ∀ i, i < ops.size → (Array.replicate ops.size false).getD i true = false := fun i hi => by simp [hi]
  have hrem : rem ops.size (Array.replicate ops.size false) = List.range ops.size := by
    unfold rem
    rw [List.filter_eq_self]
    intro i hi
    rw [hall i (by simpa using hi)]; rfl
  have hsm : SameMem w { w with drawn := w.drawn + 1 } := ⟨rfl, rfl, rfl⟩
  refine qqJ hcs hlo hF htr hlex hord hdst (qqI hnd) [] (fun z hz => by cases hz) ops.size (List.range ops.size) _ (by simp) (by rw [hrem]; simp) (by simp) (fun x hx => ?_) st st' g { w with drawn := w.drawn + 1 } β a hnt (by rw [← hll, ← qrc]; exact hrunD) (hR.sameMem hsm) Q (fun listed' a' w' st2 hs2 hr2 _ he hg => ⟨qjo hr2, ?_⟩)
  · exfalso
    simp only [Array.getD_eq_getD_getElem?] at hx
    by_cases hlt : x < ops.size
    · simp [hlt] at hx
    · rw [Array.getElem?_eq_none (by simp; omega)] at hx; simp at hx
  · refine hQ .normal a' w' (show Post True M g w a .nrm st' .normal a' w' from ?_)
    obtain ⟨⟨g1, β1, hR1, hE1, hd1⟩, hs1, hq1⟩ := hg
    refine ⟨⟨g1, β1, ⟨?_, fun k => ?_, fun id o ho => ?_, hR1.fresh, hR1.gl⟩, (hsm.evo g).trans hE1, hd1.imp (fun ms h => ⟨h.1, MarksOk.base (w0 := { w with drawn := w.drawn + 1 }) (w0' := w) (qEo _) h.2⟩)⟩, hs1, hq1⟩
    · rw [hR1.n, he.H]
    · rw [← he.e k]; exact hR1.e k
    · exact hR1.h id o (by rw [he.H]; exact ho)
theorem qo5 (hm : P.follows .mixedOrders = true) (hcs : y3 P M call) (hlo : qae call) : qoT P M call := by
  intro A rid ops l htr hlex hord hlast st st1 e st' hrunD hrunL g w β a nt hdst hnt hR F m hF hnd Q hQ
  obtain ⟨_, hrunD⟩ := qeO hrunD
  obtain ⟨hlen, hget⟩ := qhJ htr
  have hll : l.length = ops.size := by simpa using hlen
  have hne : l ≠ [] := fun h => by subst h; simp [qmT] at hlast
  have hpos : 0 < l.length := by cases l with | nil => exact (hne rfl).elim | cons _ _ => simp
  obtain ⟨z, hz⟩ : ∃ z, l.length = z + 1 := ⟨l.length - 1, by omega⟩
  rw [hz, Nat.add_sub_cancel] at hrunD hrunL
  have hzs : ops.size = z + 1 := by rw [← hll, hz]
  have hbefz : ∀ j, j < z → ((Go.Region.before ops).getD z 0).testBit j = true := by
    simp only [qmT, qEn, List.all_eq_true, hz, Nat.add_sub_cancel] at hlast
    exact fun j hj => hlast.2 j (by simpa using hj)
  refine Go.wpIn_region_any hm ?_
  have hall : ∀ i, i < ops.size → (Array.replicate ops.size false).getD i true = false := fun i hi => by simp [hi]
  have hrem : rem ops.size (Array.replicate ops.size false) = List.range z ++ [z] := by
    have hrs : List.range z ++ [z] = List.range ops.size := by rw [hzs, List.range_succ]
    unfold rem
    rw [hrs, List.filter_eq_self]
    intro i hi
    rw [hall i (by simpa using hi)]; rfl
  have hsm : SameMem w { w with drawn := w.drawn + 1 } := ⟨rfl, rfl, rfl⟩
  have hfront : (l.zipIdx.map fun (o, i) => (o, qcW ops l o i, qf3 ops l i)).take z = (List.range z).map (qdK ops l) := by
    rw [qrc, hz, List.range_succ, List.map_append]
    exact List.take_left' (by simp)
  rw [hfront] at hrunD
  have key := qqJ hcs hlo hF (m := m) htr hlex hord hdst (qqI hnd) [z] (fun y hy j hj => by
      rw [List.mem_singleton] at hy; subst hy; exact hbefz j hj) z (List.range z) (Array.replicate ops.size false) (by simp) hrem (by simp) (fun x hx => by
      exfalso
      simp only [Array.getD_eq_getD_getElem?] at hx
      by_cases hlt : x < ops.size
      · simp [hlt] at hx
      · rw [Array.getElem?_eq_none (by simp; omega)] at hx; simp at hx) st st1 g { w with drawn := w.drawn + 1 } β a hnt hrunD (hR.sameMem hsm) Q (fun listed' a' w' st2 hs2 hr2 hc2 he hg => by
    obtain ⟨⟨g1, β1, hR1, hE1, hd1⟩, hs1, hq1⟩ := hg
    have hR1' : Rel M g1 w' β1 st1 a'.tmps := ⟨by rw [← he.H]; exact hR1.n, fun k => by rw [← he.e k]; exact hR1.e k, fun id o ho => hR1.h id o (by rw [he.H]; exact ho), hR1.fresh, hR1.gl⟩
    have fin : ∀ {x : Exit} {a2 : Act} {w2 : World}, Post True M g1 w' a' e st' x a2 w2 → Q x a2 w2 := fun h =>
      hQ _ _ _ ((h.trans hE1 hs1 hd1 (fun _ => hq1 trivial) id).trans (hsm.evo g) rfl .refl (fun _ => rfl) id)
    refine ⟨fun hr => ?_, fun i hi => ?_⟩
    · have := qoD hlex hs2 hr
      rw [hr2] at this; cases this
    · rw [Go.mem_ready] at hi
      obtain ⟨h1, o, ho, _⟩ := hi
      have him : i ∈ rem ops.size listed' := qc8.2 ⟨(Array.getElem?_eq_some_iff.1 ho).1, h1⟩
      rw [hr2, List.mem_singleton] at him
      subst him
      obtain ⟨q, hq1', hq2, hq3, hq4⟩ := hget i o (by simpa using ho)
      have hdrop : l.drop i = [q] := by
        have hlt : i < l.length := by omega
        rw [List.drop_eq_getElem_cons hlt, List.drop_eq_nil_of_le (by omega)]
        have : l[i]? = some q := by first | exact hq1' | simpa using hq1'
        rw [List.getElem?_eq_getElem hlt] at this
        simpa using this
      rw [hdrop] at hrunL
      have hd : zu o a' := fun n hn => by
        rw [hs1]
        exact Nat.lt_of_lt_of_le (hdst o (by
          have := Array.mem_of_getElem? ho
          simpa using this) n hn) hnt
      have hend : rem ops.size (listed'.setIfInBounds i true) = [] := by
        have := qqx (pre := []) (post := []) hs2 (by simpa using hr2)
        simpa using this
      unfold Go.wpOpIn
      simp only [ho]
      simp only [ze] at hrunL
      split at hrunL
      · rename_i hw
        rw [qci hR1' hq3 hw]
        simp only [if_true]
        refine qil hF (qqI hnd o (by
          have := Array.mem_of_getElem? ho
          simpa using this)) ?_
        split at hrunL
        · rename_i r hr
          have hq5 := hr
          rw [hq4] at hq5
          have hq6 := qe0 hq5
          rw [← hq4] at hq6
          refine qqu hcs hd hR1' hq6 (fun hloc hn => ?_) hr ⟨fun hp c w1 g2 β2 hR2 hE2 => ?_, fun hp cv w1 g2 β2 hR2 hE2 hv => ?_⟩
          · rw [hn] at hloc; simp at hloc
          · simp only [hp, cond_false, Option.some.injEq, Prod.mk.injEq] at hrunL
            obtain ⟨rfl, rfl⟩ := hrunL
            refine ⟨qjo hend, fin (show Post True M g1 w' a' .nrm _ .normal _ w1 from ⟨⟨g2, β2, ?_, hE2, qfB _ _ _⟩, qad _ _ _, fun _ => yV _ _ _⟩)⟩
            rw [hq2]
            exact hR2
          · simp only [hp, cond_true, Option.some.injEq, Prod.mk.injEq] at hrunL
            obtain ⟨rfl, rfl⟩ := hrunL
            exact fin (show Post True M g1 w' a' (.pan r.v) r.st (.panic _) a' w1 from ⟨⟨g2, cv, β2, rfl, hR2, hE2, hv, .refl⟩, rfl, fun _ => rfl⟩)
        · cases hrunL
      · rename_i hw
        rw [qci hR1' hq3 hw]
        simp only [qEl, if_false]
        simp only [Option.some.injEq, Prod.mk.injEq] at hrunL
        obtain ⟨rfl, rfl⟩ := hrunL
        refine ⟨fun f _ => hF.fn f, qjo hend, fin (show Post True M g1 w' a' .nrm _ .normal _ w' from ⟨⟨g1, β1, ?_, Evo.refl g1 w', qfB _ _ _⟩, qad _ _ _, fun _ => yV _ _ _⟩)⟩
        rw [hq2]
        exact qiI hR1' hd
      · cases hrunL)
  rw [show z + [z].length = ops.size by rw [hzs]; rfl] at key
  exact key
theorem sound {pg : Pg} (hm : P.follows .mixedOrders = true) (hT : Tab P M pg) (hx : y3 P M pg.ext) (hxlo : qae pg.ext) (n : Nat) : y3 P M (qc0 pg n) := by
  have key : ∀ n, qfE P M (exec pg n) := qo9 (fun n h => qf9 hT hx (qdy hxlo n) h (qhz n)) (fun n hcs => ⟨qqA hm hcs (qdo hxlo (qdy hxlo n)), qo5 hm hcs (qdo hxlo (qdy hxlo n))⟩) (fun n h => qol hT.2 h)
  exact qf9 hT hx (qdy hxlo n) (key n) (qhz n)
theorem qnV {pg : Pg} (hm : P.follows .mixedOrders = true) (hT : Tab P M pg) (hx : y3 P M pg.ext) (hxlo : qae pg.ext) {n i : Nat} {vs : List V} {H : List Obj} {r : Cr} (hcall : qc0 pg n i vs H = some r) {f' : FuncId} (hlook : look M.fm f' = some i) (hext : pg.fn i ≠ none)
    {g : Gh} {w : World} {argv : List Value} (hargs : ArgsRep M g w 0 vs argv) (hH : RelH M g w H) : Go.Calls P f' argv.toArray w (zW M g w r) := by
  have key : ∀ n, qfE P M (exec pg n) := qo9 (fun n h => qf9 hT hx (qdy hxlo n) h (qhz n)) (fun n hcs => ⟨qqA hm hcs (qdo hxlo (qdy hxlo n)), qo5 hm hcs (qdo hxlo (qdy hxlo n))⟩) (fun n h => qol hT.2 h)
  exact (qho hT (qdy hxlo n) (key n) (qhz n) hcall hlook hext hargs hH).1
end
end W

/-
  What the kernel works out of a call on closed data, as a fact about the call.
-/
set_option linter.unusedSimpArgs false
set_option linter.unusedVariables false
namespace W
open Go (IntKind BinOp UnOp)
mutual
def eqD : D → D → Bool
  | .b x, .b y => x == y
  | .i k x, .i k' y => eqK k k' && eqI x y
  | .s x, .s y => eqT x y
  | .nil, .nil => true
  | .sl x, .sl y => qpp x y
  | .agg x, .agg y => qpp x y
  | .np, .np => true
  | .nf, .nf => true
  | .ni, .ni => true
  | .nm, .nm => true
  | _, _ => false
def qpp : List D → List D → Bool
  | [], [] => true
  | x :: l, y :: r => eqD x y && qpp l r
  | _, _ => false
end
theorem qzP {k k' : IntKind} (h : eqK k k' = true) : k = k' := by cases k <;> cases k' <;> first | rfl | cases h
theorem qAA {x y : Int} (h : eqI x y = true) : x = y := by
  cases x <;> cases y <;> first | (have := qEE h; subst this; rfl) | cases h
theorem qub : ∀ {x y : List Nat}, eqT x y = true → x = y
  | [], [], _ => rfl
  | a :: x, b :: y, h => by
    simp only [eqT, qEn] at h
    rw [qEE h.1, qub h.2]
  | [], _ :: _, h => by cases h
  | _ :: _, [], h => by cases h
mutual
theorem qt5 : ∀ {x y : D}, eqD x y = true → x = y
  | .b x, y, h => by cases y <;> simp only [eqD] at h <;> first | cases h | skip; rw [eq_of_beq h]
  | .i k x, y, h => by
    cases y <;> simp only [eqD] at h <;> first | cases h | skip
    simp only [qEn] at h
    rw [qzP h.1, qAA h.2]
  | .s x, y, h => by cases y <;> simp only [eqD] at h <;> first | cases h | skip; rw [qub h]
  | .nil, y, h => by cases y <;> simp only [eqD] at h <;> first | rfl | (cases h; done) | (cases h; rfl)
  | .sl x, y, h => by cases y <;> simp only [eqD] at h <;> first | cases h | skip; rw [qno h]
  | .agg x, y, h => by cases y <;> simp only [eqD] at h <;> first | cases h | skip; rw [qno h]
  | .np, y, h => by cases y <;> simp only [eqD] at h <;> first | rfl | (cases h; done) | (cases h; rfl)
  | .nf, y, h => by cases y <;> simp only [eqD] at h <;> first | rfl | (cases h; done) | (cases h; rfl)
  | .ni, y, h => by cases y <;> simp only [eqD] at h <;> first | rfl | (cases h; done) | (cases h; rfl)
  | .nm, y, h => by cases y <;> simp only [eqD] at h <;> first | rfl | (cases h; done) | (cases h; rfl)
theorem qno : ∀ {x y : List D}, qpp x y = true → x = y
  | [], [], _ => rfl
  | a :: x, b :: y, h => by
    simp only [qpp, qEn] at h
    rw [qt5 h.1, qno h.2]
  | [], _ :: _, h => by simp [qpp] at h
  | _ :: _, [], h => by simp [qpp] at h
end
def isD (r : Option Cr) (x : D) : Bool := match r with
  | some ⟨false, true, .d y, _, _⟩ => eqD y x
  | _ => false
theorem qsD {pg : Pg} (hx : qae pg.ext) {f : Nat} {vs : List V} {H H' : List Obj} {v : V} {lo : Nat} (h : qn pg f vs H = some ⟨false, true, v, H', lo⟩) : qn pg f vs H = some ⟨false, true, v, H, lo⟩ := by
  obtain ⟨n, hn⟩ := qcy.1 h
  have hlo := (qdo hx (qdy hx n) _ _ _ _ hn).2.2 rfl
  simp only at hlo
  rw [hlo] at h
  exact h
theorem qlH {pg : Pg} (hx : qae pg.ext) {N f : Nat} {vs : List V} {H : List Obj} {x : D} (h : isD (qfD pg N f vs H) x = true) : ∃ lo, qn pg f vs H = some ⟨false, true, .d x, H, lo⟩ := by
  unfold isD at h
  split at h
  · rename_i y H' lo hr
    rw [qt5 h] at hr
    exact ⟨lo, qsD hx (qsO hr)⟩
  · cases h
end W

/- Where all below the heap's end is as it was. -/
set_option linter.unusedSimpArgs false
set_option linter.unusedVariables false
namespace W
open Go (World Value Addr IntKind Program TypeId FuncId Operand Act Oper Next Result Sem BinOp UnOp Ending Exit Code Func Calls)
open Go.RowKit (Below)
theorem qsw {M : Maps} {g : Gh} {w w' : World} {H : List Obj} (hH : RelH M g w H) (h : Below w.heap.size w w') : RelH M g w' H ∧ Evo g w g w' := by
  have hg : Grow g w g w' := ⟨h.size, fun _ => qEo _, fun b o ho => by
    have hb : b < w.heap.size := by
      rcases Nat.lt_or_ge b w.heap.size with h1 | h1
      · exact h1
      · rw [(hH.fresh b h1).2] at ho; omega
    simp only [World.cell?, h.block b hb]⟩
  have hk : ∀ ℓ, Kept g w g w' ℓ := fun ℓ => ⟨fun b hb => by
    have : b < w.heap.size := by
      rcases Nat.lt_or_ge b w.heap.size with h1 | h1
      · exact h1
      · rw [(hH.fresh b h1).1] at hb; cases hb
    exact ⟨hb, h.block b this, rfl⟩⟩
  exact ⟨⟨hH.n, fun id o ho => (hH.h id o ho).mono hg (qEo _) (fun _ _ => rfl) (by rw [hH.n]; exact (List.getElem?_eq_some_iff.1 ho).1) (hk _) (fun i => hk _), fun b hb => hH.fresh b (Nat.le_trans h.size hb), hH.gl.mono hg⟩,
    ⟨hg, qEo _, fun _ _ => rfl, fun b hb _ => ⟨rfl, h.block b hb, rfl⟩, h.os, h.output⟩⟩
end W

set_option linter.unusedSimpArgs false
set_option linter.unusedVariables false
namespace W
open Go (IntKind BinOp UnOp)
set_option maxRecDepth 20000
def ixN (c : Nat) : List Nat → Int
  | [] => -1
  | x :: l => bif qEr x c then 0 else (match ixN c l with | .ofNat n => .ofNat (n + 1) | .negSucc _ => -1)
def ixX (vs : List V) (H : List Obj) : Option Cr :=
  match vs with
  | [.d (.s t), .d (.i .u8 c)] => some ⟨false, true, .d (.i .i64 (ixN (c.toNat % 256) t)), H, H.length⟩
  | _ => none
def teX (vs : List V) (H : List Obj) : Option Cr :=
  match vs with
  | [.d (.s _), .d (.s t), .d (.i .i64 _), .d (.i .i64 _), .ifc 323 (.d (.i .i64 e))] => bif (eqI e 1 || eqI e 2) && Nat.ble t.length 1000000000000 then some ⟨false, true, .ifc 325 .undef, H, H.length⟩ else none
  | _ => none
def KW : List (List Nat) := [[65, 82, 82, 65, 89], [66, 69, 71, 73, 78], [66, 89], [67, 65, 83, 69], [67, 79, 78, 83, 84], [68, 73, 86], [68, 79], [69, 76, 83, 69], [69, 76, 83, 73, 70], [69, 78, 68], [70, 65, 76, 83, 69], [70, 79, 82], [73, 70], [73, 77, 80, 79, 82, 84], [73, 78], [73, 83], [77, 79, 68], [77, 79, 68, 85, 76, 69], [78, 73, 76], [79, 70], [79, 82], [80, 79, 73, 78, 84, 69, 82], [80, 82, 79, 67, 69, 68, 85, 82, 69], [82, 69, 67, 79, 82, 68], [82, 69, 80, 69, 65, 84], [82, 69, 84, 85, 82, 78], [84, 72, 69, 78], [84, 79], [84, 82, 85, 69], [84, 89, 80, 69], [85, 78, 84, 73, 76], [86, 65, 82], [87, 72, 73, 76, 69]]
def kwX (vs : List V) (H : List Obj) : Option Cr :=
  match vs with
  | [] => some ⟨false, true, .d (.sl (KW.map D.s)), H, H.length⟩
  | _ => none
def pgA : Pg := ⟨fun n => bif qEr n 257 then none else bif qEr n 304 then none else prog n, fun i vs H => bif qEr i 257 then ixX vs H else bif qEr i 304 then teX vs H else none⟩
def pg : Pg := ⟨fun n => bif qEr n 257 then none else bif qEr n 304 then none else bif qEr n 261 then none else prog n, fun i vs H => bif qEr i 257 then ixX vs H else bif qEr i 304 then teX vs H else bif qEr i 261 then kwX vs H else none⟩
theorem qiG {H : List Obj} {v : V} {r : Cr} (h : some (⟨false, true, v, H, H.length⟩ : Cr) = some r) : H.length ≤ r.H.length ∧ (∀ id, id < r.lo → id < H.length → r.H[id]? = H[id]?) ∧ (r.same = true → r.H = H) := by
  cases h
  exact ⟨qEo _, fun _ _ _ => rfl, fun _ => rfl⟩
theorem qpR {vs : List V} {H : List Obj} {r : Cr} (h : ixX vs H = some r) : H.length ≤ r.H.length ∧ (∀ id, id < r.lo → id < H.length → r.H[id]? = H[id]?) ∧ (r.same = true → r.H = H) := by
  unfold ixX at h
  split at h
  · exact qiG h
  · cases h
theorem qvj {vs : List V} {H : List Obj} {r : Cr} (h : teX vs H = some r) : H.length ≤ r.H.length ∧ (∀ id, id < r.lo → id < H.length → r.H[id]? = H[id]?) ∧ (r.same = true → r.H = H) := by
  unfold teX at h
  split at h
  · rw [qEt] at h
    split at h
    · exact qiG h
    · cases h
  · cases h
theorem qrg : qae pgA.ext := by
  intro i vs H r h
  simp only [pgA, qEt] at h
  split at h
  · exact qpR h
  · split at h
    · exact qvj h
    · cases h
theorem qnk : qae pg.ext := by
  intro i vs H r h
  simp only [pg, qEt] at h
  split at h
  · exact qpR h
  · split at h
    · exact qvj h
    · split at h
      · unfold kwX at h
        split at h
        · exact qiG h
        · cases h
      · cases h
theorem qz6 : isD (qfD pgA 3000 261 [] []) (.sl (KW.map D.s)) = true := by decide +kernel
theorem qqY {H : List Obj} : qn pg 261 [] H = some ⟨false, true, .d (.sl (KW.map D.s)), H, H.length⟩ := by
  rw [qdv]
  unfold zC
  rw [show pg.fn 261 = none from rfl]
  rfl
theorem qqD {t : List Nat} {c : Nat} (hc : c < 256) {H : List Obj} : qn pg 257 [.d (.s t), .d (.i .u8 c)] H = some ⟨false, true, .d (.i .i64 (ixN c t)), H, H.length⟩ := by
  have : (c : Int).toNat % 256 = c := by simp; omega
  rw [qdv]
  unfold zC
  rw [show pg.fn 257 = none from rfl]
  show ixX [.d (.s t), .d (.i .u8 c)] H = _
  rw [ixX, this]
theorem qxb {f t : List Nat} {b z e : Int} (he : e = 1 ∨ e = 2) (ht : t.length ≤ 1000000000000) {H : List Obj} : qn pg 304 [.d (.s f), .d (.s t), .d (.i .i64 b), .d (.i .i64 z), .ifc 323 (.d (.i .i64 e))] H = some ⟨false, true, .ifc 325 .undef, H, H.length⟩ := by
  rw [qdv]
  have h1 : Nat.ble t.length 1000000000000 = true := by simpa using ht
  unfold zC
  rw [show pg.fn 304 = none from rfl]
  show teX [.d (.s f), .d (.s t), .d (.i .i64 b), .d (.i .i64 z), .ifc 323 (.d (.i .i64 e))] H = _
  rcases he with rfl | rfl <;> simp only [teX, h1] <;> rfl
def pre (t l : List Nat) : Bool := decide (l.take t.length = t)
theorem qwq {l : List Nat} {n : Nat} (h : n ≤ l.length) : qgj (.d (.s l)) none (some (n : Int)) = some (.d (.s (l.take n))) := by
  rw [qlG (by simp) (by simp) (by simp; omega)]
  simp
theorem qxE {l : List Nat} {n : Nat} (h : n ≤ l.length) : qgj (.d (.s l)) (some (n : Int)) none = some (.d (.s (l.drop n))) := by
  rw [qlG (by simp) (by simp; omega) (by simp)]
  simp
theorem qut {l : List Nat} {a b : Nat} (h : a ≤ b) (h2 : b ≤ l.length) : qgj (.d (.s l)) (some (a : Int)) (some (b : Int)) = some (.d (.s ((l.take b).drop a))) := by
  rw [qlG (by simp) (by simp; omega) (by simp; omega)]
  simp
theorem qvN {l t : List Nat} {H : List Obj} : qn pg 299 [.d (.s l), .d (.s t)] H = some ⟨false, true, .d (.b (pre t l)), H, H.length⟩ := by
  rw [qg (fn := z6) rfl rfl]
  by_cases h : t.length ≤ l.length
  · have h1 : ((t.length : Int) ≤ (l.length : Int)) = True := by rw [eq_iff_iff]; simp; omega
    have h2 := qwq h
    simp only [z6, k_, o_, m_, e_, q_, qs, qEu, Nat.reduceAdd, qy, qA, qB, qo, qh, zt, qO, qP, kh, qf, qi, kZ, reduceCtorEq, qM, qL, qD, qC, qT, zz, qt, Nat.reduceEqDiff, qm, kq, qED, jD, h1, decide_true, kv, kE, kK, ↓reduceIte, qdr, qhe, qeC, qkP, qfQ, h2, yr, qU, kU, qX, qZ, qu, kC, jt, qx, qN, kp, qQ, qaP, jp, zg, pre]
    all_goals rfl
  · have h1 : ((t.length : Int) ≤ (l.length : Int)) = False := by rw [eq_iff_iff]; simp; omega
    have h2 : pre t l = false := by
      simp only [pre, decide_eq_false_iff_not]
      intro e
      have := congrArg List.length e
      simp at this
      omega
    simp only [z6, k_, o_, m_, e_, q_, qs, qEu, Nat.reduceAdd, qy, qA, qB, qo, qh, zt, qO, qP, kh, qf, qi, kZ, reduceCtorEq, qM, qL, qD, qC, qT, zz, qt, Nat.reduceEqDiff, qm, kq, qED, jD, h1, decide_false, kv, kE, kK, qEl, ↓reduceIte, ky, qU, q9, jA, qX, qZ, qu, kC, jt, qx, qN, kp, qQ, qaP, jp, zg, h2]
    all_goals rfl
theorem qxR {l t : List Nat} {H : List Obj} : qn pg 255 [.d (.s l), .d (.s t)] H = some ⟨false, true, .d (.b (pre t l)), H, H.length⟩ := by
  rw [qg (fn := qbo) rfl rfl]
  simp only [qbo, k_, o_, v_, c_, qs, qEu, Nat.reduceAdd, qy, qA, qB, qo, qh, zt, qO, qP, kh, qf, qi, jK, reduceCtorEq, qM, qL, zi, kA, Nat.reduceEqDiff, qE, qEs, qEA, qk, qQ, qr, qEv, kj, qvN, qF, ql, qq, Nat.min_self, qX, qZ, qu, kC, jt, qx, qN, kp, qaP, jp, zg]
  all_goals rfl
abbrev sc (s : List Nat) (a : Nat) : Obj := .cells [.d (.s s), .d (.i .i64 (a : Int))]
theorem qfj {s t : List Nat} {a id : Nat} {H : List Obj} (hH : H[id]? = some (sc s a)) (ha : a ≤ s.length) : qn pg 178 [.ptr id 0, .d (.s t)] H = some ⟨false, true, .d (.b (pre t (s.drop a))), H, H.length⟩ := by
  rw [qg (fn := qbS) rfl rfl]
  have h2 := qxE ha
  simp only [qbS, k_, o_, m_, a_, h_, v_, c_, qs, qEu, Nat.reduceAdd, qy, qA, qB, qo, qh, zt, qO, qP, kh, qf, qi, jq, zO, kZ, reduceCtorEq, qM, qL, qW, qC, zN, jE, zP, qG, qt, qp, zm, qEL, qH, ke, hH, kR, qEm, qEp, kF, yR, qEq, qdr, Nat.reduceEqDiff, qD, qeC, qkP, qhe, qfQ, h2, jK, zi, kA, qE, qEs, qEA, qk, qQ, qr, qEv, kj, qxR, qF, ql, qq, Nat.min_self, kQ, kM, qX, qZ, qu, kC, jt, qx, qN, kp, qaP, jp, zg]
  all_goals rfl
def cLt (c : Nat) : Bool := (decide (97 ≤ c) && decide (c ≤ 122)) || (decide (65 ≤ c) && decide (c ≤ 90))
def cDg (c : Nat) : Bool := decide (48 ≤ c) && decide (c ≤ 57)
def cHx (c : Nat) : Bool := cDg c || (decide (65 ≤ c) && decide (c ≤ 70))
def cNm (c : Nat) : Bool := cLt c || cDg c
def cTx (c : Nat) : Bool := decide (32 ≤ c) && !decide (c = 34)
theorem qjF {c : Nat} {H : List Obj} : qn pg 174 [.d (.i .u8 c)] H = some ⟨false, true, .d (.b (cLt c)), H, H.length⟩ := by
  rw [qg (fn := qej) rfl rfl]
  have e1 : ((97 : Int) ≤ (c : Int)) = (97 ≤ c) := by rw [eq_iff_iff]; omega
  have e2 : ((c : Int) ≤ 122) = (c ≤ 122) := by rw [eq_iff_iff]; omega
  have e3 : ((65 : Int) ≤ (c : Int)) = (65 ≤ c) := by rw [eq_iff_iff]; omega
  have e4 : ((c : Int) ≤ 90) = (c ≤ 90) := by rw [eq_iff_iff]; omega
  by_cases h1 : 97 ≤ c <;> by_cases h2 : c ≤ 122 <;> by_cases h3 : 65 ≤ c <;> by_cases h4 : c ≤ 90
  all_goals simp only [qej, k_, o_, m_, q_, qs, qEu, qy, qA, qB, qo, qh, zt, qO, qP, kh, qf, qi, kZ, reduceCtorEq, qM, qL, qD, qC, qm, kq, kL, qEy, jD, e1, h1, decide_true, qt, kv, kE, kK, ↓reduceIte, Nat.reduceEqDiff, ye, e2, h2, qU, kU, zx, qEG, qEl, ky, qhB, q9, qc3, qX, qZ, qu, kC, jt, qx, qN, kp, qQ, qaP, jp, zg, cLt, qEv, h3, h4, qED, decide_false, Bool.and_false, Bool.or_false, Bool.and_true, qEJ, e3, e4, jA]
  all_goals rfl
theorem qik {c : Nat} {H : List Obj} : qn pg 176 [.d (.i .u8 c)] H = some ⟨false, true, .d (.b (cDg c)), H, H.length⟩ := by
  rw [qg (fn := qeY) rfl rfl]
  have e1 : ((48 : Int) ≤ (c : Int)) = (48 ≤ c) := by rw [eq_iff_iff]; omega
  have e2 : ((c : Int) ≤ 57) = (c ≤ 57) := by rw [eq_iff_iff]; omega
  by_cases h1 : 48 ≤ c <;> by_cases h2 : c ≤ 57
  all_goals simp only [qeY, k_, o_, m_, q_, qs, qEu, qy, qA, qB, qo, qh, zt, qO, qP, kh, qf, qi, kZ, reduceCtorEq, qM, qL, qD, qC, qm, kq, kL, qEy, jD, e1, h1, decide_true, qt, kv, kE, kK, ↓reduceIte, Nat.reduceEqDiff, ye, e2, h2, qU, kU, qX, qZ, qu, kC, jt, qx, qN, kp, qQ, qaP, jp, zg, cDg, qEv, decide_false, Bool.and_false, qEl, ky, q9, jA, Bool.and_true]
  all_goals rfl
theorem qvE {c : Nat} {H : List Obj} : qn pg 262 [.d (.i .u8 c)] H = some ⟨false, true, .d (.b (cHx c)), H, H.length⟩ := by
  rw [qg (fn := qgs) rfl rfl]
  have e1 : ((65 : Int) ≤ (c : Int)) = (65 ≤ c) := by rw [eq_iff_iff]; omega
  have e2 : ((c : Int) ≤ 70) = (c ≤ 70) := by rw [eq_iff_iff]; omega
  have hd := qik (c := c) (H := H)
  cases hq : cDg c <;> rw [hq] at hd <;> by_cases h1 : 65 ≤ c <;> by_cases h2 : c ≤ 70
  all_goals simp only [qgs, k_, o_, m_, c_, v_, q_, qs, qEu, qy, qA, qB, qo, qh, zt, qO, qP, kh, qf, qi, kZ, reduceCtorEq, qM, qL, qD, qC, qE, qEs, qEA, qk, qQ, qr, qEv, kj, hd, qF, ql, qq, Nat.min_self, jK, zi, kA, kv, zx, qEJ, kK, ↓reduceIte, Nat.reduceEqDiff, qm, kq, kL, qEy, jD, e1, h1, decide_true, qt, kE, ye, e2, h2, qU, kU, qEl, qX, qZ, qu, kC, jt, qx, qN, kp, qaP, jp, zg, cHx, hq, decide_false, Bool.and_false, qED, ky, q9, jA, Bool.and_true, qEG, qhB, qc3, Bool.or_false]
  all_goals rfl
theorem qqf {c : Nat} {H : List Obj} : qn pg 260 [.d (.i .u8 c)] H = some ⟨false, true, .d (.b (cNm c)), H, H.length⟩ := by
  rw [qg (fn := qeV) rfl rfl]
  have hl := qjF (c := c) (H := H)
  have hd := qik (c := c) (H := H)
  cases hq : cDg c <;> rw [hq] at hd <;> cases hr : cLt c <;> rw [hr] at hl
  all_goals simp only [qeV, k_, o_, m_, c_, v_, q_, qs, qEu, qy, qA, qB, qo, qh, zt, qO, qP, kh, qf, qi, kZ, reduceCtorEq, qM, qL, qD, qC, qE, qEs, qEA, qk, qQ, qr, qEv, kj, hl, qF, ql, qq, Nat.min_self, jK, zi, kA, kv, zx, qEJ, kK, ↓reduceIte, Nat.reduceEqDiff, hd, qU, kU, qEl, qt, qX, qZ, qu, kC, jt, qx, qN, kp, qaP, jp, zg, cNm, hr, hq, qED, qEG, ky, q9, qc3, Bool.or_false, qEy]
  all_goals rfl
theorem qpI {c : Nat} {H : List Obj} : qn pg 264 [.d (.i .u8 c)] H = some ⟨false, true, .d (.b (cTx c)), H, H.length⟩ := by
  rw [qg (fn := qa1) rfl rfl]
  have e1 : ((32 : Int) ≤ (c : Int)) = (32 ≤ c) := by rw [eq_iff_iff]; omega
  have e2 : ((c : Int) = 34) = (c = 34) := by rw [eq_iff_iff]; omega
  by_cases h1 : 32 ≤ c <;> by_cases h2 : c = 34
  all_goals simp only [qa1, k_, o_, m_, q_, h2, Int.cast_ofNat_Int, qs, qEu, qy, qA, qB, qo, qh, zt, qO, qP, kh, qf, qi, kZ, reduceCtorEq, qM, qL, qD, qC, qm, kq, kL, qEy, jD, Int.reduceLE, decide_true, qt, kv, kE, kK, ↓reduceIte, Nat.reduceEqDiff, qqM, qEG, qU, kU, qX, qZ, qu, kC, jt, qx, qN, kp, qQ, qaP, jp, zg, cTx, Nat.reduceLeDiff, Bool.and_false, e1, h1, e2, decide_false, qEJ, qEv, qEl, ky, q9, jA, Bool.and_true]
  all_goals rfl
def run (P : Nat → Bool) : List Nat → Nat
  | [] => 0
  | c :: l => bif P c then run P l + 1 else 0
theorem qga (P : Nat → Bool) : ∀ l, run P l ≤ l.length
  | [] => qEo _
  | c :: l => by simp only [run]; cases P c <;> simp [qga P l]
theorem qdh {a e : Int} {H : List Obj} : qn pg 258 [.d (.i .i64 a), .d (.i .i64 e)] H = some ⟨true, true, .ifc 157 (.d (.agg [.i .i64 a, .i .i64 e])), H, H.length⟩ := by
  rw [qg (fn := qfz) rfl rfl]
  simp only [qfz, m_, o_, z_, qs, qEu, Nat.reduceAdd, qy, qB, qo, qh, kZ, qL, qD, qC, qP, kh, Nat.reduceEqDiff, qM, reduceCtorEq, ju, qEs, qEA, yZ, zF, jF, qEx, qEz, Nat.reduceLT, qbd, qEC, qEF, j1, j6, ji, yx, jk, zc, zG, qt, qb7, qdm, qEv, Nat.reduceLeDiff, qmB, List.take_zero, List.nil_append, List.drop_succ_cons, qEK, List.append_nil, qdj, qfV, qdC, qjV, qbv, qoj, qbp, qaI, qia, qrC, qmO, qaP, qkI, zg]
  all_goals rfl
theorem qht {s : List Nat} {a : Nat} (h : a < s.length) : s.drop a = s[a] :: s.drop (a + 1) := by simp
theorem qp3 {F : Nat} {P : Nat → Bool} (hF : ∀ c H, qn pg F [.d (.i .u8 ((c : Nat) : Int))] H = some ⟨false, true, .d (.b (P c)), H, H.length⟩) {s : List Nat} (hz : s.length ≤ 1000000000000) {id : Nat} {z : Int} :
    ∀ (k a : Nat) (H : List Obj), s.length - a = k → a ≤ s.length → H[id]? = some (sc s a) → ∀ lo, lo ≤ H.length → ∃ lo', min lo id ≤ lo' ∧ (run P (s.drop a) = 0 ∨ lo' ≤ id) ∧ lo' ≤ lo ∧ qa5 0 [0, 5] (qaq pg (.ptr id 0) (.fn F [] []) (.d (.i .i64 z)) H lo) = some (.nrm, ⟨[(0, .ptr id 0), (5, .d (.i .i64 z))], kn H id (sc s (a + run P (s.drop a))), lo'⟩) := by
  intro k
  induction k with
  | zero =>
    intro a H hk ha hH lo hlo
    obtain rfl : a = s.length := by omega
    have h1 : ((s.length : Int) < (s.length : Int)) = False := by simp
    have hr : run P (s.drop s.length) = 0 := by simp [run]
    refine ⟨lo, Nat.min_le_left _ _, .inl hr, qEo _, ?_⟩
    rw [qcm]
    simp only [yc, m_, o_, a_, h_, e_, q_, l_, g_, z_, zn, qf2, kg, qA, jq, zO, qh, kZ, qL, qW, qC, zN, jE, zP, qG, qt, qp, zm, qEu, qH, ke, hH, kR, qEq, qEm, qEp, kF, yR, reduceCtorEq, qM, qEL, qT, qD, zz, qm, kq, qED, Nat.reduceEqDiff, kS, h1, decide_false, kQ, qd8, kE, qfp, qEl, ↓reduceIte, ky, qU, q9, zt, jA, kM, qi, qJ, qS, qbr, yW, j0, qw, qz]
    rw [hr, qEL, yS hH]
    all_goals rfl
  | succ k ih =>
    intro a H hk ha hH lo hlo
    have h1 : ((a : Int) < (s.length : Int)) = True := by rw [eq_iff_iff]; simp; omega
    have hlt : a < s.length := by omega
    have hix : ixV (.d (.s s)) (.d (.i .i64 (a : Int))) = some (.d (.i .u8 ((s[a] : Nat) : Int))) := qoc (by omega) (by simp)
    have hw : wr .i64 ((a : Int) + 1) = ((a + 1 : Nat) : Int) := by rw [qcV (by omega) (by omega)]; omega
    have hf := hF s[a] H
    have hdr := qht hlt
    rw [qcm]
    have hm : min lo H.length = lo := by omega
    cases hp : P s[a] with
    | false =>
      rw [hp] at hf
      have hr : run P (s.drop a) = 0 := by rw [hdr]; simp [run, hp]
      refine ⟨lo, Nat.min_le_left _ _, .inl hr, qEo _, ?_⟩
      simp only [yc, m_, o_, a_, h_, e_, q_, l_, g_, z_, zn, qf2, kg, qA, jq, zO, qh, kZ, qL, qW, qC, zN, jE, zP, qG, qt, qp, zm, qEu, qH, ke, hH, kR, qEq, qEm, qEp, kF, yR, reduceCtorEq, qM, qEL, qT, qD, zz, qm, kq, qED, Nat.reduceEqDiff, kS, h1, decide_true, kQ, qd8, kE, qfp, ↓reduceIte, qiK, qnn, kO, hix, qE, qkc, qEs, qEA, qk, qQ, qr, qEv, qlr, hf, qF, ql, qq, hm, qU, zt, kU, kM, qi, qJ, qS, qEl, qbr, yW, j0, qw, qz]
      rw [hr, qEL, yS hH]
      all_goals rfl
    | true =>
      rw [hp] at hf
      have hr : a + run P (s.drop a) = (a + 1) + run P (s.drop (a + 1)) := by rw [hdr]; simp only [run, hp, cond_true]; omega
      have hid : id < H.length := (List.getElem?_eq_some_iff.1 hH).1
      have hH2 : (kn H id (sc s (a + 1)))[id]? = some (sc s (a + 1)) := jx hH
      obtain ⟨lo', g1, g2, g3, ih'⟩ := ih (a + 1) (kn H id (sc s (a + 1))) (by omega) (by omega) hH2 (min lo id) (by simp only [kz]; omega)
      rw [hr]
      rw [jX] at ih'
      refine ⟨lo', by omega, .inr (by omega), by omega, ?_⟩
      simp only [yc, m_, o_, a_, h_, e_, q_, l_, g_, z_, zn, qf2, kg, qA, jq, zO, qh, kZ, qL, qW, qC, zN, jE, zP, qG, qt, qp, zm, qEu, qH, ke, hH, kR, qEq, qEm, qEp, kF, yR, reduceCtorEq, qM, qEL, qT, qD, zz, qm, kq, qED, Nat.reduceEqDiff, kS, h1, decide_true, kQ, qd8, kE, qfp, ↓reduceIte, qiK, qnn, kO, hix, qE, qkc, qEs, qEA, qk, qQ, qr, qEv, qlr, hf, qF, ql, qq, hm, qU, zt, kU, kM, qi, qJ, qS, qY, qK, qB, qo, qP, kY, kh, kL, qEy, jr, hw, kB, jP, yZ, zF, qEx, qEz, kI, jF, zl, kV, Nat.reduceAdd, Nat.reduceLT, zf, qEF, qEC, kT, zM, qf, kc, qw, qz, qcp]
      exact ih'
theorem qig {F : Nat} {P : Nat → Bool} (hF : ∀ c H, qn pg F [.d (.i .u8 ((c : Nat) : Int))] H = some ⟨false, true, .d (.b (P c)), H, H.length⟩) {s : List Nat} (hz : s.length ≤ 1000000000000) {id a : Nat} {H : List Obj} (ha : a ≤ s.length) (hH : H[id]? = some (sc s a)) :
    ∃ sm lo, id ≤ lo ∧ lo ≤ H.length ∧ (run P (s.drop a) = 0 ∨ lo ≤ id) ∧ qn pg 259 [.ptr id 0, .fn F [] []] H = some ⟨false, sm, .d (.s ((s.drop a).take (run P (s.drop a)))), kn H id (sc s (a + run P (s.drop a))), lo⟩ := by
  have hid : id < H.length := (List.getElem?_eq_some_iff.1 hH).1
  obtain ⟨lo, g1, g2, g3, hl⟩ := qp3 hF hz (z := (a : Int)) (s.length - a) a H rfl ha hH H.length (qEo _)
  have hle := qga P (s.drop a)
  simp only [List.length_drop] at hle
  have hH2 : (kn H id (sc s (a + run P (s.drop a))))[id]? = some (sc s (a + run P (s.drop a))) := jx hH
  have hm := qut (l := s) (a := a) (b := a + run P (s.drop a)) (by omega) (by omega)
  have hmm : (s.take (a + run P (s.drop a))).drop a = (s.drop a).take (run P (s.drop a)) := by
    rw [List.drop_take]; congr 1; omega
  rw [hmm] at hm
  rw [qg (fn := qbb) rfl rfl]
  have hlv := fun (e : Env) => qfi (pan := false) (v := .d (.s ((s.drop a).take (run P (s.drop a))))) (e := e) (lo := lo) (o := sc s (a + run P (s.drop a))) rfl rfl (fun _ => rfl) (by
    rcases g2 with h | h
    · left; rw [h, qEL]; exact yS hH
    · right; exact h) hid
  simp only [qbb, k_, o_, m_, a_, h_, qs, qEu, Nat.reduceAdd, qy, qA, qB, qo, qh, zt, qO, qP, kh, qf, qi, kZ, reduceCtorEq, qM, qL, qW, qC, kY, qG, qt, qp, zm, qH, ke, hH, kR, qEq, qEm, qEp, kF, qD, qK, qcp, zn, Nat.reduceEqDiff, qf2, kg]
  rw [hl]
  simp only [qdi, m_, o_, a_, h_, qi, qA, jq, zO, qh, kZ, qL, qW, qC, zN, jE, zP, qG, qt, qp, zm, qEL, qH, ke, hH2, kR, qEm, qEp, kF, yR, Nat.reduceEqDiff, qM, reduceCtorEq, qD, qEu, qEq, qdr, qeC, qkP, qfQ, hm, kQ, kM, qX, qZ, qu, kC, jt, qx, qN, kp]
  obtain ⟨sm, h⟩ := hlv _
  exact ⟨sm, lo, by omega, by omega, g2, h⟩
end W

set_option linter.unusedSimpArgs false
set_option linter.unusedVariables false
namespace W
open Go (IntKind BinOp UnOp)
set_option maxRecDepth 20000
def blk (c : Nat) : Bool := decide (c = 9) || decide (c = 10) || decide (c = 13) || decide (c = 32)
theorem qyB {c : Nat} (hc : c < 256) : ((0 : Int) ≤ ixN c [9, 10, 13, 32]) = (blk c = true) := by
  have h : ∀ c : Fin 256, decide ((0 : Int) ≤ ixN c [9, 10, 13, 32]) = blk c := by decide +kernel
  have := h ⟨c, hc⟩
  simp only at this
  rw [← this]; simp
def sk (deep frm a : Nat) : List Nat → Bool × Nat
  | [] => if deep = 0 then (true, a) else (false, frm)
  | [c] => if deep = 0 then (if blk c then (true, a + 1) else (true, a)) else (false, frm)
  | c :: d :: l =>
    if c = 40 ∧ d = 42 then sk (deep + 1) (if deep = 0 then a else frm) (a + 2) l
    else if 0 < deep ∧ c = 42 ∧ d = 41 then sk (deep - 1) frm (a + 2) l
    else if 0 < deep ∨ blk c = true then sk deep frm (a + 1) (d :: l)
    else (true, a)
theorem qkV {s : List Nat} {a c : Nat} {l : List Nat} (h : s.drop a = c :: l) : s[a]? = some c ∧ s.drop (a + 1) = l ∧ a < s.length := by
  have hl : a < s.length := by
    rcases Nat.lt_or_ge a s.length with h1 | h1
    · exact h1
    · rw [List.drop_eq_nil_of_le h1] at h; cases h
  rw [qht hl] at h
  injection h with h1 h2
  exact ⟨by rw [← h1]; simp, h2, hl⟩
def SkRes (id : Nat) (s : List Nat) (a : Nat) (H : List Obj) (lo : Nat) (r : Bool × Nat) (X : Option (Ex × St)) : Prop :=
  match r with
  | (true, a') => ∃ x e lo', (x = .nrm ∨ x = .ret) ∧ min lo id ≤ lo' ∧ (a' = a ∨ lo' ≤ id) ∧ lo' ≤ lo ∧ X = some (x, ⟨e, kn H id (sc s a'), lo'⟩)
  | (false, p) => ∃ e lo' a', min lo id ≤ lo' ∧ lo' ≤ lo ∧ (a' = a ∨ lo' ≤ id) ∧ X = some (.pan (.ifc 157 (.d (.agg [.i .i64 (p : Nat), .i .i64 30]))), ⟨e, kn H id (sc s a'), lo'⟩)
theorem SkRes.step {id : Nat} {s : List Nat} {a a2 : Nat} {H : List Obj} {lo : Nat} {r : Bool × Nat} {X : Option (Ex × St)} (h : SkRes id s a2 (kn H id (sc s a2)) (min lo id) r X) : SkRes id s a H lo r X := by
  obtain ⟨b, p⟩ := r
  cases b with
  | true =>
    obtain ⟨x, e, lo', h1, h2, h3, h4, h5⟩ := h
    rw [jX] at h5
    exact ⟨x, e, lo', h1, by omega, .inr (by omega), by omega, h5⟩
  | false =>
    obtain ⟨e, lo', a', h1, h2, h3, h5⟩ := h
    rw [jX] at h5
    exact ⟨e, lo', a', by omega, by omega, .inr (by omega), h5⟩
theorem SkRes.stay {id : Nat} {s : List Nat} {a : Nat} {H : List Obj} {lo : Nat} {X : Option (Ex × St)} (hH : H[id]? = some (sc s a)) (h : ∃ x e, (x = .nrm ∨ x = .ret) ∧ X = some (x, ⟨e, H, lo⟩)) : SkRes id s a H lo (true, a) X := by
  obtain ⟨x, e, hx, h⟩ := h
  exact ⟨x, e, lo, hx, Nat.min_le_left _ _, .inl rfl, qEo _, by rw [yS hH]; exact h⟩
theorem SkRes.bad {id p : Nat} {s : List Nat} {a : Nat} {H : List Obj} {lo : Nat} {X : Option (Ex × St)} (hH : H[id]? = some (sc s a)) (h : ∃ e, X = some (.pan (.ifc 157 (.d (.agg [.i .i64 (p : Nat), .i .i64 30]))), ⟨e, H, lo⟩)) : SkRes id s a H lo (false, p) X := by
  obtain ⟨e, h⟩ := h
  exact ⟨e, lo, a, Nat.min_le_left _ _, qEo _, .inl rfl, by rw [yS hH]; exact h⟩
theorem qxQ {x y c d : Nat} {l : List Nat} : pre [x, y] (c :: d :: l) = (decide (c = x ∧ d = y)) := by simp [pre]
theorem qx1 {x y c : Nat} : pre [x, y] [c] = false := by simp [pre]
theorem qsv {s : List Nat} (hs : ∀ c ∈ s, c < 256) (hz : s.length ≤ 1000000000000) {id : Nat} :
    ∀ (k a deep frm : Nat) (H : List Obj) (lo : Nat), s.length - a ≤ k → a ≤ s.length → deep ≤ a → H[id]? = some (sc s a) → lo ≤ H.length →
      SkRes id s a H lo (sk deep frm a (s.drop a)) (qbm pg (qa5 0 [2, 3] (jz pg (.ptr id 0) (.d (.i .i64 (frm : Nat))) (.d (.i .i64 (deep : Nat))) H lo)) jC) := by
  have endc : ∀ (deep frm : Nat) (H : List Obj) (lo : Nat), H[id]? = some (sc s s.length) → lo ≤ H.length →
      SkRes id s s.length H lo (if deep = 0 then (true, s.length) else (false, frm)) (qbm pg (qa5 0 [2, 3] (jz pg (.ptr id 0) (.d (.i .i64 (frm : Nat))) (.d (.i .i64 (deep : Nat))) H lo)) jC) := by
    intro deep frm H lo hH hlo
    have h1 : ((s.length : Int) < (s.length : Int)) = False := by simp
    have hm : min lo H.length = lo := by omega
    have hsf := yS hH
    rw [jV]
    by_cases hd : deep = 0
    · subst hd
      have h2 : ((0 : Int) < ((0 : Nat) : Int)) = False := by simp
      rw [if_pos rfl]
      refine .stay hH ⟨.nrm, ?_⟩
      simp only [reduceCtorEq, zr, m_, o_, a_, h_, e_, k_, v_, g_, z_, l_, q_, i_, zn, kg, Int.cast_ofNat_Int, qA, jq, zO, qh, kZ, qL, qW, qC, zN, jE, zP, qG, qt, qp, zm, qEu, qH, ke, hH, kR, qEq, qEm, qEp, kF, yR, qM, qEL, qT, qD, zz, qm, kq, qED, Nat.reduceEqDiff, kS, h1, decide_false, kQ, kM, qi, qJ, qS, qEl, ↓reduceIte, qbr, yW, j0, qw, qz, jC, c_, qB, qo, qP, kh, kL, qEy, zt, zU, Int.reduceLT, qf, qY]
      exact ⟨_, by simp, rfl⟩
    · have h2 : ((0 : Int) < ((deep : Nat) : Int)) = True := by rw [eq_iff_iff]; simp; omega
      rw [if_neg hd]
      refine .bad hH ?_
      simp only [zr, m_, o_, a_, h_, e_, k_, v_, g_, z_, l_, q_, i_, zn, kg, qA, jq, zO, qh, kZ, qL, qW, qC, zN, jE, zP, qG, qt, qp, zm, qEu, qH, ke, hH, kR, qEq, qEm, qEp, kF, yR, reduceCtorEq, qM, qEL, qT, qD, zz, qm, kq, qED, Nat.reduceEqDiff, kS, h1, decide_false, kQ, kM, qi, qJ, qS, qEl, ↓reduceIte, qbr, yW, j0, qw, qz, jC, c_, qB, qo, qP, kh, kL, qEy, zt, zU, h2, decide_true, qf, jK, zi, kA, qE, qEs, qEA, qk, qQ, qr, qEv, kj, qdh, qF, ql, qO, qq, hm, qbp]
      exact ⟨_, rfl⟩
  intro k
  induction k with
  | zero =>
    intro a deep frm H lo hk ha hda hH hlo
    obtain rfl : a = s.length := by omega
    rw [List.drop_length]
    exact endc deep frm H lo hH hlo
  | succ k ih =>
    intro a deep frm H lo hk ha hda hH hlo
    have hm : min lo H.length = lo := by omega
    have hid : id < H.length := (List.getElem?_eq_some_iff.1 hH).1
    match hL : s.drop a with
    | [] =>
      have : s.length ≤ a := by simpa using hL
      obtain rfl : a = s.length := by omega
      exact endc deep frm H lo hH hlo
    | c :: L =>
      obtain ⟨hget, hdr, hlt⟩ := qkV hL
      have h1 : ((a : Int) < (s.length : Int)) = True := by rw [eq_iff_iff]; simp; omega
      have hix : ixV (.d (.s s)) (.d (.i .i64 (a : Int))) = some (.d (.i .u8 ((c : Nat) : Int))) := qoc (by omega) (by simpa using hget)
      have hw1 : wr .i64 ((a : Int) + 1) = ((a + 1 : Nat) : Int) := by rw [qcV (by omega) (by omega)]; omega
      have hw2 : wr .i64 ((a : Int) + 2) = ((a + 2 : Nat) : Int) := by rw [qcV (by omega) (by omega)]; omega
      have hd1 : wr .i64 ((deep : Int) + 1) = ((deep + 1 : Nat) : Int) := by rw [qcV (by omega) (by omega)]; omega
      have hc : c < 256 := hs c (List.mem_of_getElem? hget)
      have hh1 := qfj (t := [40, 42]) hH (by omega)
      have hh2 := qfj (t := [42, 41]) hH (by omega)
      have hi := fun (t : List Nat) => qqD (t := t) hc (H := H)
      have hb := qyB hc
      rw [hL] at hh1 hh2
      -- one byte further
      have go1 : ∀ (h0 : (0 < deep ∨ blk c = true)) (p1 : pre [40, 42] (c :: L) = false) (p2 : 0 < deep → pre [42, 41] (c :: L) = false),
          SkRes id s a H lo (sk deep frm (a + 1) L) (qbm pg (qa5 0 [2, 3] (jz pg (.ptr id 0) (.d (.i .i64 (frm : Nat))) (.d (.i .i64 (deep : Nat))) H lo)) jC) := by
        intro h0 p1 p2
        have hH2 : (kn H id (sc s (a + 1)))[id]? = some (sc s (a + 1)) := jx hH
        have ih' := ih (a + 1) deep frm (kn H id (sc s (a + 1))) (min lo id) (by omega) (by omega) (by omega) hH2 (by simp only [kz]; omega)
        rw [hdr] at ih'
        refine SkRes.step (a2 := a + 1) ?_
        rw [jV]
        rw [p1] at hh1
        by_cases hd : deep = 0
        · subst hd
          have h2 : ((0 : Int) < ((0 : Nat) : Int)) = False := by simp
          have hbk : ((0 : Int) ≤ ixN c [9, 10, 13, 32]) = True := by rw [hb]; exact eq_true (h0.resolve_left (by omega))
          simp only [zr, m_, o_, a_, h_, e_, k_, v_, g_, z_, l_, q_, i_, zn, kg, Int.cast_ofNat_Int, qA, jq, zO, qh, kZ, qL, qW, qC, zN, jE, zP, qG, qt, qp, zm, qEu, qH, ke, hH, kR, qEq, qEm, qEp, kF, yR, reduceCtorEq, qM, qEL, qT, qD, zz, qm, kq, qED, Nat.reduceEqDiff, kS, h1, decide_true, kQ, kM, qi, qJ, qS, ↓reduceIte, qY, qK, qB, qo, qP, kY, qE, qEs, zt, qEA, qk, ku, qQ, qr, qEv, kj, hh1, qF, ql, qO, qq, hm, kh, jK, zi, kA, qf, qEl, kL, qEy, zU, Int.reduceLT, decide_false, kv, kE, kK, ky, qU, q9, jA, qd8, zx, qEJ, qfp, kO, hix, hi, jD, hbk, kU, jr, hw1, kB, jP, yZ, zF, qEx, qEz, kI, jF, zl, kV, Nat.reduceAdd, Nat.reduceLT, zf, qEF, qEC, kT, zM, kc, qw, qz, zX]
          exact ih'
        · have h2 : ((0 : Int) < ((deep : Nat) : Int)) = True := by rw [eq_iff_iff]; simp; omega
          rw [p2 (by omega)] at hh2
          simp only [zr, m_, o_, a_, h_, e_, k_, v_, g_, z_, l_, q_, i_, zn, kg, qA, jq, zO, qh, kZ, qL, qW, qC, zN, jE, zP, qG, qt, qp, zm, qEu, qH, ke, hH, kR, qEq, qEm, qEp, kF, yR, reduceCtorEq, qM, qEL, qT, qD, zz, qm, kq, qED, Nat.reduceEqDiff, kS, h1, decide_true, kQ, kM, qi, qJ, qS, ↓reduceIte, qY, qK, qB, qo, qP, kY, qE, qEs, zt, qEA, qk, ku, qQ, qr, qEv, kj, hh1, qF, ql, qO, qq, hm, kh, jK, zi, kA, qf, qEl, kL, qEy, zU, h2, kv, kE, kK, hh2, qU, kU, qd8, zx, qEG, qfp, ky, q9, qc3, jr, hw1, kB, jP, yZ, zF, qEx, qEz, kI, jF, zl, kV, Nat.reduceAdd, Nat.reduceLT, zf, qEF, qEC, kT, zM, kc, qw, qz, zX]
          exact ih'
      -- no further
      have stop : ∀ (h0 : deep = 0) (hbk : blk c = false) (p1 : pre [40, 42] (c :: L) = false),
          SkRes id s a H lo (true, a) (qbm pg (qa5 0 [2, 3] (jz pg (.ptr id 0) (.d (.i .i64 (frm : Nat))) (.d (.i .i64 (deep : Nat))) H lo)) jC) := by
        intro h0 hbk p1
        subst h0
        have h2 : ((0 : Int) < ((0 : Nat) : Int)) = False := by simp
        have hbk : ((0 : Int) ≤ ixN c [9, 10, 13, 32]) = False := by rw [hb, hbk]; simp
        rw [p1] at hh1
        rw [jV]
        refine .stay hH ⟨.ret, ?_⟩
        simp only [reduceCtorEq, zr, m_, o_, a_, h_, e_, k_, v_, g_, z_, l_, q_, i_, zn, kg, Int.cast_ofNat_Int, qA, jq, zO, qh, kZ, qL, qW, qC, zN, jE, zP, qG, qt, qp, zm, qEu, qH, ke, hH, kR, qEq, qEm, qEp, kF, yR, qM, qEL, qT, qD, zz, qm, kq, qED, Nat.reduceEqDiff, kS, h1, decide_true, kQ, kM, qi, qJ, qS, ↓reduceIte, qY, qK, qB, qo, qP, kY, qE, qEs, zt, qEA, qk, ku, qQ, qr, qEv, kj, hh1, qF, ql, qO, qq, hm, kh, jK, zi, kA, qf, qEl, kL, qEy, zU, Int.reduceLT, decide_false, kv, kE, kK, ky, qU, q9, jA, qd8, zx, qEJ, qfp, kO, hix, hi, jD, hbk, kU, qX, zH, zo]
        exact ⟨_, by simp, rfl⟩
      match L, hdr, hh1, hh2 with
      | [], hdr, hh1, hh2 =>
        have p1 : pre [40, 42] [c] = false := qx1
        have p2 : pre [42, 41] [c] = false := qx1
        by_cases hd : deep = 0
        · cases hbk : blk c with
          | true => 
            have := go1 (.inr hbk) p1 (fun _ => p2)
            simpa [sk, hd, hbk] using this
          | false =>
            have := stop hd hbk p1
            simpa [sk, hd, hbk] using this
        · have := go1 (.inl (by omega)) p1 (fun _ => p2)
          simpa [sk, hd] using this
      | d :: l, hdr, hh1, hh2 =>
        obtain ⟨_, hdr2, hlt2⟩ := qkV hdr
        have hH2 : (kn H id (sc s (a + 2)))[id]? = some (sc s (a + 2)) := jx hH
        by_cases c1 : c = 40 ∧ d = 42
        · have ih' := ih (a + 2) (deep + 1) (if deep = 0 then a else frm) (kn H id (sc s (a + 2))) (min lo id) (by omega) (by omega) (by omega) hH2 (by simp only [kz]; omega)
          rw [hdr2] at ih'
          have p1 : pre [40, 42] (c :: d :: l) = true := by rw [qxQ]; simpa using c1
          rw [p1] at hh1
          refine SkRes.step (a2 := a + 2) ?_
          rw [jV, sk, if_pos c1]
          by_cases hd : deep = 0
          · have h2 : (((deep : Nat) : Int) = 0) = True := by rw [eq_iff_iff]; simp; omega
            rw [if_pos hd] at ih' ⊢
            simp only [zr, m_, o_, a_, h_, e_, k_, v_, g_, z_, l_, q_, i_, zn, kg, qA, jq, zO, qh, kZ, qL, qW, qC, zN, jE, zP, qG, qt, qp, zm, qEu, qH, ke, hH, kR, qEq, qEm, qEp, kF, yR, reduceCtorEq, qM, qEL, qT, qD, zz, qm, kq, qED, Nat.reduceEqDiff, kS, h1, decide_true, kQ, kM, qi, qJ, qS, ↓reduceIte, qY, qK, qB, qo, qP, kY, qE, qEs, zt, qEA, qk, ku, qQ, qr, qEv, kj, hh1, qF, ql, qO, qq, hm, kh, jK, zi, kA, qf, kL, qEy, jm, h2, jr, hd1, hw2, kB, jP, yZ, zF, qEx, qEz, kI, jF, zl, kV, Nat.reduceAdd, Nat.reduceLT, zf, qEF, qEC, kT, zM, kc, qw, qz, zX]
            exact ih'
          · have h2 : (((deep : Nat) : Int) = 0) = False := by rw [eq_iff_iff]; simp; omega
            rw [if_neg hd] at ih' ⊢
            simp only [zr, m_, o_, a_, h_, e_, k_, v_, g_, z_, l_, q_, i_, zn, kg, qA, jq, zO, qh, kZ, qL, qW, qC, zN, jE, zP, qG, qt, qp, zm, qEu, qH, ke, hH, kR, qEq, qEm, qEp, kF, yR, reduceCtorEq, qM, qEL, qT, qD, zz, qm, kq, qED, Nat.reduceEqDiff, kS, h1, decide_true, kQ, kM, qi, qJ, qS, ↓reduceIte, qY, qK, qB, qo, qP, kY, qE, qEs, zt, qEA, qk, ku, qQ, qr, qEv, kj, hh1, qF, ql, qO, qq, hm, kh, jK, zi, kA, qf, kL, qEy, jm, h2, decide_false, qEl, jr, hd1, hw2, kB, jP, yZ, zF, qEx, qEz, kI, jF, zl, kV, Nat.reduceAdd, Nat.reduceLT, zf, qEF, qEC, kT, zM, kc, qw, qz, zX]
            exact ih'
        · have p1 : pre [40, 42] (c :: d :: l) = false := by rw [qxQ]; simpa using c1
          by_cases c2 : 0 < deep ∧ c = 42 ∧ d = 41
          · have ih' := ih (a + 2) (deep - 1) frm (kn H id (sc s (a + 2))) (min lo id) (by omega) (by omega) (by omega) hH2 (by simp only [kz]; omega)
            rw [hdr2] at ih'
            have hd2 : wr .i64 ((deep : Int) - 1) = ((deep - 1 : Nat) : Int) := by rw [qcV (by omega) (by omega)]; omega
            have p2 : pre [42, 41] (c :: d :: l) = true := by rw [qxQ]; simpa using c2.2
            have h2 : ((0 : Int) < ((deep : Nat) : Int)) = True := by rw [eq_iff_iff]; simp; omega
            rw [p1] at hh1
            rw [p2] at hh2
            refine SkRes.step (a2 := a + 2) ?_
            rw [jV, sk, if_neg c1, if_pos c2]
            simp only [zr, m_, o_, a_, h_, e_, k_, v_, g_, z_, l_, q_, i_, zn, kg, qA, jq, zO, qh, kZ, qL, qW, qC, zN, jE, zP, qG, qt, qp, zm, qEu, qH, ke, hH, kR, qEq, qEm, qEp, kF, yR, reduceCtorEq, qM, qEL, qT, qD, zz, qm, kq, qED, Nat.reduceEqDiff, kS, h1, decide_true, kQ, kM, qi, qJ, qS, ↓reduceIte, qY, qK, qB, qo, qP, kY, qE, qEs, zt, qEA, qk, ku, qQ, qr, qEv, kj, hh1, qF, ql, qO, qq, hm, kh, jK, zi, kA, qf, qEl, kL, qEy, zU, h2, kv, kE, kK, hh2, qU, kU, qc9, hd2, jr, hw2, kB, jP, yZ, zF, qEx, qEz, kI, jF, zl, kV, Nat.reduceAdd, Nat.reduceLT, zf, qEF, qEC, kT, zM, kc, qw, qz, zX]
            exact ih'
          · have p2 : 0 < deep → pre [42, 41] (c :: d :: l) = false := fun h => by
              rw [qxQ]; simp only [decide_eq_false_iff_not]; exact fun h' => c2 ⟨h, h'⟩
            rw [sk, if_neg c1, if_neg c2]
            by_cases c3 : 0 < deep ∨ blk c = true
            · rw [if_pos c3]
              exact go1 c3 p1 p2
            · rw [if_neg c3]
              exact stop (by omega) (by simpa using fun h => c3 (.inr h)) p1
theorem qsq {s : List Nat} (hs : ∀ c ∈ s, c < 256) (hz : s.length ≤ 1000000000000) {id a : Nat} {H : List Obj} (ha : a ≤ s.length) (hH : H[id]? = some (sc s a)) :
    match sk 0 a a (s.drop a) with
    | (true, a') => ∃ sm lo, id ≤ lo ∧ lo ≤ H.length ∧ (a' = a ∨ lo ≤ id) ∧ qn pg 173 [.ptr id 0] H = some ⟨false, sm, .tup [], kn H id (sc s a'), lo⟩
    | (false, p) => ∃ sm lo a', id ≤ lo ∧ lo ≤ H.length ∧ (a' = a ∨ lo ≤ id) ∧ qn pg 173 [.ptr id 0] H = some ⟨true, sm, .ifc 157 (.d (.agg [.i .i64 (p : Nat), .i .i64 30])), kn H id (sc s a'), lo⟩ := by
  have hid : id < H.length := (List.getElem?_eq_some_iff.1 hH).1
  have hl := qsv hs hz (s.length - a) a 0 a H H.length (qEo _) ha (by omega) hH (qEo _)
  rw [qg (fn := qat) rfl rfl]
  generalize hr : sk 0 a a (s.drop a) = r at hl
  obtain ⟨b, p⟩ := r
  have hz0 : ((0 : Nat) : Int) = 0 := rfl
  rw [hz0] at hl
  cases b with
  | true =>
    obtain ⟨x, e, lo', h1, h2, h3, h4, h5⟩ := hl
    obtain ⟨sm, hlv⟩ := qfi (pan := false) (v := .tup []) (e := e) (lo := lo') (o := sc s p) rfl rfl (fun _ => rfl) (by
      rcases h3 with h | h
      · left; rw [h]; exact yS hH
      · right; exact h) hid
    refine ⟨sm, lo', by omega, by omega, h3, ?_⟩
    simp only [qat, k_, m_, o_, a_, h_, i_, qs, qEu, qy, qA, qB, qo, qh, kZ, qL, qW, qC, qP, kY, qG, qt, qp, zm, qH, ke, hH, kR, qEq, qEm, qEp, kF, kh, qD, zt, qO, qf, qi, qK, zX, reduceCtorEq, qM, zn, Nat.reduceEqDiff, kg]
    rw [h5]
    rcases h1 with rfl | rfl
    · simp only [qhg, qx, qkv]; exact hlv
    · simp only [qZ, qx, qkv]; exact hlv
  | false =>
    obtain ⟨e, lo', a', h1, h2, h3, h5⟩ := hl
    obtain ⟨sm, hlv⟩ := qfi (pan := true) (v := .ifc 157 (.d (.agg [.i .i64 (p : Nat), .i .i64 30]))) (e := e) (lo := lo') (o := sc s a') rfl rfl (fun _ => rfl) (by
      rcases h3 with h | h
      · left; rw [h]; exact yS hH
      · right; exact h) hid
    refine ⟨sm, lo', a', by omega, by omega, h3, ?_⟩
    simp only [qat, k_, m_, o_, a_, h_, i_, qs, qEu, qy, qA, qB, qo, qh, kZ, qL, qW, qC, qP, kY, qG, qt, qp, zm, qH, ke, hH, kR, qEq, qEm, qEp, kF, kh, qD, zt, qO, qf, qi, qK, zX, reduceCtorEq, qM, zn, Nat.reduceEqDiff, kg]
    rw [h5]
    simp only [qaI]; exact hlv
end W

set_option linter.unusedSimpArgs false
set_option linter.unusedVariables false
namespace W
open Go (IntKind BinOp UnOp)
set_option maxRecDepth 20000
theorem qpV {L : List (List Nat)} {t : List Nat} (hz : L.length ≤ 1000000000000) {H : List Obj} :
    ∀ (k i : Nat), L.length - i = k → i ≤ L.length → (∀ j, j < i → L[j]? ≠ some t) →
      ∃ e x r, (x = .nrm ∨ x = .ret) ∧ (decide ((0 : Int) ≤ r) = decide (t ∈ L)) ∧ get 4 e = .d (.i .i64 r) ∧
        qbm pg (qa5 0 [] (jB pg (.d (slD D.s L)) (.d (.s t)) (.d (.i .i64 (L.length : Nat))) (.d (.i .i64 (i : Nat))) H H.length)) f_slices_Index___string_string__R1 = some (x, ⟨e, H, H.length⟩) := by
  intro k
  induction k with
  | zero =>
    intro i hk hi hno
    obtain rfl : i = L.length := by omega
    have h1 : ((L.length : Int) < (L.length : Int)) = False := by simp
    have hnm : t ∉ L := by
      intro h
      obtain ⟨j, hj⟩ := List.getElem?_of_mem h
      have : j < L.length := (List.getElem?_eq_some_iff.1 hj).1
      exact hno j this hj
    rw [qak]
    simp only [f_slices_Index___string_string__B0, k_, e_, m_, x_, h_, g_, kg, qA, qB, qo, qm, kq, qED, kZ, reduceCtorEq, qM, Nat.reduceEqDiff, qL, qD, kS, h1, decide_false, qt, qP, kh, qf, qi, qJ, qS, qEl, ↓reduceIte, qbr, yW, j0, qz, f_slices_Index___string_string__R1, o_, i_, Int.reduceNeg, qh, zt, qO, qX]
    exact ⟨_, _, -1, .inr rfl, by simp [hnm], rfl, rfl⟩
  | succ k ih =>
    intro i hk hi hno
    have h1 : ((i : Int) < (L.length : Int)) = True := by rw [eq_iff_iff]; simp; omega
    have hlt : i < L.length := by omega
    have hia : iaV (.d (slD D.s L)) (.d (.i .i64 (i : Int))) 1 none = some (.cp (.s L[i])) := qmU (fun _ => rfl) (by omega) (by simp)
    have hw : wr .i64 ((i : Int) + 1) = ((i + 1 : Nat) : Int) := by rw [qcV (by omega) (by omega)]; omega
    rw [qak]
    by_cases he : t = L[i]
    · have h2 : (t = L[i]) = True := by simp [he]
      simp only [f_slices_Index___string_string__B0, k_, e_, m_, x_, h_, g_, kg, qA, qB, qo, qm, kq, qED, kZ, reduceCtorEq, qM, Nat.reduceEqDiff, qL, qD, kS, h1, decide_true, qt, qP, kh, qf, qi, qJ, qS, ↓reduceIte, qY, qK, qh, qC, ko, hia, qaY, qH, jL, jQ, yr, h2, qX, zH, zo, f_slices_Index___string_string__R1, o_, i_, Int.reduceNeg]
      exact ⟨_, _, (i : Int), .inr rfl, by rw [he]; simp, rfl, rfl⟩
    · have h2 : (t = L[i]) = False := by simp [he]
      have ih' := ih (i + 1) (by omega) (by omega) (fun j hj => by
        rcases Nat.lt_or_ge j i with h | h
        · exact hno j h
        · obtain rfl : j = i := by omega
          rw [List.getElem?_eq_getElem hlt]
          intro h'; exact he (Option.some.inj h').symm)
      simp only [f_slices_Index___string_string__B0, k_, e_, m_, x_, h_, g_, kg, qA, qB, qo, qm, kq, qED, kZ, reduceCtorEq, qM, Nat.reduceEqDiff, qL, qD, kS, h1, decide_true, qt, qP, kh, qf, qi, qJ, qS, ↓reduceIte, qY, qK, qh, qC, ko, hia, qaY, qH, jL, jQ, yr, h2, decide_false, qEl, kc, qw, qz, kL, qEy, zt, jr, hw, qao]
      exact ih'
theorem qko {L : List (List Nat)} {t : List Nat} (hz : L.length ≤ 1000000000000) {H : List Obj} :
    ∃ r : Int, decide ((0 : Int) ≤ r) = decide (t ∈ L) ∧ qn pg 181 [.d (slD D.s L), .d (.s t)] H = some ⟨false, true, .d (.i .i64 r), H, H.length⟩ := by
  obtain ⟨e, x, r, hx, h1, h2, h3⟩ := qpV (t := t) hz (H := H) L.length 0 rfl (by omega) (by simp)
  refine ⟨r, h1, ?_⟩
  rw [qg (fn := f_slices_Index___string_string_) rfl rfl]
  have hz0 : ((0 : Nat) : Int) = 0 := rfl
  rw [hz0] at h3
  simp only [f_slices_Index___string_string_, k_, o_, i_, m_, n_, qs, qEu, Nat.reduceAdd, qy, qA, qB, qo, qh, zt, qO, qP, kh, qf, qi, kZ, reduceCtorEq, qM, qL, qD, qC, zR, qdx, qt, qK, qao, kg, Nat.reduceEqDiff]
  rw [h3]
  rcases hx with rfl | rfl
  all_goals simp only [qhg, qu, kC, h2, jt, qx, qN, kp, qQ, qaP, jp, zg, qZ]
  all_goals rfl
theorem qlX {t : List Nat} {H : List Obj} : qn pg 84 [.d (.sl (KW.map D.s)), .d (.s t)] H = some ⟨false, true, .d (.b (decide (t ∈ KW))), H, H.length⟩ := by
  obtain ⟨r, h1, h2⟩ := qko (L := KW) (t := t) (by decide) (H := H)
  have hk : slD D.s KW = .sl (KW.map D.s) := rfl
  rw [hk] at h2
  rw [qg (fn := f_slices_Contains___string_string_) rfl rfl]
  simp only [f_slices_Contains___string_string_, k_, o_, v_, c_, g_, m_, qs, qEu, Nat.reduceAdd, qy, qA, qB, qo, qh, zt, qO, qP, kh, qf, qi, jK, reduceCtorEq, qM, qL, zi, kA, Nat.reduceEqDiff, qE, qEs, qEA, qk, qQ, qr, qEv, kj, h2, qF, ql, qq, Nat.min_self, qm, kq, kL, qEy, kZ, qD, jD, h1, qt, qC, qX, qZ, qu, kC, jt, qx, qN, kp, qaP, jp, zg]
  all_goals rfl
def tok (k p e : Int) (t : List Nat) (n : Int) : D := .agg [.i .i64 k, .i .i64 p, .i .i64 e, .s t, .i .i32 n]
inductive Sy where
  | ok (k : Int) (t : List Nat) (n : Int) (a : Nat)
  | bad (e : Int)
def MRes (id : Nat) (s : List Nat) (a : Nat) (H : List Obj) (r : Sy) (X : Option Cr) : Prop :=
  match r with
  | .ok k t n a' => ∃ sm lo, id ≤ lo ∧ lo ≤ H.length ∧ (a' = a ∨ lo ≤ id) ∧ X = some ⟨false, sm, .d (tok k 0 0 t n), kn H id (sc s a'), lo⟩
  | .bad e => ∃ sm lo a', id ≤ lo ∧ lo ≤ H.length ∧ (a' = a ∨ lo ≤ id) ∧ X = some ⟨true, sm, .ifc 157 (.d (.agg [.i .i64 (a : Nat), .i .i64 e])), kn H id (sc s a'), lo⟩
theorem MRes.good {id : Nat} {s : List Nat} {a a' : Nat} {H : List Obj} {k n : Int} {t : List Nat} {e : Env} {lo : Nat} {X : Option Cr} (hid : id < H.length) (hH : H[id]? = some (sc s a)) (h1 : id ≤ lo) (h2 : lo ≤ H.length) (h3 : a' = a ∨ lo ≤ id)
    (h : X = leave H false (.d (tok k 0 0 t n)) ⟨e, kn H id (sc s a'), lo⟩) : MRes id s a H (.ok k t n a') X := by
  obtain ⟨sm, hlv⟩ := qfi (pan := false) (v := .d (tok k 0 0 t n)) (e := e) (lo := lo) (o := sc s a') rfl rfl (fun _ => rfl) (by
      rcases h3 with h | h
      · left; rw [h]; exact yS hH
      · right; exact h) hid
  exact ⟨sm, lo, h1, h2, h3, h.trans hlv⟩
theorem MRes.worse {id : Nat} {s : List Nat} {a a' : Nat} {H : List Obj} {x : Int} {e : Env} {lo : Nat} {X : Option Cr} (hid : id < H.length) (hH : H[id]? = some (sc s a)) (h1 : id ≤ lo) (h2 : lo ≤ H.length) (h3 : a' = a ∨ lo ≤ id)
    (h : X = leave H true (.ifc 157 (.d (.agg [.i .i64 (a : Nat), .i .i64 x]))) ⟨e, kn H id (sc s a'), lo⟩) : MRes id s a H (.bad x) X := by
  obtain ⟨sm, hlv⟩ := qfi (pan := true) (v := .ifc 157 (.d (.agg [.i .i64 (a : Nat), .i .i64 x]))) (e := e) (lo := lo) (o := sc s a') rfl rfl (fun _ => rfl) (by
      rcases h3 with h | h
      · left; rw [h]; exact yS hH
      · right; exact h) hid
  exact ⟨sm, lo, a', h1, h2, h3, h.trans hlv⟩
def qks (s : List Nat) (a : Nat) : Sy :=
  if 32 < run cNm (s.drop a) then .bad 34
  else if (s.drop a).take (run cNm (s.drop a)) ∈ KW then .ok 6 ((s.drop a).take (run cNm (s.drop a))) 0 (a + run cNm (s.drop a))
  else .ok 1 ((s.drop a).take (run cNm (s.drop a))) 0 (a + run cNm (s.drop a))
theorem qrN {s : List Nat} (hz : s.length ≤ 1000000000000) {id a : Nat} {H : List Obj} (ha : a ≤ s.length) (hH : H[id]? = some (sc s a)) : MRes id s a H (qks s a) (qn pg 175 [.ptr id 0] H) := by
  have hid : id < H.length := (List.getElem?_eq_some_iff.1 hH).1
  obtain ⟨sm, lo, g1, g2, g3, hw⟩ := qig (F := 260) (P := cNm) (fun c H => qqf) hz ha hH
  have hle := qga cNm (s.drop a)
  rw [qg (fn := yF) rfl rfl]
  have hm1 : min H.length lo = lo := by omega
  have hm2 : min lo H.length = lo := by omega
  have hlen : ((s.drop a).take (run cNm (s.drop a))).length = run cNm (s.drop a) := by simp only [List.length_take]; omega
  have hc := fun (H : List Obj) => qlX (t := (s.drop a).take (run cNm (s.drop a))) (H := H)
  have g3' : a + run cNm (s.drop a) = a ∨ lo ≤ id := by omega
  unfold qks
  by_cases h1 : 32 < run cNm (s.drop a)
  · have e1 : ((32 : Int) < ((run cNm (s.drop a) : Nat) : Int)) = True := by rw [eq_iff_iff]; simp; omega
    rw [if_pos h1]
    refine MRes.worse hid hH g1 g2 g3' ?_ (e := ?_)
    rotate_left
    · simp only [yF, s_, k_, o_, m_, a_, h_, v_, c_, g_, i_, z_, qs, qEu, qy, qA, qB, qo, kl, qEs, qEA, qP, zS, ki, zh, kw, qf, qi, qh, kZ, reduceCtorEq, qM, qL, qW, qC, kY, qG, qt, qp, zm, qH, ke, hH, kR, qEq, qEm, qEp, kF, kh, qD, jK, qhH, kA, qE, qiE, qk, ku, qan, qax, qEv, qr, kj, hw, qF, ql, qb6, qq, hm1, zi, qK, qT, zz, hlen, qm, kq, kL, qEy, zt, zU, e1, decide_true, qJ, qS, ↓reduceIte, Nat.reduceEqDiff, qQ, qdh, kz, qO, hm2, qbp, qbQ, qap, qaI]
      rfl
  · have e1 : ((32 : Int) < ((run cNm (s.drop a) : Nat) : Int)) = False := by rw [eq_iff_iff]; simp; omega
    rw [if_neg h1]
    by_cases h2 : (s.drop a).take (run cNm (s.drop a)) ∈ KW
    · rw [if_pos h2]
      refine MRes.good hid hH g1 g2 g3' ?_ (e := ?_)
      rotate_left
      · simp only [yF, s_, k_, o_, m_, a_, h_, v_, c_, g_, i_, z_, qs, qEu, qy, qA, qB, qo, kl, qEs, qEA, qP, zS, ki, zh, kw, qf, qi, qh, kZ, reduceCtorEq, qM, qL, qW, qC, kY, qG, qt, qp, zm, qH, ke, hH, kR, qEq, qEm, qEp, kF, kh, qD, jK, qhH, kA, qE, qiE, qk, ku, qan, qax, qEv, qr, kj, hw, qF, ql, qb6, qq, hm1, zi, qK, qT, zz, hlen, qm, kq, kL, qEy, zt, zU, e1, decide_false, qJ, qS, qEl, ↓reduceIte, qqY, kz, hm2, Nat.reduceEqDiff, qQ, hc, h2, decide_true, ju, yZ, zF, jF, qEx, qEz, Nat.reduceAdd, Nat.reduceLT, qbd, qEC, qbW, qEF, j1, j6, ji, yx, jk, zc, zG, kB, zY, jJ, zV, kI, zl, z8, zI, zJ, zM, qX, zH, zo, qZ, qu, zA, y9, Nat.reduceLeDiff, qar, qEK, qEH, List.take_zero, qx, qN, kp]
        rfl
    · rw [if_neg h2]
      refine MRes.good hid hH g1 g2 g3' ?_ (e := ?_)
      rotate_left
      · simp only [yF, s_, k_, o_, m_, a_, h_, v_, c_, g_, i_, z_, qs, qEu, qy, qA, qB, qo, kl, qEs, qEA, qP, zS, ki, zh, kw, qf, qi, qh, kZ, reduceCtorEq, qM, qL, qW, qC, kY, qG, qt, qp, zm, qH, ke, hH, kR, qEq, qEm, qEp, kF, kh, qD, jK, qhH, kA, qE, qiE, qk, ku, qan, qax, qEv, qr, kj, hw, qF, ql, qb6, qq, hm1, zi, qK, qT, zz, hlen, qm, kq, kL, qEy, zt, zU, e1, decide_false, qJ, qS, qEl, ↓reduceIte, qqY, kz, hm2, Nat.reduceEqDiff, qQ, hc, h2, qY, kc, qw, jH, kg, qz, ju, yZ, zF, jF, qEx, qEz, Nat.reduceAdd, Nat.reduceLT, qbd, qEC, qbW, qEF, j1, j6, ji, yx, jk, zc, zG, kB, zY, jJ, zV, kI, zl, z8, zI, zJ, zM, qX, qZ, qu, zA, y9, Nat.reduceLeDiff, qar, qEK, qEH, List.take_zero, qx, qN, kp]
        rfl
end W

set_option linter.unusedSimpArgs false
set_option linter.unusedVariables false
namespace W
open Go (IntKind BinOp UnOp)
set_option maxRecDepth 20000
def dg (c : Nat) : Nat := if c ≤ 57 then c - 48 else c - 55
def pu (b mx : Nat) : Nat → List Nat → Option Nat
  | n, [] => some n
  | n, c :: l => if b ≤ dg c then none else if mx < n * b + dg c then none else pu b mx (n * b + dg c) l
theorem qs4 {c : Nat} (h1 : 65 ≤ c) (h2 : c ≤ 70) {H : List Obj} : qn pg 324 [.d (.i .u8 (c : Nat))] H = some ⟨false, true, .d (.i .u8 ((c + 32 : Nat) : Int)), H, H.length⟩ := by
  rw [qg (fn := y2) rfl rfl]
  have : c = 65 ∨ c = 66 ∨ c = 67 ∨ c = 68 ∨ c = 69 ∨ c = 70 := by omega
  rcases this with rfl | rfl | rfl | rfl | rfl | rfl
  all_goals simp only [y2, k_, o_, m_, Int.cast_ofNat_Int, qs, qEu, qy, qA, qB, qo, qh, zt, qO, qP, kh, qf, qi, kZ, reduceCtorEq, qM, qL, qD, qC, qm, kq, kL, qEy, qul, qt, qX, qZ, qu, kC, jt, qx, qN, kp, qQ, qaP, jp, zg, Nat.reduceAdd]
  all_goals rfl
def qmi (H : List Obj) (r : Option Nat) (X : Option (Ex × St)) : Prop :=
  match r with
  | some u => ∃ e, get 6 e = .d (.i .u64 (u : Nat)) ∧ get 7 e = .d .ni ∧ X = some (.ret, ⟨e, H, H.length⟩)
  | none => ∃ e z er, (er = 1 ∨ er = 2) ∧ get 6 e = .d (.i .u64 z) ∧ get 7 e = .ifc 323 (.d (.i .i64 er)) ∧ X = some (.ret, ⟨e, H, H.length⟩)
theorem qxW {s s0 : List Nat} (hs : ∀ c ∈ s, cHx c = true) (hz : s.length ≤ 1000000000000) {b mx ct : Nat} (hb : b = 10 ∨ b = 16) (hmx : mx ≤ 4294967295) (hct : mx < ct) {H : List Obj} :
    ∀ (k i n : Nat), s.length - i = k → i ≤ s.length → n ≤ mx →
      qmi H (pu b mx n (s.drop i)) (qbm pg (qa5 3 [9, 12, 13] (jg pg (.d (.i .i64 (b : Nat))) (.d (.b false)) (.d (.s s0)) (.d (.i .u64 (ct : Nat))) (.d (.i .u64 (mx : Nat))) (.d (.b false)) (.d (.i .u64 (n : Nat))) (slV e8 s) (.d (.i .i64 (s.length : Nat))) (.d (.i .i64 (i : Nat))) H H.length)) jO) := by
  intro k
  induction k with
  | zero =>
    intro i n hk hi hn
    obtain rfl : i = s.length := by omega
    have h1 : ((s.length : Int) < (s.length : Int)) = False := by simp
    rw [List.drop_length, qaN]
    simp only [qmi, pu, kD, k_, e_, x_, h_, m_, o_, q_, c_, v_, i_, g_, kg, yY, qA, qB, qo, qm, kq, qED, kZ, Nat.reduceEqDiff, qM, qL, qD, kS, h1, decide_false, qt, qP, kh, qf, qi, qJ, qS, qEl, ↓reduceIte, qbr, yW, j0, qw, qz, jO, qh, qC, kv, kE, kK, ky, qU, q9, zt, jA, qY, qO, qX]
    exact ⟨_, rfl, rfl, rfl⟩
  | succ k ih =>
    intro i n hk hi hn
    have h1 : ((i : Int) < (s.length : Int)) = True := by rw [eq_iff_iff]; simp; omega
    have hlt : i < s.length := by omega
    obtain ⟨c, hget⟩ : ∃ c, s[i]? = some c := ⟨s[i], by simp⟩
    have hdr : s.drop i = c :: s.drop (i + 1) := by
      rw [qht hlt]
      congr 1
      have := List.getElem?_eq_getElem hlt
      rw [this] at hget
      exact Option.some.inj hget
    have hcx := hs c (List.mem_of_getElem? hget)
    have hcr : (48 ≤ c ∧ c ≤ 57) ∨ (65 ≤ c ∧ c ≤ 70) := by
      simp only [cHx, cDg, Bool.or_eq_true, qEn, decide_eq_true_eq] at hcx
      exact hcx
    have hia : iaV (.d (slD e8 s)) (.d (.i .i64 (i : Int))) 1 none = some (.cp (e8 c)) := qmU (fun _ => rfl) (by omega) (by simpa using hget)
    have hw : wr .i64 ((i : Int) + 1) = ((i + 1 : Nat) : Int) := by rw [qcV (by omega) (by omega)]; omega
    have h95 : ((c : Int) = 95) = False := by rw [eq_iff_iff]; simp; omega
    have hd : dg c < 16 := by unfold dg; split <;> omega
    have hb8 : wr .u8 ((b : Nat) : Int) = (b : Int) := qqK (by omega) (by omega)
    have hb64 : wr .u64 ((b : Nat) : Int) = (b : Int) := qnh (by omega) (by omega)
    have hd64 : wr .u64 ((dg c : Nat) : Int) = (dg c : Int) := qnh (by omega) (by omega)
    have hnb : n * b ≤ 4294967295 * 16 := Nat.mul_le_mul (by omega) (by omega)
    have hm64 : wr .u64 ((n : Int) * (b : Int)) = ((n * b : Nat) : Int) := by
      have e : ((n : Int) * (b : Int)) = ((n * b : Nat) : Int) := by push_cast; rfl
      rw [e]
      exact qnh (by omega) (by omega)
    have ha64 : wr .u64 (((n * b : Nat) : Int) + (dg c : Int)) = ((n * b + dg c : Nat) : Int) := by rw [qnh (by omega) (by omega)]; push_cast; rfl
    have hcut : ((ct : Int) ≤ (n : Int)) = False := by rw [eq_iff_iff]; simp; omega
    have hnn : n ≤ n * b := Nat.le_mul_of_pos_right n (by omega)
    have hlt2 : (((n * b + dg c : Nat) : Int) < ((n * b : Nat) : Int)) = False := by rw [eq_iff_iff]; simp; omega
    rw [hdr, qaN, pu]
    rcases hcr with ⟨g1, g2⟩ | ⟨g1, g2⟩
    · have e1 : ((48 : Int) ≤ (c : Int)) = True := by rw [eq_iff_iff]; simp; omega
      have e2 : ((c : Int) ≤ 57) = True := by rw [eq_iff_iff]; simp; omega
      have e3 : wr .u8 ((c : Int) - 48) = (dg c : Int) := by rw [qqK (by omega) (by omega)]; simp only [dg, g2, if_true]; omega
      by_cases q1 : b ≤ dg c
      · have f1 : ((b : Int) ≤ (dg c : Int)) = True := by rw [eq_iff_iff]; simp; omega
        rw [if_pos q1]
        simp only [qmi, kD, k_, e_, x_, h_, m_, o_, q_, c_, v_, i_, g_, kg, yY, qA, qB, qo, qm, kq, qED, kZ, Nat.reduceEqDiff, qM, qL, qD, kS, h1, decide_true, qt, qP, kh, qf, qi, qJ, qS, ↓reduceIte, qY, qK, ko, qaF, hia, e8, qaY, qH, jL, qaU, qh, qC, zt, qO, kL, qEy, jm, h95, decide_false, kv, kE, kK, qEl, ky, qU, q9, jA, Bool.or_false, ye, e1, e2, kU, qc9, e3, kc, qw, qz, yU, hb8, jD, f1, qdj, qfV, qdC, qbv, qX, zo, zH]
        exact ⟨_, 0, 2, .inr rfl, rfl, rfl, rfl⟩
      · have f1 : ((b : Int) ≤ (dg c : Int)) = False := by rw [eq_iff_iff]; simp; omega
        rw [if_neg q1]
        by_cases q2 : mx < n * b + dg c
        · have f2 : ((mx : Int) < ((n * b + dg c : Nat) : Int)) = True := by rw [eq_iff_iff]; simp; omega
          rw [if_pos q2]
          simp only [qmi, kD, k_, e_, x_, h_, m_, o_, q_, c_, v_, i_, g_, kg, yY, qA, qB, qo, qm, kq, qED, kZ, Nat.reduceEqDiff, qM, qL, qD, kS, h1, decide_true, qt, qP, kh, qf, qi, qJ, qS, ↓reduceIte, qY, qK, ko, qaF, hia, e8, qaY, qH, jL, qaU, qh, qC, zt, qO, kL, qEy, jm, h95, decide_false, kv, kE, kK, qEl, ky, qU, q9, jA, Bool.or_false, ye, e1, e2, kU, qc9, e3, kc, qw, qz, yU, hb8, jD, f1, hcut, hb64, qi7, hm64, hd64, jr, ha64, hlt2, zx, qEJ, zU, f2, qdj, qfV, qdC, qbv, qX, zo, zH]
          exact ⟨_, _, 1, .inl rfl, rfl, rfl, rfl⟩
        · have f2 : ((mx : Int) < ((n * b + dg c : Nat) : Int)) = False := by rw [eq_iff_iff]; simp; omega
          rw [if_neg q2]
          have ih' := ih (i + 1) (n * b + dg c) (by omega) (by omega) (by omega)
          simp only [kD, k_, e_, x_, h_, m_, o_, q_, c_, v_, i_, g_, kg, yY, qA, qB, qo, qm, kq, qED, kZ, Nat.reduceEqDiff, qM, qL, qD, kS, h1, decide_true, qt, qP, kh, qf, qi, qJ, qS, ↓reduceIte, qY, qK, ko, qaF, hia, e8, qaY, qH, jL, qaU, qh, qC, zt, qO, kL, qEy, jm, h95, decide_false, kv, kE, kK, qEl, ky, qU, q9, jA, Bool.or_false, ye, e1, e2, kU, qc9, e3, kc, qw, qz, yU, hb8, jD, f1, hcut, hb64, qi7, hm64, hd64, jr, ha64, hlt2, zx, qEJ, zU, f2, hw, zQ]
          exact ih'
    · have e1 : ((48 : Int) ≤ (c : Int)) = True := by rw [eq_iff_iff]; simp; omega
      have e2 : ((c : Int) ≤ 57) = False := by rw [eq_iff_iff]; simp; omega
      have lw := fun (H : List Obj) => qs4 g1 g2 (H := H)
      have e4 : ((97 : Int) ≤ ((c + 32 : Nat) : Int)) = True := by rw [eq_iff_iff]; simp; omega
      have e5 : (((c + 32 : Nat) : Int) ≤ 122) = True := by rw [eq_iff_iff]; simp; omega
      have e6 : wr .u8 (((c + 32 : Nat) : Int) - 97) = ((c - 65 : Nat) : Int) := by rw [qqK (by omega) (by omega)]; omega
      have e3 : wr .u8 (((c - 65 : Nat) : Int) + 10) = (dg c : Int) := by
        have : ¬ c ≤ 57 := by omega
        rw [qqK (by omega) (by omega)]; simp only [dg, this, if_false]; omega
      by_cases q1 : b ≤ dg c
      · have f1 : ((b : Int) ≤ (dg c : Int)) = True := by rw [eq_iff_iff]; simp; omega
        rw [if_pos q1]
        simp only [qmi, kD, k_, e_, x_, h_, m_, o_, q_, c_, v_, i_, g_, kg, yY, qA, qB, qo, qm, kq, qED, kZ, Nat.reduceEqDiff, qM, qL, qD, kS, h1, decide_true, qt, qP, kh, qf, qi, qJ, qS, ↓reduceIte, qY, qK, ko, qaF, hia, e8, qaY, qH, jL, qaU, qh, qC, zt, qO, kL, qEy, jm, h95, decide_false, kv, kE, kK, qEl, ky, qU, q9, jA, Bool.or_false, ye, e1, e2, kU, qE, qEs, qEA, qk, qQ, qr, qEv, kj, lw, qF, ql, qq, Nat.min_self, e4, e5, jK, zi, kA, qc9, e6, jr, e3, kc, qw, qz, yU, hb8, jD, f1, qdj, qfV, qdC, qbv, qX, zo, zH]
        exact ⟨_, 0, 2, .inr rfl, rfl, rfl, rfl⟩
      · have f1 : ((b : Int) ≤ (dg c : Int)) = False := by rw [eq_iff_iff]; simp; omega
        rw [if_neg q1]
        by_cases q2 : mx < n * b + dg c
        · have f2 : ((mx : Int) < ((n * b + dg c : Nat) : Int)) = True := by rw [eq_iff_iff]; simp; omega
          rw [if_pos q2]
          simp only [qmi, kD, k_, e_, x_, h_, m_, o_, q_, c_, v_, i_, g_, kg, yY, qA, qB, qo, qm, kq, qED, kZ, Nat.reduceEqDiff, qM, qL, qD, kS, h1, decide_true, qt, qP, kh, qf, qi, qJ, qS, ↓reduceIte, qY, qK, ko, qaF, hia, e8, qaY, qH, jL, qaU, qh, qC, zt, qO, kL, qEy, jm, h95, decide_false, kv, kE, kK, qEl, ky, qU, q9, jA, Bool.or_false, ye, e1, e2, kU, qE, qEs, qEA, qk, qQ, qr, qEv, kj, lw, qF, ql, qq, Nat.min_self, e4, e5, jK, zi, kA, qc9, e6, jr, e3, kc, qw, qz, yU, hb8, jD, f1, hcut, hb64, qi7, hm64, hd64, ha64, hlt2, zx, qEJ, zU, f2, qdj, qfV, qdC, qbv, qX, zo, zH]
          exact ⟨_, _, 1, .inl rfl, rfl, rfl, rfl⟩
        · have f2 : ((mx : Int) < ((n * b + dg c : Nat) : Int)) = False := by rw [eq_iff_iff]; simp; omega
          rw [if_neg q2]
          have ih' := ih (i + 1) (n * b + dg c) (by omega) (by omega) (by omega)
          simp only [kD, k_, e_, x_, h_, m_, o_, q_, c_, v_, i_, g_, kg, yY, qA, qB, qo, qm, kq, qED, kZ, Nat.reduceEqDiff, qM, qL, qD, kS, h1, decide_true, qt, qP, kh, qf, qi, qJ, qS, ↓reduceIte, qY, qK, ko, qaF, hia, e8, qaY, qH, jL, qaU, qh, qC, zt, qO, kL, qEy, jm, h95, decide_false, kv, kE, kK, qEl, ky, qU, q9, jA, Bool.or_false, ye, e1, e2, kU, qE, qEs, qEA, qk, qQ, qr, qEv, kj, lw, qF, ql, qq, Nat.min_self, e4, e5, jK, zi, kA, qc9, e6, jr, e3, kc, qw, qz, yU, hb8, jD, f1, hcut, hb64, qi7, hm64, hd64, ha64, hlt2, zx, qEJ, zU, f2, hw, zQ]
          exact ih'
theorem qt3 {c : Nat} {l : List Nat} : (c :: l = ([] : List Nat)) = False := by simp
theorem qla {c : Nat} {l : List Nat} : V.osl ((D.i .u8 (c : Nat)) :: l.map fun n : Nat => D.i .u8 n) = slV e8 (c :: l) := rfl
def PuC (H : List Obj) (r : Option Nat) (X : Option Cr) : Prop :=
  match r with
  | some u => X = some ⟨false, true, .tup [.d (.i .u64 (u : Nat)), .d .ni], H, H.length⟩
  | none => ∃ z er, (er = 1 ∨ er = 2) ∧ X = some ⟨false, true, .tup [.d (.i .u64 z), .ifc 323 (.d (.i .i64 er))], H, H.length⟩
theorem qxJ {s : List Nat} (hs : ∀ c ∈ s, cHx c = true) (hne : s ≠ []) (hz : s.length ≤ 1000000000000) {b bits mx : Nat} (hb : b = 10 ∧ bits = 31 ∧ mx = 2147483647 ∨ b = 16 ∧ bits = 32 ∧ mx = 4294967295 ∨ b = 16 ∧ bits = 8 ∧ mx = 255) {H : List Obj} :
    PuC H (pu b mx 0 s) (qn pg 303 [.d (.s s), .d (.i .i64 (b : Nat)), .d (.i .i64 (bits : Nat))] H) := by
  obtain ⟨c, l, rfl⟩ : ∃ c l, s = c :: l := by
    cases s with
    | nil => exact absurd rfl hne
    | cons c l => exact ⟨c, l, rfl⟩
  rw [qg (fn := zZ) rfl rfl]
  have key : ∀ (ct : Nat) X, mx < ct → (b = 10 ∨ b = 16) → mx ≤ 4294967295 → X = qge H false [.t 6, .t 7] (qbm pg (qa5 3 [9, 12, 13] (jg pg (.d (.i .i64 (b : Nat))) (.d (.b false)) (.d (.s (c :: l))) (.d (.i .u64 (ct : Nat))) (.d (.i .u64 (mx : Nat))) (.d (.b false)) (.d (.i .u64 0)) (slV e8 (c :: l)) (.d (.i .i64 ((c :: l).length : Nat))) (.d (.i .i64 0)) H H.length)) jO) → PuC H (pu b mx 0 (c :: l)) X := by
    intro ct X hct hb hmx hX
    have hl := qxW (s0 := c :: l) hs hz hb hmx hct (H := H) (c :: l).length 0 0 (by omega) (by omega) (by omega)
    have hz0 : ((0 : Nat) : Int) = 0 := rfl
    rw [qEK, hz0] at hl
    subst hX
    generalize pu b mx 0 (c :: l) = r at hl
    cases r with
    | some u =>
      obtain ⟨e, h1, h2, h3⟩ := hl
      rw [h3]
      simp only [PuC, qZ, qu, kC, h1, jt, h2, qx, qN, qes, qfq, qfm, qrC, qax, qEv, qj9, qhI, qaP, qi3, Nat.max_self, qgd, zg]
      all_goals rfl
    | none =>
      obtain ⟨e, z, er, h0, h1, h2, h3⟩ := hl
      rw [h3]
      refine ⟨z, er, h0, ?_⟩
      simp only [qZ, qu, kC, h1, jt, h2, qkO, qx, qN, qes, qfq, qfm, qrC, qp9, qax, qEv, qj9, qhI, qaP, qmO, qi3, Nat.max_self, qgd, zg]
      all_goals rfl
  rcases hb with ⟨rfl, rfl, rfl⟩ | ⟨rfl, rfl, rfl⟩ | ⟨rfl, rfl, rfl⟩
  · refine key 1844674407370955162 _ (by omega) (by omega) (by omega) ?_
    have w1 : qaJ .shl .num true (.d (.i .u64 1)) (.d (.i .u64 (wr .u64 31))) = some (.d (.i .u64 2147483648)) := rfl
    have w2 : wr .u64 (2147483648 - 1) = 2147483647 := rfl
    simp only [zZ, k_, o_, m_, i_, g_, q_, n_, Int.cast_ofNat_Int, qs, qEu, Nat.reduceAdd, qy, qA, qB, qo, qh, zt, qO, qP, kh, qf, qi, kZ, reduceCtorEq, qM, qL, qD, qC, qm, kq, kL, qEy, yr, qt3, decide_false, qt, qJ, qS, qEl, ↓reduceIte, qY, Nat.reduceEqDiff, jm, Int.reduceEq, qK, Bool.or_false, ye, Int.reduceLE, decide_true, kv, kE, kK, qU, kU, kc, qw, kg, qz, kS, Int.reduceLT, zx, qEJ, zU, yU, w1, qc9, Int.reduceSub, qfA, qEs, qhs, qla, qgm, zR, qaF, qdx, qEx, zQ, yY]
    all_goals rfl
  · refine key 1152921504606846976 _ (by omega) (by omega) (by omega) ?_
    have w1 : qaJ .shl .num true (.d (.i .u64 1)) (.d (.i .u64 (wr .u64 32))) = some (.d (.i .u64 4294967296)) := rfl
    have w2 : wr .u64 (4294967296 - 1) = 4294967295 := rfl
    simp only [zZ, k_, o_, m_, i_, g_, q_, n_, Int.cast_ofNat_Int, qs, qEu, Nat.reduceAdd, qy, qA, qB, qo, qh, zt, qO, qP, kh, qf, qi, kZ, reduceCtorEq, qM, qL, qD, qC, qm, kq, kL, qEy, yr, qt3, decide_false, qt, qJ, qS, qEl, ↓reduceIte, qY, Nat.reduceEqDiff, jm, Int.reduceEq, qK, Bool.or_false, ye, Int.reduceLE, decide_true, kv, kE, kK, qU, kU, kc, qw, kg, qz, kS, Int.reduceLT, zx, qEJ, zU, yU, w1, qc9, Int.reduceSub, qfA, qEs, qhs, qla, qgm, zR, qaF, qdx, qEx, zQ, yY]
    all_goals rfl
  · refine key 1152921504606846976 _ (by omega) (by omega) (by omega) ?_
    have w1 : qaJ .shl .num true (.d (.i .u64 1)) (.d (.i .u64 (wr .u64 8))) = some (.d (.i .u64 256)) := rfl
    have w2 : wr .u64 (256 - 1) = 255 := rfl
    simp only [zZ, k_, o_, m_, i_, g_, q_, n_, Int.cast_ofNat_Int, qs, qEu, Nat.reduceAdd, qy, qA, qB, qo, qh, zt, qO, qP, kh, qf, qi, kZ, reduceCtorEq, qM, qL, qD, qC, qm, kq, kL, qEy, yr, qt3, decide_false, qt, qJ, qS, qEl, ↓reduceIte, qY, Nat.reduceEqDiff, jm, Int.reduceEq, qK, Bool.or_false, ye, Int.reduceLE, decide_true, kv, kE, kK, qU, kU, kc, qw, kg, qz, kS, Int.reduceLT, zx, qEJ, zU, yU, w1, qc9, Int.reduceSub, qfA, qEs, qhs, qla, qgm, zR, qaF, qdx, qEx, zQ, yY]
    all_goals rfl
theorem qix {s : List Nat} (hs : ∀ c ∈ s, cHx c = true) (hne : s ≠ []) (hz : s.length ≤ 1000000000000) {b bits mx : Nat} (hb : b = 10 ∧ bits = 31 ∧ mx = 2147483647 ∨ b = 16 ∧ bits = 32 ∧ mx = 4294967295 ∨ b = 16 ∧ bits = 8 ∧ mx = 255) {H : List Obj} :
    match pu b mx 0 s with
    | some u => qn pg 263 [.d (.s s), .d (.i .i64 (b : Nat)), .d (.i .i64 (bits : Nat))] H = some ⟨false, true, .tup [.d (.i .u64 (u : Nat)), .d .ni], H, H.length⟩
    | none => ∃ z, qn pg 263 [.d (.s s), .d (.i .i64 (b : Nat)), .d (.i .i64 (bits : Nat))] H = some ⟨false, true, .tup [.d (.i .u64 z), .ifc 325 .undef], H, H.length⟩ := by
  have h := qxJ hs hne hz hb (H := H)
  rw [qg (fn := qas) rfl rfl]
  generalize pu b mx 0 s = r at h
  cases r with
  | some u =>
    simp only [PuC] at h
    simp only [qas, k_, o_, m_, c_, r_, v_, qs, qEu, Nat.reduceAdd, qy, qA, qB, qo, qh, zt, qO, qP, kh, qf, qi, kZ, reduceCtorEq, qM, qL, qD, qC, Nat.reduceEqDiff, qE, qEs, qEA, qk, qQ, qr, qEv, kj, h, qF, ql, qq, Nat.min_self, ky, q9, zK, qcn, qcr, qt, qcd, qm, kq, kL, qEy, qjx, qJ, qS, qEl, ↓reduceIte, qY, qX, qZ, qu, kC, jt, qx, qN, qes, qfq, qfm, qrC, qax, qj9, qhI, qaP, qi3, Nat.max_self, qgd, zg]
    all_goals rfl
  | none =>
    obtain ⟨z, er, h0, h⟩ := h
    have ht := fun (f : List Nat) => qxb (f := f) (t := s) (b := (b : Int)) (z := (bits : Int)) h0 hz (H := H)
    refine ⟨z, ?_⟩
    simp only [qas, k_, o_, m_, c_, r_, v_, qs, qEu, Nat.reduceAdd, qy, qA, qB, qo, qh, zt, qO, qP, kh, qf, qi, kZ, reduceCtorEq, qM, qL, qD, qC, Nat.reduceEqDiff, qE, qEs, qEA, qk, qQ, qr, qEv, kj, h, qF, ql, qq, Nat.min_self, ky, q9, zK, qcn, qcr, qt, qcd, qg0, qdC, qbv, qm, kq, kL, qEy, qhC, qJ, qS, ↓reduceIte, jK, zi, kA, qma, qia, qrC, ht, qX, zo, qZ, qu, kC, jt, qkO, qx, qN, qes, qfq, qfm, qp9, qom, qax]
    all_goals exact zg rfl rfl rfl
end W

set_option linter.unusedSimpArgs false
set_option linter.unusedVariables false
namespace W
open Go (IntKind BinOp UnOp)
set_option maxRecDepth 20000
theorem qqF (P : Nat → Bool) : ∀ (l : List Nat), ∀ c ∈ l.take (run P l), P c = true
  | [], c, h => by simp at h
  | x :: l, c, h => by
    simp only [run] at h
    cases hp : P x with
    | false => rw [hp] at h; simp at h
    | true =>
      rw [hp] at h
      simp only [cond_true, qEH, List.mem_cons] at h
      rcases h with rfl | h
      · exact hp
      · exact qqF P l c h
theorem qEk {x c : Nat} {l : List Nat} : pre [x] (c :: l) = decide (c = x) := by simp [pre]
theorem qCY {x : Nat} : pre [x] [] = false := by simp [pre]
theorem qhw {x a : Nat} {s : List Nat} (h : pre [x] (s.drop a) = true) : a < s.length := by
  rcases Nat.lt_or_ge a s.length with h1 | h1
  · exact h1
  · rw [List.drop_eq_nil_of_le h1, qCY] at h; cases h
def qj6 (kind : Int) (b mx : Nat) (t : List Nat) (a' : Nat) : Sy := match pu b mx 0 t with
  | none => .bad 30
  | some u => .ok kind [] (wr .i32 (wr .u32 (u : Nat))) a'
def qrX (s : List Nat) (a : Nat) : Sy :=
  if pre [72] (s.drop (a + run cHx (s.drop a))) then qj6 2 16 4294967295 ((s.drop a).take (run cHx (s.drop a))) (a + run cHx (s.drop a) + 1)
  else if pre [88] (s.drop (a + run cHx (s.drop a))) then qj6 3 16 255 ((s.drop a).take (run cHx (s.drop a))) (a + run cHx (s.drop a) + 1)
  else qj6 2 10 2147483647 ((s.drop a).take (run cHx (s.drop a))) (a + run cHx (s.drop a))
theorem qop {s : List Nat} (hz : s.length ≤ 1000000000000) {id a c : Nat} {l : List Nat} {H : List Obj} (hL : s.drop a = c :: l) (hc : cDg c = true) (hH : H[id]? = some (sc s a)) : MRes id s a H (qrX s a) (qn pg 177 [.ptr id 0] H) := by
  have hid : id < H.length := (List.getElem?_eq_some_iff.1 hH).1
  have ha : a ≤ s.length := by have := (qkV hL).2.2; omega
  obtain ⟨sm, lo, g1, g2, g3, hw⟩ := qig (F := 262) (P := cHx) (fun c H => qvE) hz ha hH
  have hle := qga cHx (s.drop a)
  have hk : 0 < run cHx (s.drop a) := by rw [hL]; simp [run, cHx, hc]
  have hall := qqF cHx (s.drop a)
  have hlen : ((s.drop a).take (run cHx (s.drop a))).length = run cHx (s.drop a) := by simp only [List.length_take]; omega
  simp only [List.length_drop] at hle
  unfold qrX
  generalize run cHx (s.drop a) = k at *
  generalize (s.drop a).take k = t at *
  have hne : t ≠ [] := by intro h; rw [h] at hlen; simp at hlen; omega
  have hm1 : min H.length lo = lo := by omega
  have hm2 : min lo H.length = lo := by omega
  have hm3 : min lo id = id := by omega
  have hm4 : min id H.length = id := by omega
  have hH1 : (kn H id (sc s (a + k)))[id]? = some (sc s (a + k)) := jx hH
  have hh1 := qfj (t := [72]) hH1 (by omega)
  have hh2 := qfj (t := [88]) hH1 (by omega)
  have hw1 : wr .i64 (((a + k : Nat) : Int) + 1) = ((a + k + 1 : Nat) : Int) := by rw [qcV (by omega) (by omega)]; omega
  rw [qg (fn := zT) rfl rfl]
  have e10 : ((10 : Nat) : Int) = 10 := rfl
  have e16 : ((16 : Nat) : Int) = 16 := rfl
  have e31 : ((31 : Nat) : Int) = 31 := rfl
  have e32 : ((32 : Nat) : Int) = 32 := rfl
  have e8 : ((8 : Nat) : Int) = 8 := rfl
  cases hp1 : pre [72] (s.drop (a + k)) with
  | true =>
    rw [hp1] at hh1
    rw [if_pos rfl]
    have hlt := qhw hp1
    have hn := fun (H : List Obj) => qix (b := 16) (bits := 32) (mx := 4294967295) hall hne (by omega) (by omega) (H := H)
    unfold qj6
    generalize pu 16 4294967295 0 t = r at hn
    simp only [e16, e32] at hn
    cases r with
    | some u =>
      simp only at hn ⊢
      refine MRes.good hid hH (lo := id) (qEo _) (by omega) (.inr (qEo _)) ?_ (e := ?_)
      rotate_left
      · simp only [zT, s_, k_, o_, m_, a_, h_, c_, v_, i_, g_, z_, l_, r_, qs, qEu, qy, qA, qB, qo, kl, qEs, qEA, qP, zS, ki, zh, kw, qf, qi, qh, kZ, reduceCtorEq, qM, qL, qW, qC, kY, qG, qt, qp, zm, qH, ke, hH, kR, qEq, qEm, qEp, kF, kh, qD, qE, qiE, qk, ku, qan, qax, qEv, qr, kj, hw, qF, ql, qb6, qq, hm1, jK, zi, kA, zt, qO, qK, qQ, hh1, kz, hm2, qJ, qS, ↓reduceIte, hH1, qm, kq, kL, qEy, jr, hw1, Nat.reduceEqDiff, kB, jP, yZ, zF, qEx, qEz, kI, jF, zl, kV, Nat.reduceAdd, Nat.reduceLT, zf, qEF, qEC, kT, jX, hm3, zM, kc, qw, jH, kg, qz, hn, hm4, ky, q9, zK, qcn, qcr, qcd, qjx, qEl, qY, yU, ju, qbd, j1, j6, ji, yx, jk, zc, zG, zY, jJ, zV, qbW, z8, zI, zJ, qX, qZ, qu, zA, y9, Nat.reduceLeDiff, qar, qEK, qEH, List.take_zero, qx, qN, kp]
        rfl
    | none =>
      obtain ⟨z, hn1⟩ := hn (kn H id (sc s (a + k + 1)))
      simp only
      refine MRes.worse hid hH (lo := id) (a' := a + k + 1) (qEo _) (by omega) (.inr (qEo _)) ?_ (e := ?_)
      rotate_left
      · simp only [zT, s_, k_, o_, m_, a_, h_, c_, v_, i_, g_, z_, l_, r_, qs, qEu, qy, qA, qB, qo, kl, qEs, qEA, qP, zS, ki, zh, kw, qf, qi, qh, kZ, reduceCtorEq, qM, qL, qW, qC, kY, qG, qt, qp, zm, qH, ke, hH, kR, qEq, qEm, qEp, kF, kh, qD, qE, qiE, qk, ku, qan, qax, qEv, qr, kj, hw, qF, ql, qb6, qq, hm1, jK, zi, kA, zt, qO, qK, qQ, hh1, kz, hm2, qJ, qS, ↓reduceIte, hH1, qm, kq, kL, qEy, jr, hw1, Nat.reduceEqDiff, kB, jP, yZ, zF, qEx, qEz, kI, jF, zl, kV, Nat.reduceAdd, Nat.reduceLT, zf, qEF, qEC, kT, jX, hm3, zM, kc, qw, jH, kg, qz, hn1, hm4, ky, q9, zK, qcn, qcr, qcd, qg0, qdC, qbv, qhC, qdh, qbp, qap, qaI]
        rfl
  | false =>
    rw [hp1] at hh1
    rw [if_neg (by simp)]
    cases hp2 : pre [88] (s.drop (a + k)) with
    | true =>
      rw [hp2] at hh2
      rw [if_pos rfl]
      have hlt := qhw hp2
      have hn := fun (H : List Obj) => qix (b := 16) (bits := 8) (mx := 255) hall hne (by omega) (by omega) (H := H)
      unfold qj6
      generalize pu 16 255 0 t = r at hn
      simp only [e16, e8] at hn
      cases r with
      | some u =>
        simp only at hn ⊢
        refine MRes.good hid hH (lo := id) (qEo _) (by omega) (.inr (qEo _)) ?_ (e := ?_)
        rotate_left
        · simp only [zT, s_, k_, o_, m_, a_, h_, c_, v_, i_, g_, z_, l_, r_, qs, qEu, qy, qA, qB, qo, kl, qEs, qEA, qP, zS, ki, zh, kw, qf, qi, qh, kZ, reduceCtorEq, qM, qL, qW, qC, kY, qG, qt, qp, zm, qH, ke, hH, kR, qEq, qEm, qEp, kF, kh, qD, qE, qiE, qk, ku, qan, qax, qEv, qr, kj, hw, qF, ql, qb6, qq, hm1, jK, zi, kA, zt, qO, qK, qQ, hh1, kz, hm2, qJ, qS, qEl, ↓reduceIte, hh2, hH1, qm, kq, kL, qEy, jr, hw1, Nat.reduceEqDiff, kB, jP, yZ, zF, qEx, qEz, kI, jF, zl, kV, Nat.reduceAdd, Nat.reduceLT, zf, qEF, qEC, kT, jX, hm3, zM, kc, qw, jH, kg, qz, hn, hm4, ky, q9, zK, qcn, qcr, qcd, qjx, qY, yU, ju, qbd, j1, j6, ji, yx, jk, zc, zG, zY, jJ, zV, qbW, z8, zI, zJ, qX, qZ, qu, zA, y9, Nat.reduceLeDiff, qar, qEK, qEH, List.take_zero, qx, qN, kp]
          rfl
      | none =>
        obtain ⟨z, hn1⟩ := hn (kn H id (sc s (a + k + 1)))
        simp only
        refine MRes.worse hid hH (lo := id) (a' := a + k + 1) (qEo _) (by omega) (.inr (qEo _)) ?_ (e := ?_)
        rotate_left
        · simp only [zT, s_, k_, o_, m_, a_, h_, c_, v_, i_, g_, z_, l_, r_, qs, qEu, qy, qA, qB, qo, kl, qEs, qEA, qP, zS, ki, zh, kw, qf, qi, qh, kZ, reduceCtorEq, qM, qL, qW, qC, kY, qG, qt, qp, zm, qH, ke, hH, kR, qEq, qEm, qEp, kF, kh, qD, qE, qiE, qk, ku, qan, qax, qEv, qr, kj, hw, qF, ql, qb6, qq, hm1, jK, zi, kA, zt, qO, qK, qQ, hh1, kz, hm2, qJ, qS, qEl, ↓reduceIte, hh2, hH1, qm, kq, kL, qEy, jr, hw1, Nat.reduceEqDiff, kB, jP, yZ, zF, qEx, qEz, kI, jF, zl, kV, Nat.reduceAdd, Nat.reduceLT, zf, qEF, qEC, kT, jX, hm3, zM, kc, qw, jH, kg, qz, hn1, hm4, ky, q9, zK, qcn, qcr, qcd, qg0, qdC, qbv, qhC, qdh, qbp, qap, qaI]
          rfl
    | false =>
      rw [hp2] at hh2
      rw [if_neg (by simp)]
      have hn := fun (H : List Obj) => qix (b := 10) (bits := 31) (mx := 2147483647) hall hne (by omega) (by omega) (H := H)
      unfold qj6
      generalize pu 10 2147483647 0 t = r at hn
      simp only [e10, e31] at hn
      have g3' : a + k = a ∨ lo ≤ id := by omega
      cases r with
      | some u =>
        simp only at hn ⊢
        refine MRes.good hid hH g1 g2 g3' ?_ (e := ?_)
        rotate_left
        · simp only [zT, s_, k_, o_, m_, a_, h_, c_, v_, i_, g_, z_, l_, r_, qs, qEu, qy, qA, qB, qo, kl, qEs, qEA, qP, zS, ki, zh, kw, qf, qi, qh, kZ, reduceCtorEq, qM, qL, qW, qC, kY, qG, qt, qp, zm, qH, ke, hH, kR, qEq, qEm, qEp, kF, kh, qD, qE, qiE, qk, ku, qan, qax, qEv, qr, kj, hw, qF, ql, qb6, qq, hm1, jK, zi, kA, zt, qO, qK, qQ, hh1, kz, hm2, qJ, qS, qEl, ↓reduceIte, hh2, qY, kc, qw, Nat.reduceEqDiff, jH, kg, qz, hn, ky, q9, zK, qcn, qcr, qcd, qm, kq, kL, qEy, qjx, yU, ju, yZ, zF, jF, qEx, qEz, Nat.reduceAdd, Nat.reduceLT, qbd, qEC, qEF, j1, j6, ji, yx, jk, zc, zG, kB, zY, jJ, zV, kI, qbW, zl, z8, zI, zJ, zM, qX, qZ, qu, zA, y9, Nat.reduceLeDiff, qar, qEK, qEH, List.take_zero, qx, qN, kp]
          rfl
      | none =>
        obtain ⟨z, hn1⟩ := hn (kn H id (sc s (a + k)))
        simp only
        refine MRes.worse hid hH g1 g2 g3' ?_ (e := ?_)
        rotate_left
        · simp only [zT, s_, k_, o_, m_, a_, h_, c_, v_, i_, g_, z_, l_, r_, qs, qEu, qy, qA, qB, qo, kl, qEs, qEA, qP, zS, ki, zh, kw, qf, qi, qh, kZ, reduceCtorEq, qM, qL, qW, qC, kY, qG, qt, qp, zm, qH, ke, hH, kR, qEq, qEm, qEp, kF, kh, qD, qE, qiE, qk, ku, qan, qax, qEv, qr, kj, hw, qF, ql, qb6, qq, hm1, jK, zi, kA, zt, qO, qK, qQ, hh1, kz, hm2, qJ, qS, qEl, ↓reduceIte, hh2, qY, kc, qw, Nat.reduceEqDiff, jH, kg, qz, hn1, ky, q9, zK, qcn, qcr, qcd, qg0, qdC, qbv, qm, kq, kL, qEy, qhC, qdh, qbp, qap, qaI]
          rfl
def ql8 (s : List Nat) (a : Nat) : Sy :=
  if pre [34] (s.drop (a + 1 + run cTx (s.drop (a + 1)))) then
    (if 120 < run cTx (s.drop (a + 1)) then .bad 34 else .ok 4 ((s.drop (a + 1)).take (run cTx (s.drop (a + 1)))) 0 (a + 1 + run cTx (s.drop (a + 1)) + 1))
  else .bad 30
theorem qrE {s : List Nat} (hz : s.length ≤ 1000000000000) {id a : Nat} {H : List Obj} (ha : a < s.length) (hH : H[id]? = some (sc s a)) : MRes id s a H (ql8 s a) (qn pg 179 [.ptr id 0] H) := by
  have hid : id < H.length := (List.getElem?_eq_some_iff.1 hH).1
  have hH1 : (kn H id (sc s (a + 1)))[id]? = some (sc s (a + 1)) := jx hH
  obtain ⟨sm, lo, g1, g2, g3, hw⟩ := qig (F := 264) (P := cTx) (fun c H => qpI) hz (by omega) hH1
  have hle := qga cTx (s.drop (a + 1))
  have hlen : ((s.drop (a + 1)).take (run cTx (s.drop (a + 1)))).length = run cTx (s.drop (a + 1)) := by simp only [List.length_take]; omega
  simp only [List.length_drop] at hle
  rw [jX] at hw
  rw [kz] at g2
  unfold ql8
  generalize run cTx (s.drop (a + 1)) = k at *
  generalize (s.drop (a + 1)).take k = t at *
  have hm1 : min H.length id = id := by omega
  have hm2 : min id lo = id := by omega
  have hm3 : min id H.length = id := by omega
  have hm4 : min id id = id := by omega
  have hH2 : (kn H id (sc s (a + 1 + k)))[id]? = some (sc s (a + 1 + k)) := jx hH
  have hh1 := qfj (t := [34]) hH2 (by omega)
  have hw0 : wr .i64 ((a : Int) + 1) = ((a + 1 : Nat) : Int) := by rw [qcV (by omega) (by omega)]; omega
  have hw1 : wr .i64 (((a + 1 + k : Nat) : Int) + 1) = ((a + 1 + k + 1 : Nat) : Int) := by rw [qcV (by omega) (by omega)]; omega
  rw [qg (fn := yG) rfl rfl]
  cases hp : pre [34] (s.drop (a + 1 + k)) with
  | false =>
    rw [hp] at hh1
    rw [if_neg (by simp)]
    refine MRes.worse hid hH (lo := id) (a' := a + 1 + k) (qEo _) (by omega) (.inr (qEo _)) ?_ (e := ?_)
    rotate_left
    · simp only [yG, s_, k_, o_, m_, a_, h_, g_, z_, l_, c_, v_, u_, i_, qs, qEu, qy, qA, qB, qo, kl, qEs, qEA, qP, zS, ki, zh, kw, qf, qi, qh, kZ, reduceCtorEq, qM, qL, qW, qC, kY, qG, qt, qp, zm, qH, ke, hH, kR, qEq, qEm, qEp, kF, kh, qD, qm, kq, kL, qEy, zt, jr, hw0, Nat.reduceEqDiff, kB, jP, yZ, zF, qEx, qEz, kI, jF, zl, qEv, kV, Nat.reduceAdd, Nat.reduceLT, zf, qEF, qEC, kT, hm1, zM, qE, qiE, qk, ku, qan, qax, qr, kj, hw, qF, ql, qb6, qq, hm2, jK, zi, kA, qK, qQ, hh1, kz, qO, hm3, jW, qa6, qEJ, qJ, qS, ↓reduceIte, qdh, qbp, qbQ, qap, qaI]
      rfl
  | true =>
    rw [hp] at hh1
    rw [if_pos rfl]
    have hlt := qhw hp
    by_cases h1 : 120 < k
    · have e1 : ((120 : Int) < ((k : Nat) : Int)) = True := by rw [eq_iff_iff]; simp; omega
      rw [if_pos h1]
      refine MRes.worse hid hH (lo := id) (a' := a + 1 + k) (qEo _) (by omega) (.inr (qEo _)) ?_ (e := ?_)
      rotate_left
      · simp only [yG, s_, k_, o_, m_, a_, h_, g_, z_, l_, c_, v_, u_, i_, qs, qEu, qy, qA, qB, qo, kl, qEs, qEA, qP, zS, ki, zh, kw, qf, qi, qh, kZ, reduceCtorEq, qM, qL, qW, qC, kY, qG, qt, qp, zm, qH, ke, hH, kR, qEq, qEm, qEp, kF, kh, qD, qm, kq, kL, qEy, zt, jr, hw0, Nat.reduceEqDiff, kB, jP, yZ, zF, qEx, qEz, kI, jF, zl, qEv, kV, Nat.reduceAdd, Nat.reduceLT, zf, qEF, qEC, kT, hm1, zM, qE, qiE, qk, ku, qan, qax, qr, kj, hw, qF, ql, qb6, qq, hm2, jK, zi, kA, qK, qQ, hh1, kz, qO, hm3, jW, qa6, qEG, qJ, qS, qEl, ↓reduceIte, qT, zz, hlen, zU, e1, decide_true, qdh, qbp, qbQ, qap, qaI]
        rfl
    · have e1 : ((120 : Int) < ((k : Nat) : Int)) = False := by rw [eq_iff_iff]; simp; omega
      rw [if_neg h1]
      refine MRes.good hid hH (lo := id) (qEo _) (by omega) (.inr (qEo _)) ?_ (e := ?_)
      rotate_left
      · simp only [yG, s_, k_, o_, m_, a_, h_, g_, z_, l_, c_, v_, u_, i_, qs, qEu, qy, qA, qB, qo, kl, qEs, qEA, qP, zS, ki, zh, kw, qf, qi, qh, kZ, reduceCtorEq, qM, qL, qW, qC, kY, qG, qt, qp, zm, qH, ke, hH, kR, qEq, qEm, qEp, kF, kh, qD, qm, kq, kL, qEy, zt, jr, hw0, Nat.reduceEqDiff, kB, jP, yZ, zF, qEx, qEz, kI, jF, zl, qEv, kV, Nat.reduceAdd, Nat.reduceLT, zf, qEF, qEC, kT, hm1, zM, qE, qiE, qk, ku, qan, qax, qr, kj, hw, qF, ql, qb6, qq, hm2, jK, zi, kA, qK, qQ, hh1, kz, qO, hm3, jW, qa6, qEG, qJ, qS, qEl, ↓reduceIte, qT, zz, hlen, zU, e1, decide_false, qY, kc, qw, zn, jH, kg, qz, hH2, hw1, jX, hm4, ju, qbd, qbW, j1, j6, ji, yx, jk, zc, zG, zY, jJ, zV, z8, zI, zJ, qX, qZ, qu, zA, y9, Nat.reduceLeDiff, qar, qEK, qEH, List.take_zero, qx, qN, kp]
        rfl
def SG : List Nat := [43, 45, 42, 47, 38, 126, 61, 35, 60, 62, 46, 44, 59, 58, 40, 41, 91, 93, 123, 125, 94, 124]
def qlZ (s : List Nat) (a c : Nat) : Sy :=
  if pre [60, 61] (s.drop a) then .ok 5 [60, 61] 0 (a + 2)
  else if pre [62, 61] (s.drop a) then .ok 5 [62, 61] 0 (a + 2)
  else if pre [58, 61] (s.drop a) then .ok 5 [58, 61] 0 (a + 2)
  else if pre [46, 46] (s.drop a) then .ok 5 [46, 46] 0 (a + 2)
  else if ixN c SG < 0 then .bad 30 else .ok 5 [c] 0 (a + 1)
theorem qr8 {s : List Nat} (hs : ∀ c ∈ s, c < 256) (hz : s.length ≤ 1000000000000) {id a c : Nat} {l : List Nat} {H : List Obj} (hL : s.drop a = c :: l) (hH : H[id]? = some (sc s a)) : MRes id s a H (qlZ s a c) (qn pg 180 [.ptr id 0] H) := by
  have hid : id < H.length := (List.getElem?_eq_some_iff.1 hH).1
  obtain ⟨hget, hdr, hlt⟩ := qkV hL
  have hh := fun (t : List Nat) => qfj (t := t) hH (by omega)
  have hix : ixV (.d (.s s)) (.d (.i .i64 (a : Int))) = some (.d (.i .u8 ((c : Nat) : Int))) := qoc (by omega) (by simpa using hget)
  have hc : c < 256 := hs c (List.mem_of_getElem? hget)
  have hi := qqD (t := SG) hc (H := H)
  have hm1 : min H.length id = id := by omega
  have hw1 : wr .i64 ((a : Int) + 1) = ((a + 1 : Nat) : Int) := by rw [qcV (by omega) (by omega)]; omega
  have hw2 : wr .i64 ((a : Int) + 2) = ((a + 2 : Nat) : Int) := by rw [qcV (by omega) (by omega)]; omega
  have i0 : iaV (.d (.sl [.s [60, 61], .s [62, 61], .s [58, 61], .s [46, 46]])) (.d (.i .i64 0)) 1 none = some (.cp (.s [60, 61])) := rfl
  have i1 : iaV (.d (.sl [.s [60, 61], .s [62, 61], .s [58, 61], .s [46, 46]])) (.d (.i .i64 1)) 1 none = some (.cp (.s [62, 61])) := rfl
  have i2 : iaV (.d (.sl [.s [60, 61], .s [62, 61], .s [58, 61], .s [46, 46]])) (.d (.i .i64 2)) 1 none = some (.cp (.s [58, 61])) := rfl
  have i3 : iaV (.d (.sl [.s [60, 61], .s [62, 61], .s [58, 61], .s [46, 46]])) (.d (.i .i64 3)) 1 none = some (.cp (.s [46, 46])) := rfl
  have w1 : wr .i64 1 = 1 := rfl
  have w2 : wr .i64 2 = 2 := rfl
  have w3 : wr .i64 3 = 3 := rfl
  have w4 : wr .i64 4 = 4 := rfl
  rw [qg (fn := jn) rfl rfl]
  unfold qlZ
  have h0 := hh [60, 61]
  have h1 := hh [62, 61]
  have h2 := hh [58, 61]
  have h3 := hh [46, 46]
  by_cases q0 : pre [60, 61] (s.drop a) = true
  · rw [if_pos q0]
    rw [q0] at h0
    refine MRes.good hid hH (lo := id) (qEo _) (by omega) (.inr (qEo _)) ?_ (e := ?_)
    rotate_left
    · simp only [jn, s_, k_, o_, n_, i_, qs, qEu, qy, qA, qB, qo, kl, qEs, qEA, qP, zS, ki, zh, kw, qf, qi, zB, qck, qEx, qEz, List.reduceReplicate, zt, Nat.reduceAdd, Nat.reduceLT, yE, qEC, qEF, qaj, qba, qbW, qgq, qb4, qEv, qbe, qt, qcA, zR, kZ, qL, qbH, qeW, Int.cast_ofNat_Int, kh, qh, qO, qK, jy, reduceCtorEq, qM, zn, Nat.reduceEqDiff, jH, qd5, kg, jv, z1, e_, x_, l_, m_, c_, a_, h_, z_, g_, qm, kq, qED, qD, kS, Int.reduceLT, decide_true, qJ, qS, ↓reduceIte, qY, ko, i0, qaY, qce, jL, qh9, jQ, qC, qW, kY, qE, qk, ku, qQ, qr, kj, h0, qF, ql, qq, Nat.min_self, qG, qp, zm, qH, ke, hH, kR, qEq, qEm, qEp, kF, qT, zz, jr, hw2, kB, jP, yZ, zF, kI, jF, zl, kV, zf, kT, hm1, zM, ju, qbd, j1, j6, ji, yx, jk, zc, zG, zY, jJ, zV, z8, zI, zJ, qX, zH, zo, qZ, qu, zA, y9, Nat.reduceLeDiff, qar, qEK, qEH, List.take_zero, qx, qN, kp]
      rfl
  rw [if_neg q0]
  rw [Bool.not_eq_true] at q0
  rw [q0] at h0
  by_cases q1 : pre [62, 61] (s.drop a) = true
  · rw [if_pos q1]
    rw [q1] at h1
    refine MRes.good hid hH (lo := id) (qEo _) (by omega) (.inr (qEo _)) ?_ (e := ?_)
    rotate_left
    · simp only [jn, s_, k_, o_, n_, i_, qs, qEu, qy, qA, qB, qo, kl, qEs, qEA, qP, zS, ki, zh, kw, qf, qi, zB, qck, qEx, qEz, List.reduceReplicate, zt, Nat.reduceAdd, Nat.reduceLT, yE, qEC, qEF, qaj, qba, qbW, qgq, qb4, qEv, qbe, qt, qcA, zR, kZ, qL, qbH, qeW, Int.cast_ofNat_Int, kh, qh, qO, qK, jy, reduceCtorEq, qM, zn, Nat.reduceEqDiff, jH, qd5, kg, jv, z1, e_, x_, l_, m_, c_, a_, h_, z_, g_, qm, kq, qED, qD, kS, Int.reduceLT, decide_true, qJ, qS, ↓reduceIte, qY, ko, i0, qaY, qce, jL, qh9, jQ, qC, qW, kY, qE, qk, ku, qQ, qr, kj, h0, qF, ql, qq, Nat.min_self, qEl, kc, qw, qz, kL, qEy, jr, Int.reduceAdd, w1, i1, h1, qG, qp, zm, qH, ke, hH, kR, qEq, qEm, qEp, kF, qT, zz, hw2, kB, jP, yZ, zF, kI, jF, zl, kV, zf, kT, hm1, zM, ju, qbd, j1, j6, ji, yx, jk, zc, zG, zY, jJ, zV, z8, zI, zJ, qX, zH, zo, qZ, qu, zA, y9, Nat.reduceLeDiff, qar, qEK, qEH, List.take_zero, qx, qN, kp]
      rfl
  rw [if_neg q1]
  rw [Bool.not_eq_true] at q1
  rw [q1] at h1
  by_cases q2 : pre [58, 61] (s.drop a) = true
  · rw [if_pos q2]
    rw [q2] at h2
    refine MRes.good hid hH (lo := id) (qEo _) (by omega) (.inr (qEo _)) ?_ (e := ?_)
    rotate_left
    · simp only [jn, s_, k_, o_, n_, i_, qs, qEu, qy, qA, qB, qo, kl, qEs, qEA, qP, zS, ki, zh, kw, qf, qi, zB, qck, qEx, qEz, List.reduceReplicate, zt, Nat.reduceAdd, Nat.reduceLT, yE, qEC, qEF, qaj, qba, qbW, qgq, qb4, qEv, qbe, qt, qcA, zR, kZ, qL, qbH, qeW, Int.cast_ofNat_Int, kh, qh, qO, qK, jy, reduceCtorEq, qM, zn, Nat.reduceEqDiff, jH, qd5, kg, jv, z1, e_, x_, l_, m_, c_, a_, h_, z_, g_, qm, kq, qED, qD, kS, Int.reduceLT, decide_true, qJ, qS, ↓reduceIte, qY, ko, i0, qaY, qce, jL, qh9, jQ, qC, qW, kY, qE, qk, ku, qQ, qr, kj, h0, qF, ql, qq, Nat.min_self, qEl, kc, qw, qz, kL, qEy, jr, Int.reduceAdd, w1, i1, h1, w2, i2, h2, qG, qp, zm, qH, ke, hH, kR, qEq, qEm, qEp, kF, qT, zz, hw2, kB, jP, yZ, zF, kI, jF, zl, kV, zf, kT, hm1, zM, ju, qbd, j1, j6, ji, yx, jk, zc, zG, zY, jJ, zV, z8, zI, zJ, qX, zH, zo, qZ, qu, zA, y9, Nat.reduceLeDiff, qar, qEK, qEH, List.take_zero, qx, qN, kp]
      rfl
  rw [if_neg q2]
  rw [Bool.not_eq_true] at q2
  rw [q2] at h2
  by_cases q3 : pre [46, 46] (s.drop a) = true
  · rw [if_pos q3]
    rw [q3] at h3
    refine MRes.good hid hH (lo := id) (qEo _) (by omega) (.inr (qEo _)) ?_ (e := ?_)
    rotate_left
    · simp only [jn, s_, k_, o_, n_, i_, qs, qEu, qy, qA, qB, qo, kl, qEs, qEA, qP, zS, ki, zh, kw, qf, qi, zB, qck, qEx, qEz, List.reduceReplicate, zt, Nat.reduceAdd, Nat.reduceLT, yE, qEC, qEF, qaj, qba, qbW, qgq, qb4, qEv, qbe, qt, qcA, zR, kZ, qL, qbH, qeW, Int.cast_ofNat_Int, kh, qh, qO, qK, jy, reduceCtorEq, qM, zn, Nat.reduceEqDiff, jH, qd5, kg, jv, z1, e_, x_, l_, m_, c_, a_, h_, z_, g_, qm, kq, qED, qD, kS, Int.reduceLT, decide_true, qJ, qS, ↓reduceIte, qY, ko, i0, qaY, qce, jL, qh9, jQ, qC, qW, kY, qE, qk, ku, qQ, qr, kj, h0, qF, ql, qq, Nat.min_self, qEl, kc, qw, qz, kL, qEy, jr, Int.reduceAdd, w1, i1, h1, w2, i2, h2, w3, i3, h3, qG, qp, zm, qH, ke, hH, kR, qEq, qEm, qEp, kF, qT, zz, hw2, kB, jP, yZ, zF, kI, jF, zl, kV, zf, kT, hm1, zM, ju, qbd, j1, j6, ji, yx, jk, zc, zG, zY, jJ, zV, z8, zI, zJ, qX, zH, zo, qZ, qu, zA, y9, Nat.reduceLeDiff, qar, qEK, qEH, List.take_zero, qx, qN, kp]
      rfl
  rw [if_neg q3]
  rw [Bool.not_eq_true] at q3
  rw [q3] at h3
  by_cases q4 : ixN c SG < 0
  · have e1 : (ixN c SG < 0) = True := eq_true q4
    rw [if_pos q4]
    simp only [SG] at hi e1
    refine MRes.worse hid hH (lo := H.length) (a' := a) (by omega) (qEo _) (.inl rfl) ?_ (e := ?_)
    rotate_left
    · rw [yS hH]
      simp only [jn, s_, k_, o_, n_, i_, qbO, m_, a_, h_, g_, c_, z_, l_, qs, qEu, qy, qA, qB, qo, kl, qEs, qEA, qP, zS, ki, zh, kw, qf, qi, zB, qck, qEx, qEz, List.reduceReplicate, zt, Nat.reduceAdd, Nat.reduceLT, yE, qEC, qEF, qaj, qba, qbW, qgq, qb4, qEv, qbe, qt, qcA, zR, kZ, qL, qbH, qeW, Int.cast_ofNat_Int, kh, qh, qO, qK, jy, reduceCtorEq, qM, zn, Nat.reduceEqDiff, jH, qd5, kg, jv, z1, e_, x_, qm, kq, qED, qD, kS, Int.reduceLT, decide_true, qJ, qS, ↓reduceIte, qY, ko, i0, qaY, qce, jL, qh9, jQ, qC, qW, kY, qE, qk, ku, qQ, qr, kj, h0, qF, ql, qq, Nat.min_self, qEl, kc, qw, qz, kL, qEy, jr, Int.reduceAdd, w1, i1, h1, w2, i2, h2, w3, i3, h3, w4, decide_false, qbr, yW, j0, jq, zO, zN, jE, zP, qG, qp, zm, qEL, qH, ke, hH, kR, qEm, qEp, kF, yR, qEq, kO, hix, kQ, hi, e1, kM, qdh, qbp, qap, qaI]
      rfl
  · have e1 : (ixN c SG < 0) = False := eq_false q4
    rw [if_neg q4]
    simp only [SG] at hi e1
    have hH1 : (kn H id (sc s (a + 1)))[id]? = some (sc s (a + 1)) := jx hH
    have hwm : wr .i64 (((a + 1 : Nat) : Int) - 1) = (a : Int) := by rw [qcV (by omega) (by omega)]; omega
    have hmid := qut (l := s) (a := a) (b := a + 1) (by omega) (by omega)
    have hmm : (s.take (a + 1)).drop a = [c] := by
      rw [List.drop_take, hL]; simp
    rw [hmm] at hmid
    refine MRes.good hid hH (lo := id) (qEo _) (by omega) (.inr (qEo _)) ?_ (e := ?_)
    rotate_left
    · simp only [jn, s_, k_, o_, n_, i_, qbO, m_, a_, h_, g_, c_, z_, l_, qs, qEu, qy, qA, qB, qo, kl, qEs, qEA, qP, zS, ki, zh, kw, qf, qi, zB, qck, qEx, qEz, List.reduceReplicate, zt, Nat.reduceAdd, Nat.reduceLT, yE, qEC, qEF, qaj, qba, qbW, qgq, qb4, qEv, qbe, qt, qcA, zR, kZ, qL, qbH, qeW, Int.cast_ofNat_Int, kh, qh, qO, qK, jy, reduceCtorEq, qM, zn, Nat.reduceEqDiff, jH, qd5, kg, jv, z1, e_, x_, qm, kq, qED, qD, kS, Int.reduceLT, decide_true, qJ, qS, ↓reduceIte, qY, ko, i0, qaY, qce, jL, qh9, jQ, qC, qW, kY, qE, qk, ku, qQ, qr, kj, h0, qF, ql, qq, Nat.min_self, qEl, kc, qw, qz, kL, qEy, jr, Int.reduceAdd, w1, i1, h1, w2, i2, h2, w3, i3, h3, w4, decide_false, qbr, yW, j0, jq, zO, zN, jE, zP, qG, qp, zm, qEL, qH, ke, hH, kR, qEm, qEp, kF, yR, qEq, kO, hix, kQ, hi, e1, kM, hw1, kB, jP, yZ, zF, kI, jF, zl, kV, zf, kT, hm1, zM, hH1, qc9, hwm, qdr, qeC, qkP, qfQ, hmid, ju, qbd, j1, j6, ji, yx, jk, zc, zG, zY, jJ, zV, z8, zI, zJ, qcw, qX, qZ, qu, zA, y9, Nat.reduceLeDiff, qar, qEK, qEH, List.take_zero, qx, qN, kp]
      rfl
end W

