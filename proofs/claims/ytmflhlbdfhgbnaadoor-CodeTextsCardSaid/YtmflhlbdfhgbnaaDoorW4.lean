/-
  CodeTexts: how any instruction is told, and which ones have a number: part 4 of what the proof rests on (a value semantics for a part of the language, sound against the model; the walks).
-/
import Derived.WalkKit
import Derived.ProofKit
import Derived.OpenShut
import Derived.Carry
import Derived.ChangeSame
import Derived.RowKit
import Derived.Test.YtmflhlbdfhgbnaaDoorW3
/-
  Calls: what goes in, what comes back, whose it is meanwhile.
-/
set_option linter.unusedSimpArgs false
set_option linter.unusedVariables false
namespace W
open Go (World Value Addr IntKind Program TypeId FuncId Operand Act Oper Next Result Sem BinOp UnOp Ending Exit)

/-- The objects alone. -/
structure RelH (M : Maps) (g : Gh) (w : World) (H : List Obj) : Prop where
  n : g.n = H.length
  h : ∀ id o, H[id]? = some o → RepO M g w id o
  fresh : ∀ b, w.heap.size ≤ b → g.own b = none ∧ g.pub b = 0
  gl : GlOk M g w

theorem Rel.toH {M : Maps} {g : Gh} {w : World} {β : Nat → Nat} {st : St} {tmps : Array Value} (h : Rel M g w β st tmps) : RelH M g w st.H := ⟨h.n, h.h, h.fresh, h.gl⟩

/-- A value that is handed over: in place j. -/
inductive RepA (M : Maps) (g : Gh) (w : World) (j : Nat) : V → Value → Prop
  | s {v : V} {c : Value} (h : RepS M g w v c) : RepA M g w j v c
  | osl {xs : List D} {c : Value} (h : OwnSl g w (.slot j) xs c) : RepA M g w j (.osl xs) c

inductive ArgsRep (M : Maps) (g : Gh) (w : World) : Nat → List V → List Value → Prop
  | nil (j : Nat) : ArgsRep M g w j [] []
  | cons {j : Nat} {v : V} {c : Value} {vs : List V} {cs : List Value} (h : RepA M g w j v c) (hl : ArgsRep M g w (j + 1) vs cs) : ArgsRep M g w j (v :: vs) (c :: cs)

def CallPost (M : Maps) (g : Gh) (w : World) (r : Cr) : Ending → World → Prop
  | .returned v, w' => r.pan = false ∧ ∃ g', RelH M g' w' r.H ∧ Evo g w g' w' ∧ RepA M g' w' 0 r.v v
  | .panicked ch, w' => r.pan = true ∧ ∃ g' cv, ch = [{ v := cv, recovered := false }] ∧ RelH M g' w' r.H ∧ Evo g w g' w' ∧ RepA M g' w' 0 r.v cv
  | .outgrown, _ => False

/-- What a called function does, as an operation sees it. -/
def Does (P : Program) (f : FuncId) (args : Array Value) (w : World) (R : Ending → World → Prop) : Prop :=
  ∀ (o : Oper) (a : Act) (K : Act → World → Prop) (Q : Exit → Act → World → Prop), (∀ v w', R (.returned v) w' → K (a.put o.dst v) w') → (∀ ch w', R (.panicked ch) w' → Q (.panic ch) a w') →
    o.upon P a K Q ((Go.callFunc f args).run P w)

def CallSim (P : Program) (M : Maps) (call : Call) : Prop :=
  ∀ (i : Nat) (vs : List V) (H : List Obj) (r : Cr), call i vs H = some r → ∀ f', look M.fm f' = some i → ∀ g w argv, ArgsRep M g w 0 vs argv → RelH M g w H →
    Does P f' argv.toArray w (CallPost M g w r)

/-! The caller's own things are out of reach meanwhile. -/

def enterOwn (hand : Nat → Option Nat) : Option Loc → Option Loc
  | some (.slot n) => match hand n with
    | some j => some (.slot j)
    | none => some .out
  | some (.bblk _) => some .out
  | some (.bcell _ _) => some .out
  | x => x

def enterGh (hand : Nat → Option Nat) (g : Gh) : Gh := { g with own := fun b => enterOwn hand (g.own b) }

/-- Back: what the callee's result owns is the slot's d. -/
def backOwn (d : Option Nat) : Option Loc → Option Loc
  | some (.slot 0) => d.map .slot
  | some (.slot _) => none
  | some (.bblk _) => none
  | some (.bcell _ _) => none
  | x => x

def restOwn (hand : Nat → Option Nat) (d : Option Nat) (old new : Option Loc) : Option Loc :=
  match old with
  | some (.slot n) => match hand n with
    | some _ => backOwn d new
    | none => some (.slot n)
  | some (.bblk n) => some (.bblk n)
  | some (.bcell n i) => some (.bcell n i)
  | _ => backOwn d new

def restGh (hand : Nat → Option Nat) (d : Option Nat) (g g2 : Gh) : Gh := { g2 with own := fun b => restOwn hand d (g.own b) (g2.own b) }

theorem OwnSl.relabel {g g' : Gh} {w : World} {ℓ ℓ' : Loc} {xs : List D} {c : Value} (h : OwnSl g w ℓ xs c) (hp : g'.pub = g.pub) (ho : ∀ b, g.own b = some ℓ → g'.own b = some ℓ') : OwnSl g' w ℓ' xs c := by
  cases h with
  | mk b off cap sz vs arr T fz hne hsz hr hc hp' hcap hone ho' hb ha hff =>
    exact .mk xs b off cap sz vs arr T fz hne hsz (hp ▸ hr) hc (hp ▸ hp') hcap hone (ho b ho') hb ha hff
  | full ad h => exact .full xs ad (hp ▸ h)

section
variable {P : Program} {M : Maps} {g g2 : Gh} {w w2 : World} {hand : Nat → Option Nat} {d : Option Nat}

theorem enter_grow : Grow g w (enterGh hand g) w := ⟨Nat.le_refl _, fun _ => Nat.le_refl _, fun _ _ _ => rfl⟩

theorem enter_keptO (id : Nat) : Kept g w (enterGh hand g) w (.oblk id) := ⟨fun b h => ⟨by simp [enterGh, h, enterOwn], rfl, rfl⟩⟩
theorem enter_keptC (id i : Nat) : Kept g w (enterGh hand g) w (.ocell id i) := ⟨fun b h => ⟨by simp [enterGh, h, enterOwn], rfl, rfl⟩⟩

theorem enter_relH {H : List Obj} (h : RelH M g w H) : RelH M (enterGh hand g) w H :=
  ⟨h.n, fun id o ho => (h.h id o ho).mono enter_grow (Nat.le_refl _) (fun _ _ => rfl) (by rw [h.n]; exact (List.getElem?_eq_some_iff.1 ho).1) (enter_keptO id) (fun i => enter_keptC id i),
    fun b hb => by
      have := h.fresh b hb
      exact ⟨by simp [enterGh, this.1, enterOwn], this.2⟩, h.gl.mono enter_grow⟩

/-- What the callee may not touch is as it was. -/
theorem rest_local (hE : Evo (enterGh hand g) w g2 w2) {b : Nat} (hb : b < w.heap.size) (ho : enterOwn hand (g.own b) = some .out) : g2.own b = some .out ∧ w2.heap[b]? = w.heap[b]? ∧ g2.pub b = g.pub b := by
  obtain ⟨h1, h2, h3⟩ := hE.keep b hb (.inr ho)
  exact ⟨h1.trans ho, h2, h3⟩

theorem own_lt (hf : Fresh g w) {b : Nat} {ℓ : Loc} (h : g.own b = some ℓ) : b < w.heap.size := by
  rcases Nat.lt_or_ge b w.heap.size with hlt | hge
  · exact hlt
  · rw [(hf.f b hge).1] at h; cases h

theorem rest_grow (hE : Evo (enterGh hand g) w g2 w2) : Grow g w (restGh hand d g g2) w2 := ⟨hE.size, hE.pub, hE.cell⟩

theorem rest_keptSlot (hf : Fresh g w) (hE : Evo (enterGh hand g) w g2 w2) {k : Nat} (hk : hand k = none) : Kept g w (restGh hand d g g2) w2 (.slot k) := ⟨fun b h => by
  obtain ⟨h1, h2, h3⟩ := rest_local hE (own_lt hf h) (by rw [h]; simp [enterOwn, hk])
  exact ⟨by simp [restGh, h, restOwn, hk], h2, h3⟩⟩
theorem rest_keptBlk (hf : Fresh g w) (hE : Evo (enterGh hand g) w g2 w2) (k : Nat) : Kept g w (restGh hand d g g2) w2 (.bblk k) := ⟨fun b h => by
  obtain ⟨h1, h2, h3⟩ := rest_local hE (own_lt hf h) (by rw [h]; simp [enterOwn])
  exact ⟨by simp [restGh, h, restOwn], h2, h3⟩⟩
theorem rest_keptCell (hf : Fresh g w) (hE : Evo (enterGh hand g) w g2 w2) (k i : Nat) : Kept g w (restGh hand d g g2) w2 (.bcell k i) := ⟨fun b h => by
  obtain ⟨h1, h2, h3⟩ := rest_local hE (own_lt hf h) (by rw [h]; simp [enterOwn])
  exact ⟨by simp [restGh, h, restOwn], h2, h3⟩⟩

/-- What the callee left, as the caller has it. -/
theorem rest_new (hf : Fresh g w) (hE : Evo (enterGh hand g) w g2 w2) {b : Nat} {ℓ : Loc} (h : g2.own b = some ℓ) (hℓ : ℓ ≠ .out) : restOwn hand d (g.own b) (g2.own b) = backOwn d (some ℓ) := by
  have key : enterOwn hand (g.own b) ≠ some .out := fun ho => by
    have hb : b < w.heap.size := by
      cases hg : g.own b with
      | none => rw [hg] at ho; simp [enterOwn] at ho
      | some l => exact own_lt hf hg
    have := (rest_local hE hb ho).1
    rw [h] at this
    exact hℓ (Option.some.inj this)
  rw [h]
  cases hg : g.own b with
  | none => rfl
  | some l =>
    rw [hg] at key
    cases l with
    | slot n =>
      cases hh : hand n with
      | none => simp [enterOwn, hh] at key
      | some j => simp [restOwn, hh]
    | bblk n => simp [enterOwn] at key
    | bcell n i => simp [enterOwn] at key
    | oblk | ocell | out => rfl

theorem rest_grow2 : Grow g2 w2 (restGh hand d g g2) w2 := ⟨Nat.le_refl _, fun _ => Nat.le_refl _, fun _ _ _ => rfl⟩
theorem rest_kept2O (hf : Fresh g w) (hE : Evo (enterGh hand g) w g2 w2) (id : Nat) : Kept g2 w2 (restGh hand d g g2) w2 (.oblk id) := ⟨fun b h => ⟨by
  show restOwn hand d (g.own b) (g2.own b) = _
  rw [rest_new hf hE h (by simp)]; rfl, rfl, rfl⟩⟩
theorem rest_kept2C (hf : Fresh g w) (hE : Evo (enterGh hand g) w g2 w2) (id i : Nat) : Kept g2 w2 (restGh hand d g g2) w2 (.ocell id i) := ⟨fun b h => ⟨by
  show restOwn hand d (g.own b) (g2.own b) = _
  rw [rest_new hf hE h (by simp)]; rfl, rfl, rfl⟩⟩

theorem rest_relH (hf : Fresh g w) (hE : Evo (enterGh hand g) w g2 w2) {H : List Obj} (h : RelH M g2 w2 H) : RelH M (restGh hand d g g2) w2 H :=
  ⟨h.n, fun id o ho => (h.h id o ho).mono rest_grow2 (Nat.le_refl _) (fun _ _ => rfl) (by rw [h.n]; exact (List.getElem?_eq_some_iff.1 ho).1) (rest_kept2O hf hE id) (fun i => rest_kept2C hf hE id i),
    fun b hb => by
      have h2 := h.fresh b hb
      have h1 := hf.f b (Nat.le_trans hE.size hb)
      exact ⟨by simp [restGh, h1.1, h2.1, restOwn, backOwn], h2.2⟩, h.gl.mono rest_grow2⟩

theorem rest_evo (hf : Fresh g w) (hE : Evo (enterGh hand g) w g2 w2) : Evo g w (restGh hand d g g2) w2 :=
  ⟨rest_grow hE, hE.n, hE.φ, fun b hb ho => by
    have he : enterOwn hand (g.own b) = g.own b := by rcases ho with h | h <;> rw [h] <;> rfl
    have ho' : (enterGh hand g).own b = none ∨ (enterGh hand g).own b = some .out := by
      show enterOwn hand (g.own b) = none ∨ enterOwn hand (g.own b) = some .out
      rw [he]; exact ho
    obtain ⟨h1, h2, h3⟩ := hE.keep b hb ho'
    have h1' : g2.own b = g.own b := by rw [h1]; exact he
    refine ⟨?_, h2, h3⟩
    show restOwn hand d (g.own b) (g2.own b) = g.own b
    rw [h1']
    rcases ho with h | h <;> rw [h] <;> rfl, hE.io⟩

/-- The result, in the caller's hands. -/
theorem rest_osl (hf : Fresh g w) (hE : Evo (enterGh hand g) w g2 w2) {n : Nat} (hd : d = some n) {xs : List D} {c : Value} (h : OwnSl g2 w2 (.slot 0) xs c) : OwnSl (restGh hand d g g2) w2 (.slot n) xs c := by
  refine h.relabel rfl (fun b ho => ?_)
  show restOwn hand d (g.own b) (g2.own b) = _
  rw [rest_new hf hE ho (by simp), hd]
  rfl

end

/-! What is handed in. -/

def handOf : Nat → List O → Nat → Option Nat
  | _, [], _ => none
  | j, .mv m :: l, n => if m = n then some j else handOf (j + 1) l n
  | j, _ :: l, n => handOf (j + 1) l n

theorem handOf_none : ∀ {l : List O} {j n : Nat}, handOf j l n = none → n ∉ mvsOf l
  | [], _, _, _ => by simp [mvsOf]
  | .mv m :: l, j, n, h => by
    simp only [handOf] at h
    split at h
    · cases h
    · rename_i hne
      simp only [mvsOf, List.mem_cons, not_or]
      exact ⟨fun e => hne e.symm, handOf_none h⟩
  | .t m :: l, j, n, h => handOf_none (l := l) (j := j + 1) h
  | .c m :: l, j, n, h => handOf_none (l := l) (j := j + 1) h
  | .f m :: l, j, n, h => handOf_none (l := l) (j := j + 1) h
  | .g _ _ :: l, j, n, h => handOf_none (l := l) (j := j + 1) h

theorem handOf_some : ∀ {l : List O} {j n : Nat} {k : Nat}, handOf j l n = some k → n ∈ mvsOf l
  | [], _, _, _, h => by simp [handOf] at h
  | .mv m :: l, j, n, k, h => by
    simp only [handOf] at h
    split at h
    · rename_i e; simp [mvsOf, e]
    · simp only [mvsOf, List.mem_cons]; exact .inr (handOf_some h)
  | .t m :: l, j, n, k, h => handOf_some (l := l) (j := j + 1) h
  | .c m :: l, j, n, k, h => handOf_some (l := l) (j := j + 1) h
  | .f m :: l, j, n, k, h => handOf_some (l := l) (j := j + 1) h
  | .g _ _ :: l, j, n, k, h => handOf_some (l := l) (j := j + 1) h

theorem nodupB_nodup : ∀ {l : List Nat}, nodupB l = true → l.Nodup
  | [], _ => List.nodup_nil
  | n :: l, h => by
    simp only [nodupB, Bool.and_eq_true, Bool.not_eq_true', List.any_eq_false] at h
    refine List.nodup_cons.2 ⟨fun hm => h.1 n hm (by simp), nodupB_nodup h.2⟩

theorem get_spentAll : ∀ (l : List O) (e : Env) (k : Nat), get k (spentAll l e) = if k ∈ mvsOf l then .undef else get k e
  | [], e, k => by simp [spentAll, mvsOf]
  | .mv m :: l, e, k => by
    simp only [spentAll, spent, mvsOf, List.mem_cons]
    rw [get_spentAll l, get_cons]
    by_cases h1 : k ∈ mvsOf l <;> by_cases h2 : k = m <;> simp [h1, h2]
  | .t m :: l, e, k => get_spentAll l e k
  | .c m :: l, e, k => get_spentAll l e k
  | .f m :: l, e, k => get_spentAll l e k
  | .g _ _ :: l, e, k => get_spentAll l e k

section
variable {P : Program} {M : Maps} {g : Gh} {w : World} {β : Nat → Nat} {st : St} {o : Oper} {a : Act}

theorem enter_repS {v : V} {c : Value} {hand : Nat → Option Nat} (h : RepS M g w v c) : RepS M (enterGh hand g) w v c := h.mono enter_grow (Nat.le_refl _) (fun _ _ => rfl) h.ref

theorem enter_list {hand : Nat → Option Nat} : ∀ {vs : List V} {cs : List Value} (j : Nat), RepSL M g w vs cs → ArgsRep M (enterGh hand g) w j vs cs
  | _, _, j, .nil => .nil j
  | _, _, j, .cons _ _ _ _ h hl => .cons (.s (enter_repS h)) (enter_list (j + 1) hl)

theorem args_append : ∀ {vs : List V} {cs : List Value} {vs' : List V} {cs' : List Value} {j : Nat}, ArgsRep M g w j vs cs → ArgsRep M g w (j + vs.length) vs' cs' → ArgsRep M g w j (vs ++ vs') (cs ++ cs')
  | [], _, _, _, j, .nil _, h' => by simpa using h'
  | _ :: vs, _, _, _, j, .cons h hl, h' => .cons h (args_append hl (by
      simp only [List.length_cons] at h'
      rwa [show j + 1 + vs.length = j + (vs.length + 1) by omega]))

theorem RepV.leavesS {v : V} {c : Value} (h : RepV M g w β v c) (hv : v.leaves = true) : RepS M g w v c := by
  cases h with
  | s h => exact h
  | lp => simp [V.leaves, V.ok] at hv
  | cp => simp [V.leaves, V.ok] at hv

/-- Operands handed in: each slice that is taken along belongs to its place. -/
theorem enter_args (hR : Rel M g w β st a.tmps) {hand : Nat → Option Nat} {m : Nat → Bool} : ∀ {xs : List Operand} {os : List O} (i j : Nat), opnds M m i xs = some os → V.allLeave (os.map (rd st.env)) = true → (mvsOf os).Nodup →
    (∀ n ∈ mvsOf os, hand n = handOf j os n) → ArgsRep M (enterGh hand g) w j (os.map (rd st.env)) (xs.map a.eval)
  | [], os, i, j, h, _, _, _ => by simp only [opnds, Option.some.injEq] at h; subst h; exact .nil j
  | x :: xs, os, i, j, h, hl, hnd, hh => by
    simp only [opnds] at h
    split at h
    · rename_i y r hy hr
      simp only [Option.some.injEq] at h
      subst h
      simp only [List.map_cons, V.allLeave, Bool.and_eq_true] at hl ⊢
      have h1 := rdm_rep hR hy
      have hnd' : (mvsOf r).Nodup := by
        cases y with
        | mv n => exact (List.nodup_cons.1 hnd).2
        | _ => exact hnd
      have ih := enter_args hR (hand := hand) (i + 1) (j + 1) hr hl.2 hnd' (fun n hn => by
        cases y with
        | mv n' =>
          have hne : n' ≠ n := fun e => (List.nodup_cons.1 hnd).1 (e ▸ hn)
          rw [hh n (by simp [mvsOf, hn])]
          simp [handOf, hne]
        | t _ => rw [hh n hn]; rfl
        | c _ => rw [hh n hn]; rfl
        | f _ => rw [hh n hn]; rfl
        | g _ _ => rw [hh n hn]; rfl)
      refine .cons ?_ ih
      generalize hv : rd st.env y = v at h1 hl
      cases h1 with
      | v h1 => exact .s (enter_repS (h1.leavesS hl.1))
      | own h1 =>
        rename_i n xs'
        have hn : hand n = some j := by rw [hh n (by simp [mvsOf])]; simp [handOf]
        exact .osl (h1.relabel rfl (fun b ho => by simp [enterGh, ho, enterOwn, hn]))
    · cases h

end
end W

/-
  A call, as the caller sees it; a function's body, as the call sees it.
-/
set_option linter.unusedSimpArgs false
set_option linter.unusedVariables false
namespace W
open Go (World Value Addr IntKind Program TypeId FuncId Operand Act Oper Next Result Sem BinOp UnOp Ending Exit)

theorem allLeave_append {a b : List V} : V.allLeave (a ++ b) = (V.allLeave a && V.allLeave b) := by
  induction a with
  | nil => simp [V.allLeave]
  | cons v l ih => simp [V.allLeave, ih, Bool.and_assoc]

section
variable {P : Program} {M : Maps} {g : Gh} {w : World} {β : Nat → Nat} {st : St} {o : Oper} {a : Act} {call : Call}

/-- What a call leaves is laid. -/
theorem Rel.putCall (hd : DstOk o a) (hR : Rel M g w β st a.tmps) {os : List O} {j : Nat} {g2 : Gh} {w2 : World} (hE : Evo (enterGh (handOf j os) g) w g2 w2) {H' : List Obj} (hH : RelH M g2 w2 H') {v : V} {c : Value} (hv : RepA M g2 w2 0 v c) {lo : Nat} :
    ∃ g', Rel M g' w2 β (put o.dst v { env := W.spentAll os st.env, H := H', lo := lo }) (a.put o.dst c).tmps ∧ Evo g w g' w2 := by
  have hf := hR.fr
  have hrel : ∀ d, Rel M (restGh (handOf j os) d g g2) w2 β { env := W.spentAll os st.env, H := H', lo := lo } a.tmps := fun d => by
    have hrh := rest_relH (d := d) hf hE hH
    refine ⟨hrh.n, fun k => ?_, hrh.h, hrh.fresh, hrh.gl⟩
    show RepT M _ w2 β k (get k (W.spentAll os st.env)) _
    rw [get_spentAll]
    by_cases hk : k ∈ mvsOf os
    · simp only [hk, if_true]; exact .s (.undef _)
    · simp only [hk, if_false]
      have hh : handOf j os k = none := by
        cases hq : handOf j os k with
        | none => rfl
        | some q => exact absurd (handOf_some hq) hk
      refine (hR.e k).mono (rest_grow hE) ?_ ?_ (rest_keptSlot hf hE hh) (rest_keptBlk hf hE k) (fun i => rest_keptCell hf hE k i)
      · exact hE.n
      · exact hE.φ
  cases hv with
  | s hv =>
    refine ⟨_, (hrel none).putV hd (.s ?_), rest_evo hf hE⟩
    exact hv.mono rest_grow2 (Nat.le_refl _) (fun _ _ => rfl) hv.ref
  | osl hv =>
    rw [put_plain (by intro cs e; cases e), Act.put_tmps]
    cases hdst : o.dst with
    | none => exact ⟨_, hrel none, rest_evo hf hE⟩
    | some n => exact ⟨_, (hrel (some n)).lay (hd n hdst) (.osl (rest_osl hf hE rfl hv)), rest_evo hf hE⟩

theorem sim_call (hcs : CallSim P M call) (hd : DstOk o a) (hR : Rel M g w β st a.tmps) {c : Go.Call} {f : Operand} {f' : O} {m : Nat → Bool} {l : List O} (hcal : c.callee = .value f) (hf : opnd M false f = some f')
    (hx : opnds M m 0 c.args.toList = some l) (hnd : nodupB (mvsOf l) = true) (ho : o.op = .call c) {r : Or} (hr : eCall call f' l st = some r) {K : Act → World → Prop} {Q : Exit → Act → World → Prop}
    (hK : r.pan = false → ∀ c w' g' β', Rel M g' w' β' (put o.dst r.v r.st) (a.put o.dst c).tmps → Evo g w g' w' → K (a.put o.dst c) w')
    (hQ : r.pan = true → ∀ cv w' g', RelH M g' w' r.st.H → Evo g w g' w' → RepA M g' w' 0 r.v cv → Q (.panic [{ v := cv, recovered := false }]) a w') :
    o.wp P a w K Q := by
  have h1 := rd_rep hR hf
  unfold eCall at hr
  split at hr
  · rename_i i first cap hfv
    simp only at hr
    split at hr
    · rename_i hl
      split at hr
      · rename_i q hq
        simp only [Option.some.injEq] at hr
        subst hr
        rw [hfv] at h1
        generalize hfe : a.eval f = fc at h1
        cases h1 with
        | s h1 => cases h1 with
          | fn _ f2 _ _ fv cv hlook hr1 hr2 =>
            simp only [allLeave_append, Bool.and_eq_true] at hl
            let hand := handOf first.length l
            have ha1 : ArgsRep M (enterGh hand g) w 0 first fv.toList := enter_list 0 hr1
            have ha2 : ArgsRep M (enterGh hand g) w first.length (l.map (rd st.env)) (c.args.toList.map a.eval) :=
              enter_args hR 0 first.length hx hl.1.2 (nodupB_nodup hnd) (fun _ _ => rfl)
            have ha3 := enter_list (hand := hand) (first ++ l.map (rd st.env)).length hr2
            have hargs := args_append (args_append ha1 (by simpa using ha2)) (by simpa using ha3)
            have hdoes := hcs i _ _ q hq f2 hlook (enterGh hand g) w _ hargs (enter_relH hR.toH)
            have hrun : (Go.execOp a.eval o).run P w = (Go.callFunc f2 (fv.toList ++ c.args.toList.map a.eval ++ cv.toList).toArray).run P w := by
              have e : (fv.toList ++ c.args.toList.map a.eval ++ cv.toList).toArray = fv ++ c.args.map a.eval ++ cv := by
                apply Array.ext'; simp
              rw [e]
              simp only [Go.execOp, ho, Go.resolve, hcal, hfe, Go.Deferred.ofValue, Sem.run_bind, Sem.run_pure, Result.andThen_ok, Go.invoke]
            unfold Oper.wp
            rw [hrun]
            refine hdoes o a K Q (fun v w' hp => ?_) (fun ch w' hp => ?_)
            · obtain ⟨hpan, g', hH, hE, hv⟩ := hp
              obtain ⟨g3, h3, h4⟩ := hR.putCall hd hE hH hv
              exact hK hpan v w' g3 β h3 h4
            · obtain ⟨hpan, g', cv', rfl, hH, hE, hv⟩ := hp
              refine hQ hpan cv' w' (restGh hand (some 0) g g') (rest_relH hR.fr hE hH) (rest_evo hR.fr hE) ?_
              simp only at hv ⊢
              generalize q.v = qv at hv
              cases hv with
              | s hv => exact .s (hv.mono rest_grow2 (Nat.le_refl _) (fun _ _ => rfl) hv.ref)
              | osl hv => exact .osl (rest_osl hR.fr hE rfl hv)
      · cases hr
    · cases hr
  · cases hr

/-- Objects that nobody wrote, and that name no newer ones, are the same without the newer ones. -/
theorem RepO.shrink {g2 : Gh} {w2 : World} {id : Nat} {ob : Obj} (h : RepO M g2 w2 id ob) (h0 : RepO M g w id ob) (hn : g.n ≤ g2.n) (hid : id < g.n) : RepO M { g2 with n := g.n } w2 id ob := by
  have hg : Grow g2 w2 { g2 with n := g.n } w2 := ⟨Nat.le_refl _, fun _ => Nat.le_refl _, fun _ _ _ => rfl⟩
  cases h with
  | cells cs arr T hb ho hp hl hr =>
    cases h0 with
    | cells _ arr0 T0 hb0 ho0 hp0 hl0 hr0 =>
      refine .cells cs arr T hb ho hp hl (fun i x v hx hv => ?_)
      have hlt : i < arr0.size := by rw [← hl0]; exact (List.getElem?_eq_some_iff.1 hx).1
      have h1 := hr0 i x arr0[i] hx (by simp [hlt])
      cases hr i x v hx hv with
      | s h2 =>
        cases h1 with
        | s h1 => exact .s (h2.mono hg (Nat.le_refl _) (fun _ _ => rfl) h1.ref)
        | osl _ => cases h2
      | osl h2 => exact .osl (h2.relabel rfl (fun _ h => h))
  | map es ents clock hb ho hr =>
    cases h0 with
    | map _ ents0 clock0 hb0 ho0 hr0 =>
      refine .map es ents clock hb ho ?_
      clear hb hb0
      generalize ents.toList = l at hr
      generalize ents0.toList = l0 at hr0
      induction hr generalizing l0 with
      | nil => exact .nil
      | cons k x e es ents hk hgk hx hl ih =>
        cases hr0 with
        | cons _ _ e0 _ l0' hk0 hgk0 hx0 hl0 =>
          exact .cons k x e es ents (hk.mono (fun _ => Nat.le_refl _) (fun _ _ _ => rfl)) hgk (hx.mono hg (Nat.le_refl _) (fun _ _ => rfl) hx0.ref) (ih _ hl0)

/-- A row is settled, or it isn't one. -/
theorem settle_cases (n : Nat) (H : List Obj) (v : V) : settle n H v = v ∨ ∃ id off len cap cs ds, v = .rs id off len cap ∧ n ≤ id ∧ H[id]? = some (.cells cs) ∧ off + len ≤ cs.length ∧ 0 < len ∧ allD ((cs.drop off).take len) = some ds ∧ D.ones ds = true ∧ settle n H v = .d (.sl ds) := by
  cases v with
  | rs id off len cap =>
    simp only [settle]
    cases hn : Nat.ble n id with
    | false => exact .inl (by simp)
    | true =>
      simp only [cond_true, settleR]
      split
      · rename_i cs hcs
        cases hb : (Nat.ble (off + len) cs.length && Nat.blt 0 len) with
        | false => exact .inl (by simp)
        | true =>
          simp only [cond_true]
          simp only [Bool.and_eq_true] at hb
          split
          · rename_i ds hds
            cases ho : D.ones ds with
            | false => exact .inl (by simp)
            | true =>
              exact .inr ⟨id, off, len, cap, cs, ds, rfl, Nat.le_of_ble_eq_true hn, hcs, Nat.le_of_ble_eq_true hb.1, by have := Nat.le_of_ble_eq_true hb.2; omega, hds, ho, by simp⟩
          · exact .inl rfl
      · exact .inl rfl
  | _ => exact .inl rfl

/-- A block that was an object's alone is published for good. -/
def Gh.settled (g : Gh) (n b k : Nat) : Gh := { n := n, φ := g.φ, pub := fun x => if x = b then k else g.pub x, own := fun x => if x = b then none else g.own x }

/-- Behind a body: 'leave'. -/
theorem leave_settled {H : List Obj} {st2 : St} {g2 : Gh} {w2 : World} (h0 : RelH M g w H) (h2 : RelH M g2 w2 st2.H) (hE : Evo g w g2 w2) (hold : ∀ id, id < H.length → st2.H[id]? = H[id]?)
    {id off len cap : Nat} {c : Value} (hv : RepA M g2 w2 0 (.rs id off len cap) c) {cs : List V} {ds : List D} (hid : H.length ≤ id) (hob : st2.H[id]? = some (.cells cs)) (hle : off + len ≤ cs.length) (hpos : 0 < len)
    (hds : allD ((cs.drop off).take len) = some ds) (hones : D.ones ds = true) :
    ∃ g', RelH M g' w2 H ∧ Evo g w g' w2 ∧ RepA M g' w2 0 (.d (.sl ds)) c := by
  cases h2.h id _ hob with
  | cells _ arr T hb ho hp hl hr =>
    have hbl : g2.φ id < w2.heap.size := (Array.getElem?_eq_some_iff.1 hb).1
    let g' := g2.settled g.n (g2.φ id) arr.size
    have hg : Grow g2 w2 g' w2 := ⟨Nat.le_refl _, fun x => by
      show g2.pub x ≤ (if x = g2.φ id then arr.size else g2.pub x)
      split
      · rename_i e; subst e; rw [hp]; exact Nat.zero_le _
      · exact Nat.le_refl _, fun _ _ _ => rfl⟩
    have hg1 : Grow { g2 with n := g.n } w2 g' w2 := ⟨hg.size, hg.pub, hg.cell⟩
    have hk : ∀ ℓ, ℓ ≠ .oblk id → Kept { g2 with n := g.n } w2 g' w2 ℓ := fun ℓ hℓ => ⟨fun x hx => by
      have hne : x ≠ g2.φ id := by
        intro e; subst e
        have hx' : g2.own (g2.φ id) = some ℓ := hx
        rw [ho] at hx'
        exact hℓ (Option.some.inj hx').symm
      exact ⟨by simp [g', Gh.settled, hne]; exact hx, rfl, by simp [g', Gh.settled, hne]⟩⟩
    have hgn : g'.n = g.n := rfl
    refine ⟨g', ⟨h0.n, fun i ob hi => ?_, fun x hx => ?_, h2.gl.mono hg⟩, ⟨⟨hE.size, fun x => Nat.le_trans (hE.pub x) (hg.pub x), hE.cell⟩, Nat.le_refl _, hE.φ, fun x hx hxo => ?_, hE.io⟩, ?_⟩
    · have hlt : i < H.length := (List.getElem?_eq_some_iff.1 hi).1
      have e := hold i hlt
      have hgl : i < g.n := by rw [h0.n]; exact hlt
      exact ((h2.h i ob (e ▸ hi)).shrink (h0.h i ob hi) hE.n hgl).mono hg1 (Nat.le_refl _) (fun _ _ => rfl) hgl (hk _ (by simp; omega)) (fun j => hk _ (by simp))
    · have hne : x ≠ g2.φ id := by omega
      have := h2.fresh x hx
      simpa [g', Gh.settled, hne] using this
    · obtain ⟨k1, k2, k3⟩ := hE.keep x hx hxo
      have hne : x ≠ g2.φ id := by
        intro e; subst e
        rw [ho] at k1
        rcases hxo with h | h <;> rw [h] at k1 <;> cases k1
      exact ⟨by simp [g', Gh.settled, hne]; exact k1, k2, by simp [g', Gh.settled, hne]; exact k3⟩
    · cases hv with
      | s hv =>
        cases hv with
        | rs _ _ _ _ hidn hcap =>
          obtain ⟨vs, hvl, hrep, hcell⟩ := cells_part (M := M) (g := g2) hds hl hle hb (fun i x v hx hv => (hr i x v hx hv).read)
          have hdl : ds.length = len := by rw [hrep.length, hvl]
          have hflat : ∀ (l : List D), D.ones l = true → l.flatMap D.cells = l ∧ ∀ x ∈ l, x.cells.length = 1 := by
            intro l
            induction l with
            | nil => intro _; exact ⟨rfl, fun x hx => by simp at hx⟩
            | cons y l ih =>
              intro h
              simp only [D.ones, Bool.and_eq_true] at h
              obtain ⟨i1, i2⟩ := ih h.2
              refine ⟨by rw [List.flatMap_cons, i1, one_cells h.1]; rfl, fun x hx => ?_⟩
              rcases List.mem_cons.1 hx with rfl | hx
              · rw [one_cells h.1]; rfl
              · exact i2 x hx
          obtain ⟨f1, f2⟩ := hflat ds hones
          have hrep' : RepDL g'.pub w2 ds vs := hrep.mono hg.pub hg.cell
          refine .s (.d _ _ ?_)
          rw [← hdl]
          refine .sl ds (g2.φ id) off cap 1 vs (by intro e; rw [e] at hdl; simp at hdl; omega) f2 (by rw [f1]; exact hrep') hcell ?_ (by omega) (hrep.ones hones)
          show off + vs.length ≤ (if g2.φ id = g2.φ id then arr.size else _)
          rw [if_pos rfl, hvl, ← hl]
          exact hle

theorem leave_post {H : List Obj} {st2 : St} {g2 : Gh} {w2 : World} (h0 : RelH M g w H) (h2 : RelH M g2 w2 st2.H) (hE : Evo g w g2 w2) (hlo : ∀ id, id < st2.lo → id < H.length → st2.H[id]? = H[id]?)
    {pan : Bool} {v : V} {c : Value} (hv : RepA M g2 w2 0 v c) {r : Cr} (hr : leave H pan v st2 = some r) :
    r.pan = pan ∧ ∃ g', RelH M g' w2 r.H ∧ Evo g w g' w2 ∧ RepA M g' w2 0 r.v c := by
  unfold leave at hr
  cases hl : v.leaves with
  | false => simp [hl] at hr
  | true =>
    simp only [hl, cond_true] at hr
    cases hs : (Nat.ble (settle H.length st2.H v).ref H.length && Nat.ble H.length st2.lo) with
    | false =>
      simp only [hs, cond_false, Option.some.injEq] at hr
      subst hr
      exact ⟨rfl, g2, h2, hE, hv⟩
    | true =>
      simp only [hs, cond_true, Option.some.injEq] at hr
      subst hr
      simp only [Bool.and_eq_true] at hs
      have hs1 := Nat.le_of_ble_eq_true hs.1
      have hs2 := Nat.le_of_ble_eq_true hs.2
      rcases settle_cases H.length st2.H v with hset | ⟨id, off, len, cap, cs, ds, rfl, k1, k2, k3, k4, k5, k6, k7⟩
      case inr =>
        rw [k7]
        exact ⟨rfl, leave_settled h0 h2 hE (fun i hi => hlo i (by omega) hi) hv k1 k2 k3 k4 k5 k6⟩
      rw [hset] at hs1 ⊢
      have hg : Grow g2 w2 { g2 with n := g.n } w2 := ⟨Nat.le_refl _, fun _ => Nat.le_refl _, fun _ _ _ => rfl⟩
      refine ⟨rfl, { g2 with n := g.n }, ⟨h0.n, fun id ob hob => ?_, h2.fresh, h2.gl.mono hg⟩, ⟨⟨hE.size, hE.pub, hE.cell⟩, Nat.le_refl _, hE.φ, hE.keep, hE.io⟩, ?_⟩
      · have hlt : id < H.length := (List.getElem?_eq_some_iff.1 hob).1
        have e := hlo id (by omega) hlt
        exact (h2.h id ob (e ▸ hob)).shrink (h0.h id ob hob) hE.n (by rw [h0.n]; exact hlt)
      · cases hv with
        | s hv => exact .s (hv.mono hg (Nat.le_refl _) (fun _ _ => rfl) (by rw [h0.n]; exact hs1))
        | osl hv => exact .osl (hv.relabel rfl (fun _ h => h))

end
end W

/-
  Every operation.
-/
set_option linter.unusedSimpArgs false
set_option linter.unusedVariables false
namespace W
open Go (World Value Addr IntKind Program TypeId FuncId Operand Act Oper Next Result Sem BinOp UnOp Ending Exit)

section
variable {P : Program} {M : Maps} {g : Gh} {w : World} {β : Nat → Nat} {st : St} {o : Oper} {a : Act} {call : Call}

/-- What an operation's model leaves to do. -/
structure Ends (P : Program) (M : Maps) (g : Gh) (w : World) (o : Oper) (a : Act) (r : Or) (K : Act → World → Prop) (Q : Exit → Act → World → Prop) : Prop where
  k : r.pan = false → ∀ c w' g' β', Rel M g' w' β' (put o.dst r.v r.st) (a.put o.dst c).tmps → Evo g w g' w' → K (a.put o.dst c) w'
  q : r.pan = true → ∀ cv w' g', RelH M g' w' r.st.H → Evo g w g' w' → RepA M g' w' 0 r.v cv → Q (.panic [{ v := cv, recovered := false }]) a w'

theorem Left1.wp {r : Or} {K : Act → World → Prop} {Q : Exit → Act → World → Prop} (h : Left1 P M g w o a r) (hp : r.pan = false) (he : Ends P M g w o a r K Q) : o.wp P a w K Q := by
  obtain ⟨c, w', g', β', hy, hR, hE⟩ := h
  exact hy.wp (he.k hp c w' g' β' hR hE)

theorem sim_panic (hR : Rel M g w β st a.tmps) {x : Operand} {x' : O} (hx : opnd M false x = some x') (ho : o.op = .panic x) {r : Or} (hr : ePanic x' st = some r) {K : Act → World → Prop} {Q : Exit → Act → World → Prop}
    (he : Ends P M g w o a r K Q) : o.wp P a w K Q := by
  have h1 := rd_rep hR hx
  unfold ePanic at hr
  split at hr
  · rename_i t y hv
    simp only [Option.some.injEq] at hr
    subst hr
    rw [hv] at h1
    generalize hc : a.eval x = c at h1
    cases h1 with
    | s h1 =>
      have h2 := h1
      cases h1 with
      | ifc _ t' _ cv ht hcv =>
        have hrun : (Go.execOp a.eval o).run P w = .halt (.panic (.iface t' cv)) w := by
          simp only [Go.execOp, ho, hc, Go.Instr.panic, Sem.run_bind]
          rfl
        unfold Oper.wp
        rw [hrun]
        exact he.q rfl _ w g hR.toH (Evo.refl g w) (.s h2)
  · cases hr

theorem sim_op (hcs : CallSim P M call) (hd : DstOk o a) (hR : Rel M g w β st a.tmps) {A : Ann} {m : Nat → Bool} {loc : Bool} {k : OpK} (htr : trOp M P A m loc o.op = some k) (hloc : loc = true → o.dst ≠ none)
    {r : Or} (hr : evalK call k st = some r) {K : Act → World → Prop} {Q : Exit → Act → World → Prop} (he : Ends P M g w o a r K Q) : o.wp P a w K Q := by
  have fin : k.mayPan = false → Left1 P M g w o a r → o.wp P a w K Q := fun hk h => h.wp (pan_evalK hr hk) he
  cases hop : o.op with
  | move x =>
    simp only [hop, trOp, Option.map_eq_some_iff] at htr
    obtain ⟨y, hy, rfl⟩ := htr
    exact fin rfl (sim_mov hd hR hy (.inl hop) hr)
  | assign x =>
    simp only [hop, trOp, Option.map_eq_some_iff] at htr
    obtain ⟨y, hy, rfl⟩ := htr
    exact fin rfl (sim_mov hd hR hy (.inr hop) hr)
  | pick c x y =>
    simp only [hop, trOp, Option.bind_eq_bind, Option.bind_eq_some_iff, Option.pure_def, Option.some.injEq] at htr
    obtain ⟨c', hc, x', hx, y', hy, rfl⟩ := htr
    exact fin rfl (sim_pick hd hR hc hx hy hop hr)
  | alloc t =>
    simp only [hop, trOp, Option.bind_eq_bind, Option.bind_eq_some_iff, Option.pure_def, Option.some.injEq] at htr
    obtain ⟨z, hz, rfl⟩ := htr
    exact fin rfl (sim_alloc hd hR hz hop hloc hr)
  | box t x =>
    simp only [hop, trOp, Option.bind_eq_bind, Option.bind_eq_some_iff, Option.pure_def, Option.some.injEq] at htr
    obtain ⟨x', hx, rfl⟩ := htr
    exact fin rfl (sim_box hd hR hx hop hloc hr)
  | build t ps =>
    simp only [hop, trOp] at htr
    split at htr
    · rename_i fs hu
      split at htr
      · rename_i hpl
        simp only [Option.bind_eq_bind, Option.bind_eq_some_iff, Option.pure_def, Option.some.injEq] at htr
        obtain ⟨z, hz, ps', hps, rfl⟩ := htr
        exact fin rfl (sim_buildStruct hd hR hop hu hpl hz hps hr)
      · cases htr
    · rename_i n e hu
      simp only [Option.bind_eq_bind, Option.bind_eq_some_iff, Option.pure_def, Option.some.injEq] at htr
      obtain ⟨z, hz, l, hl, ps', hps, rfl⟩ := htr
      exact fin rfl (sim_buildArray hd hR hop hu hl hz hps hr)
    · cases htr
  | buildSlice t n ps =>
    simp only [hop, trOp] at htr
    split at htr
    · rename_i e hu
      split at htr
      · rename_i l z hl hz
        split at htr
        · rename_i hs
          simp only [Option.bind_eq_bind, Option.bind_eq_some_iff, Option.pure_def, Option.some.injEq] at htr
          obtain ⟨ps', hps, rfl⟩ := htr
          exact fin rfl (sim_buildSlice hd hR hop hu hl hz hs hps hr)
        · cases htr
      · cases htr
    · cases htr
  | load t x =>
    simp only [hop, trOp, Option.bind_eq_bind, Option.bind_eq_some_iff, Option.pure_def, Option.some.injEq] at htr
    obtain ⟨l, hl, x', hx, rfl⟩ := htr
    refine fin rfl ?_
    simp only [evalK] at hr
    cases hm : m 9 with
    | false => rw [hm] at hr; exact sim_load hd hR hl hx hop hr
    | true => rw [hm] at hr; exact sim_loadMv hd hR hl hx hop hr
  | store t p x =>
    simp only [hop, trOp, Option.bind_eq_bind, Option.bind_eq_some_iff, Option.pure_def, Option.some.injEq] at htr
    obtain ⟨l, hl, p', hp, x', hx, rfl⟩ := htr
    exact fin rfl (sim_store hd hR hl hp hx hop hr)
  | nilCheck x =>
    simp only [hop, trOp, Option.map_eq_some_iff] at htr
    obtain ⟨y, hy, rfl⟩ := htr
    exact fin rfl (sim_nilCheck hd hR hy hop hr)
  | binOp op t x y yt =>
    simp only [hop, trOp, Option.bind_eq_bind, Option.bind_eq_some_iff, Option.pure_def, Option.some.injEq] at htr
    obtain ⟨kd, hk, x', hx, y', hy, rfl⟩ := htr
    exact fin rfl (sim_bin hd hR hx hy hk hop hr)
  | unOp op t x =>
    simp only [hop, trOp, Option.bind_eq_bind, Option.bind_eq_some_iff, Option.pure_def, Option.some.injEq] at htr
    obtain ⟨x', hx, rfl⟩ := htr
    exact fin rfl (sim_un hd hR hx hop hr)
  | convert s t x =>
    simp only [hop, trOp] at htr
    split at htr
    · rename_i k1 k2 h1 h2
      simp only [Option.bind_eq_bind, Option.bind_eq_some_iff, Option.pure_def, Option.some.injEq] at htr
      obtain ⟨x', hx, rfl⟩ := htr
      exact fin rfl (sim_conv hd hR hx h1 h2 hop hr)
    · rename_i h1 h2
      simp only [Option.bind_eq_bind, Option.bind_eq_some_iff, Option.pure_def, Option.some.injEq] at htr
      obtain ⟨x', hx, rfl⟩ := htr
      exact fin rfl (sim_convS hd hR hx h1 h2 hop hr)
    · rename_i e h1 h2
      split at htr
      · rename_i h3
        simp only [Option.bind_eq_bind, Option.bind_eq_some_iff, Option.pure_def, Option.some.injEq] at htr
        obtain ⟨x', hx, rfl⟩ := htr
        exact fin rfl (sim_bytes hd hR hx h1 h2 h3 hop hr)
      · cases htr
    · rename_i e h1 h2
      split at htr
      · rename_i h3
        simp only [Option.bind_eq_bind, Option.bind_eq_some_iff, Option.pure_def, Option.some.injEq] at htr
        obtain ⟨x', hx, rfl⟩ := htr
        exact fin rfl (sim_text hd hR hx h1 h2 h3 hop hr)
      · cases htr
    · cases htr
  | makeInterface t x =>
    simp only [hop, trOp] at htr
    split at htr
    · cases htr
    · cases htr
    · rename_i dd hni hu
      simp only [Option.bind_eq_bind, Option.bind_eq_some_iff, Option.pure_def, Option.some.injEq] at htr
      obtain ⟨t', ht, x', hx, rfl⟩ := htr
      exact fin rfl (sim_mkIfc hd hR ht hu (fun m e => hni m e) hx hop hr)
  | makeFunc fn xs ys =>
    cases fn with
    | func f =>
      simp only [hop, trOp, Option.bind_eq_bind, Option.bind_eq_some_iff, Option.pure_def, Option.some.injEq] at htr
      obtain ⟨f', hf, xs', hx, ys', hy, rfl⟩ := htr
      exact fin rfl (sim_mkFn hd hR hf hx hy hop hr)
    | _ => simp [hop, trOp] at htr
  | makeMap t x =>
    cases x with
    | none =>
      simp only [hop, trOp] at htr
      split at htr
      · simp only [Option.some.injEq] at htr
        subst htr
        exact fin rfl (sim_mkMap hd hR hop hr)
      · cases htr
    | some x => simp [hop, trOp] at htr
  | makeSlice t x y =>
    simp only [hop, trOp] at htr
    split at htr
    · rename_i e hu
      split at htr
      · rename_i i z hi hz
        split at htr
        · rename_i hs
          simp only [Option.bind_eq_bind, Option.bind_eq_some_iff, Option.pure_def, Option.some.injEq] at htr
          obtain ⟨x', hx, y', hy, rfl⟩ := htr
          exact fin rfl (sim_mkSlice hd hR hu hi hz hs hx hy hop hr)
        · cases htr
      · cases htr
    · cases htr
  | slice t x lo hi mx =>
    cases mx with
    | some z =>
      cases hi with
      | none => simp [hop, trOp] at htr
      | some h =>
        simp only [hop, trOp] at htr
        split at htr
        · rename_i e hu
          simp only [Option.bind_eq_bind, Option.bind_eq_some_iff, Option.pure_def, Option.some.injEq] at htr
          obtain ⟨l, hl, x', hx, lo', hlo, hi', hhi, mx', hmx, rfl⟩ := htr
          exact fin rfl (sim_sliceM hd hR hu hl hx hlo hhi hmx hop hr)
        · cases htr
    | none =>
      simp only [hop, trOp] at htr
      split at htr
      · rename_i hu
        simp only [Option.bind_eq_bind, Option.bind_eq_some_iff, Option.pure_def, Option.some.injEq] at htr
        obtain ⟨x', hx, lo', hlo, hi', hhi, rfl⟩ := htr
        refine fin rfl ?_
        exact sim_sliceS hd hR hu hx hlo hhi hop hr
      · rename_i e hu
        simp only [Option.bind_eq_bind, Option.bind_eq_some_iff, Option.pure_def, Option.some.injEq] at htr
        obtain ⟨l, hl, x', hx, lo', hlo, hi', hhi, rfl⟩ := htr
        exact fin rfl (sim_sliceL hd hR hu hl hx hlo hhi hop hr)
      · rename_i n e hu
        split at htr
        · rename_i i hi1
          split at htr
          · rename_i h1s
            simp only [Option.bind_eq_bind, Option.bind_eq_some_iff, Option.pure_def, Option.some.injEq] at htr
            obtain ⟨x', hx, lo', hlo, hi', hhi, rfl⟩ := htr
            exact fin rfl (sim_sliceA hd hR hu hi1 h1s hx hlo hhi hop hr)
          · cases htr
        · cases htr
      · cases htr
  | fieldAddr t x f =>
    simp only [hop, trOp] at htr
    split at htr
    · rename_i fs hu
      split at htr
      · rename_i fd hfd
        split at htr
        · rename_i l hl
          split at htr
          · cases htr
          · rename_i h0
            simp only [Option.bind_eq_bind, Option.bind_eq_some_iff, Option.pure_def, Option.some.injEq] at htr
            obtain ⟨x', hx, rfl⟩ := htr
            exact fin rfl (sim_fieldAddr hd hR hu hfd hl h0 hx hop hr)
        · cases htr
      · cases htr
    · cases htr
  | field t x f =>
    simp only [hop, trOp] at htr
    split at htr
    · rename_i fs hu
      split at htr
      · rename_i fd hfd
        simp only [Option.bind_eq_bind, Option.bind_eq_some_iff, Option.pure_def, Option.some.injEq] at htr
        obtain ⟨x', hx, l, hl, rfl⟩ := htr
        exact fin rfl (sim_field hd hR hu hfd hl hx hop hr)
      · cases htr
    · cases htr
  | indexAddr t x i =>
    simp only [hop, trOp] at htr
    split at htr
    · rename_i e hu
      simp only [Option.bind_eq_bind, Option.bind_eq_some_iff, Option.pure_def, Option.some.injEq] at htr
      obtain ⟨x', hx, i', hi, l, hl, rfl⟩ := htr
      exact fin rfl (sim_indexAddrS hd hR hu hl hx hi hop hr)
    · rename_i n e hu
      simp only [Option.bind_eq_bind, Option.bind_eq_some_iff, Option.pure_def, Option.some.injEq] at htr
      obtain ⟨x', hx, i', hi, l, hl, rfl⟩ := htr
      exact fin rfl (sim_indexAddrA hd hR hu hl hx hi hop hr)
    · cases htr
  | index t x i =>
    simp only [hop, trOp] at htr
    split at htr
    · rename_i hu
      simp only [Option.bind_eq_bind, Option.bind_eq_some_iff, Option.pure_def, Option.some.injEq] at htr
      obtain ⟨x', hx, i', hi, rfl⟩ := htr
      exact fin rfl (sim_index hd hR hu hx hi hop hr)
    · cases htr
  | lookup t x i c =>
    simp only [hop, trOp] at htr
    split at htr
    · rename_i k e hu
      simp only [Option.bind_eq_bind, Option.bind_eq_some_iff, Option.pure_def, Option.some.injEq] at htr
      obtain ⟨kk, hk, z, hz, x', hx, i', hi, rfl⟩ := htr
      exact fin rfl (sim_lookup hd hR hu hk hz hx hi hop hr)
    · cases htr
  | mapUpdate t p i x =>
    simp only [hop, trOp] at htr
    split at htr
    · rename_i k e hu
      simp only [Option.bind_eq_bind, Option.bind_eq_some_iff, Option.pure_def, Option.some.injEq] at htr
      obtain ⟨kk, hk, p', hp, i', hi, x', hx, rfl⟩ := htr
      exact fin rfl (sim_mapUpdate hd hR hu hk hp hi hx (.inl hop) hr)
    · cases htr
  | insert t p i x =>
    simp only [hop, trOp] at htr
    split at htr
    · rename_i k e hu
      simp only [Option.bind_eq_bind, Option.bind_eq_some_iff, Option.pure_def, Option.some.injEq] at htr
      obtain ⟨kk, hk, p', hp, i', hi, x', hx, rfl⟩ := htr
      exact fin rfl (sim_mapUpdate hd hR hu hk hp hi hx (.inr hop) hr)
    · cases htr
  | extract t i =>
    cases t with
    | tmp t =>
      simp only [hop, trOp, Option.some.injEq] at htr
      subst htr
      exact fin rfl (sim_extract hd hR hop hr)
    | _ => simp [hop, trOp] at htr
  | panic x =>
    simp only [hop, trOp, Option.bind_eq_bind, Option.bind_eq_some_iff, Option.pure_def, Option.some.injEq] at htr
    obtain ⟨x', hx, rfl⟩ := htr
    exact sim_panic hR hx hop hr he
  | call c =>
    simp only [hop, trOp] at htr
    split at htr
    · rename_i hcal
      split at htr
      · rename_i s hats
        split at htr
        · rename_i hu
          simp only [Option.bind_eq_bind, Option.bind_eq_some_iff, Option.pure_def, Option.some.injEq] at htr
          obtain ⟨l, hl, rfl⟩ := htr
          refine fin rfl ?_
          rcases l with _ | ⟨x', _ | ⟨y', l⟩⟩
          · simp [evalK, eBi] at hr
          · exact sim_lenS hd hR hcal hats hu hl hop hr
          · simp [evalK, eBi] at hr
        · rename_i e hu
          simp only [Option.bind_eq_bind, Option.bind_eq_some_iff, Option.pure_def, Option.some.injEq] at htr
          obtain ⟨l, hl, rfl⟩ := htr
          refine fin rfl ?_
          rcases l with _ | ⟨x', _ | ⟨y', l⟩⟩
          · simp [evalK, eBi] at hr
          · exact sim_lenL hd hR hcal hats hu hl hop hr
          · simp [evalK, eBi] at hr
        · rename_i k e hu
          simp only [Option.bind_eq_bind, Option.bind_eq_some_iff, Option.pure_def, Option.some.injEq] at htr
          obtain ⟨l, hl, rfl⟩ := htr
          refine fin rfl ?_
          rcases l with _ | ⟨x', _ | ⟨y', l⟩⟩
          · simp [evalK, eBi] at hr
          · exact sim_lenM hd hR hcal hats hu hl hop hr
          · simp [evalK, eBi] at hr
        · cases htr
      · cases htr
    · rename_i hcal
      simp only [Option.bind_eq_bind, Option.bind_eq_some_iff, Option.pure_def, Option.some.injEq] at htr
      obtain ⟨l, hl, rfl⟩ := htr
      refine fin rfl ?_
      have hr' : (match maxD (l.map (rd st.env)) with | some v => ok v st | none => none) = some r := hr
      split at hr'
      · rename_i v hv
        exact sim_max hd hR hcal hl hop hv hr'
      · cases hr'
    · rename_i hcal
      simp only [Option.bind_eq_bind, Option.bind_eq_some_iff, Option.pure_def, Option.some.injEq] at htr
      obtain ⟨l, hl, rfl⟩ := htr
      refine fin rfl ?_
      have hr' : (match minD (l.map (rd st.env)) with | some v => ok v st | none => none) = some r := hr
      split at hr'
      · rename_i v hv
        exact sim_min hd hR hcal hl hop hv hr'
      · cases hr'
    · rename_i hcal
      split at htr
      · rename_i s u hats
        split at htr
        · rename_i e e2 hu hu2
          split at htr
          · rename_i i z hi hz
            split at htr
            · rename_i hzl
              simp only [Option.bind_eq_bind, Option.bind_eq_some_iff, Option.pure_def, Option.some.injEq] at htr
              obtain ⟨l, hl, rfl⟩ := htr
              refine fin rfl ?_
              rcases l with _ | ⟨x', _ | ⟨y', _ | ⟨z', l⟩⟩⟩
              · simp [evalK, eBi] at hr
              · simp [evalK, eBi] at hr
              · exact sim_append hd hR hcal hats hu (.inr ⟨_, hu2⟩) hi hz hzl hl hop hr
              · simp [evalK, eBi] at hr
            · cases htr
          · cases htr
        · rename_i e hu hu2
          split at htr
          · rename_i i z hi hz
            split at htr
            · rename_i hzl
              simp only [Option.bind_eq_bind, Option.bind_eq_some_iff, Option.pure_def, Option.some.injEq] at htr
              obtain ⟨l, hl, rfl⟩ := htr
              refine fin rfl ?_
              rcases l with _ | ⟨x', _ | ⟨y', _ | ⟨z', l⟩⟩⟩
              · simp [evalK, eBi] at hr
              · simp [evalK, eBi] at hr
              · exact sim_append hd hR hcal hats hu (.inl hu2) hi hz hzl hl hop hr
              · simp [evalK, eBi] at hr
            · cases htr
          · cases htr
        · cases htr
      · cases htr
    · rename_i f hcal
      simp only [Option.bind_eq_bind, Option.bind_eq_some_iff, Option.pure_def] at htr
      obtain ⟨f', hf, l, hl, htr⟩ := htr
      split at htr
      · rename_i hnd
        simp only [Option.some.injEq] at htr
        subst htr
        exact sim_call hcs hd hR hcal hf hl hnd hop hr he.k he.q
      · cases htr
    · cases htr
  | _ => simp [hop, trOp] at htr

end
end W

/-
  Regions in their order, code, loops.
-/
set_option linter.unusedSimpArgs false
set_option linter.unusedVariables false
namespace W
open Go (World Value Addr IntKind Program TypeId FuncId Operand Act Oper Next Result Sem BinOp UnOp Ending Exit Code)

structure Good (M : Maps) (g : Gh) (w : World) (a : Act) (st' : St) (a' : Act) (w' : World) : Prop where
  r : ∃ g' β', Rel M g' w' β' st' a'.tmps ∧ Evo g w g' w'
  size : a'.tmps.size = a.tmps.size
  defers : a'.defers = a.defers

structure BadEnd (M : Maps) (g : Gh) (w : World) (a : Act) (v : V) (st' : St) (ch : List Go.PanicEntry) (a' : Act) (w' : World) : Prop where
  r : ∃ g' cv, ch = [{ v := cv, recovered := false }] ∧ RelH M g' w' st'.H ∧ Evo g w g' w' ∧ RepA M g' w' 0 v cv
  defers : a'.defers = a.defers

def Post (M : Maps) (g : Gh) (w : World) (a : Act) (e : Ex) (st' : St) : Exit → Act → World → Prop := fun x a' w' =>
  match e, x with
  | .nrm, .normal => Good M g w a st' a' w'
  | .exit id, .exit id' => id' = id ∧ Good M g w a st' a' w'
  | .ret, .ret => Good M g w a st' a' w'
  | .pan v, .panic ch => BadEnd M g w a v st' ch a' w'
  | _, _ => False

theorem Good.trans {M : Maps} {g g1 : Gh} {w w1 : World} {a a1 : Act} {st' : St} {a' : Act} {w' : World} (hE : Evo g w g1 w1) (hs : a1.tmps.size = a.tmps.size) (hd : a1.defers = a.defers) (h : Good M g1 w1 a1 st' a' w') : Good M g w a st' a' w' :=
  let ⟨⟨g', β', h1, h2⟩, h3, h4⟩ := h
  ⟨⟨g', β', h1, hE.trans h2⟩, h3.trans hs, h4.trans hd⟩

theorem Post.trans {M : Maps} {g g1 : Gh} {w w1 : World} {a a1 : Act} {e : Ex} {st' : St} (hE : Evo g w g1 w1) (hs : a1.tmps.size = a.tmps.size) (hd : a1.defers = a.defers) {x : Exit} {a' : Act} {w' : World}
    (h : Post M g1 w1 a1 e st' x a' w') : Post M g w a e st' x a' w' := by
  unfold Post at *
  split at h
  · exact h.trans hE hs hd
  · exact ⟨h.1, h.2.trans hE hs hd⟩
  · exact h.trans hE hs hd
  · obtain ⟨⟨g', cv, h1, h2, h3, h4⟩, h5⟩ := h
    exact ⟨⟨g', cv, h1, h2, hE.trans h3, h4⟩, h5.trans hd⟩
  · exact h.elim

theorem put_size (a : Act) (d : Option Nat) (c : Value) : (a.put d c).tmps.size = a.tmps.size := by cases d <;> simp [Act.put]
theorem put_defers (a : Act) (d : Option Nat) (c : Value) : (a.put d c).defers = a.defers := by cases d <;> rfl

section
variable {P : Program} {M : Maps} {g : Gh} {w : World} {β : Nat → Nat} {st : St} {a : Act} {call : Call}

theorem wanted_rep (hR : Rel M g w β st a.tmps) {ops : Array Oper} {o : Oper} {g' : Option (Nat × Bool)} (hg : gOf ops o.guard = some g') {b : Bool} (hw : wanted g' st.env = some b) :
    Go.Region.wanted o (Go.yielded ops a.tmps) = b := by
  unfold Go.Region.wanted
  cases ho : o.guard with
  | none =>
    rw [ho] at hg
    simp only [gOf, Option.some.injEq] at hg
    subst hg
    simpa [wanted] using hw
  | some jw =>
    obtain ⟨j, want⟩ := jw
    rw [ho] at hg
    simp only [gOf] at hg
    split at hg
    · rename_i o' ho'
      split at hg
      · rename_i d hd
        simp only [Option.some.injEq] at hg
        subst hg
        have hy : Go.yielded ops a.tmps j = match a.tmps[d]? with | some (.bool b) => some b | _ => none := by
          simp only [Go.yielded, ho', Option.bind_some, hd]
          rfl
        simp only [hy]
        have he := hR.e d
        simp only [wanted] at hw
        split at hw
        · rename_i z hz
          simp only [Option.some.injEq] at hw
          rw [hz] at he
          have hv : a.tmps.getD d Go.undef = .bool z := by
            generalize a.tmps.getD d Go.undef = c at he
            cases he with
            | s h => cases h with | d _ _ h => cases h; rfl
          rw [Array.getD_eq_getD_getElem?] at hv
          cases hq : a.tmps[d]? with
          | none => rw [hq] at hv; simp [Go.undef] at hv
          | some c =>
            rw [hq] at hv
            simp only [Option.getD_some] at hv
            subst hv
            rw [← hw]
            simp
        · rename_i hz
          simp only [Option.some.injEq] at hw
          rw [hz] at he
          have hv : a.tmps.getD d Go.undef = .tuple #[] := by
            generalize a.tmps.getD d Go.undef = c at he
            cases he with
            | s h => cases h with | tup _ vs h => 
              have : vs = #[] := Array.ext' (by
                generalize vs.toList = l at h
                cases h; rfl)
              rw [this]
          rw [Array.getD_eq_getD_getElem?] at hv
          rw [← hw]
          cases hq : a.tmps[d]? with
          | none => rfl
          | some c =>
            rw [hq] at hv
            simp only [Option.getD_some] at hv
            subst hv
            rfl
        · cases hw
      · cases hg
    · cases hg

theorem rel_skip (hR : Rel M g w β st a.tmps) {o : Oper} (hd : DstOk o a) : Rel M g w β (put o.dst (.tup []) st) (a.put o.dst Go.undef).tmps :=
  hR.putV hd (.s (.tup [] #[] .nil))

/-- Operations in their order. -/
theorem sim_ops (hcs : CallSim P M call) {A : Ann} {rid nt : Nat} {ops : Array Oper} : ∀ (rest : List Oper) (i : Nat) (l : List Op) (st : St) (g : Gh) (w : World) (β : Nat → Nat) (a : Act), ops.toList.drop i = rest →
    trOps M P A rid ops i rest = some l → (∀ o ∈ rest, ∀ d, o.dst = some d → d < nt) → nt ≤ a.tmps.size → ∀ (e : Ex) (st' : St), runOps call l st = some (e, st') → Rel M g w β st a.tmps →
    ∀ Q : Exit → Act → World → Prop, (∀ x a' w', Post M g w a e st' x a' w' → Q x a' w') → Go.wpOps P ops Q (List.range' i rest.length) a w
  | [], i, l, st, g, w, β, a, hdrop, htr, hdst, hnt, e, st', hrun, hR, Q, hQ => by
    simp only [trOps, Option.some.injEq] at htr
    subst htr
    simp only [runOps, Option.some.injEq, Prod.mk.injEq] at hrun
    obtain ⟨rfl, rfl⟩ := hrun
    exact hQ _ _ _ (show Post M g w a .nrm st .normal a w from ⟨⟨g, β, hR, Evo.refl g w⟩, rfl, rfl⟩)
  | o :: rest, i, l, st, g, w, β, a, hdrop, htr, hdst, hnt, e, st', hrun, hR, Q, hQ => by
    simp only [trOps] at htr
    split at htr
    · rename_i g' r hg hr
      simp only [Option.some.injEq] at htr
      subst htr
      have hoi : ops[i]? = some o := by
        have : (ops.toList.drop i)[0]? = some o := by rw [hdrop]; rfl
        rw [List.getElem?_drop] at this
        simpa using this
      have hdrop' : ops.toList.drop (i + 1) = rest := by
        have : (ops.toList.drop i).drop 1 = rest := by rw [hdrop]; rfl
        rwa [List.drop_drop] at this
      have hd : DstOk o a := fun n hn => Nat.lt_of_lt_of_le (hdst o (by simp) n hn) hnt
      have hdst' : ∀ o ∈ rest, ∀ d, o.dst = some d → d < nt := fun o ho => hdst o (by simp [ho])
      rw [List.length_cons, List.range'_succ, Go.wpOps_cons]
      unfold Go.wpOp
      simp only [hoi]
      simp only [runOps] at hrun
      split at hrun
      · rename_i hw
        rw [wanted_rep hR hg hw]
        simp only [if_true]
        refine .inl ?_
        split at hrun
        · rename_i q hq
          refine sim_op hcs hd hR (orStuck_some hq) (fun hloc hn => ?_) hq ⟨fun hp c w1 g1 β1 hR1 hE1 => ?_, fun hp cv w1 g1 hH hE1 hv => ?_⟩
          · rw [hn] at hloc; simp at hloc
          · simp only [hp, cond_false] at hrun
            exact sim_ops hcs rest (i + 1) r _ g1 w1 β1 _ hdrop' hr hdst' (by rw [put_size]; exact hnt) e st' hrun hR1 Q (fun x a' w' hpost => hQ x a' w' (hpost.trans hE1 (put_size _ _ _) (put_defers _ _ _)))
          · simp only [hp, cond_true, Option.some.injEq, Prod.mk.injEq] at hrun
            obtain ⟨rfl, rfl⟩ := hrun
            exact hQ _ _ _ (show Post M g w a (.pan q.v) q.st (.panic _) a w1 from ⟨⟨g1, cv, rfl, hH, hE1, hv⟩, rfl⟩)
        · cases hrun
      · rename_i hw
        rw [wanted_rep hR hg hw]
        simp only [Bool.false_eq_true, if_false]
        exact sim_ops hcs rest (i + 1) r _ g w β _ hdrop' hr hdst' (by rw [put_size]; exact hnt) e st' hrun (rel_skip hR hd) Q (fun x a' w' hpost => hQ x a' w' (hpost.trans (Evo.refl g w) (put_size _ _ _) (put_defers _ _ _)))
      · cases hrun
    · cases htr

theorem get_restrict (live : List Nat) (e : Env) (k : Nat) : get k (restrict live e) = (if k ∈ live then (match get k e with | .lp _ _ => .undef | v => v) else .undef) := by
  unfold restrict
  induction live with
  | nil => simp [get]
  | cons n l ih =>
    simp only [List.map_cons, get_cons, ih]
    by_cases h : k = n
    · subst h; simp; cases get k e <;> rfl
    · simp [h]

theorem Rel.restrict {tmps : Array Value} (hR : Rel M g w β st tmps) (live : List Nat) : Rel M g w β { st with env := W.restrict live st.env } tmps := by
  refine ⟨hR.n, fun k => ?_, hR.h, hR.fresh, hR.gl⟩
  show RepT M g w β k (get k (W.restrict live st.env)) _
  rw [get_restrict]
  split
  · have := hR.e k
    generalize get k st.env = v at this
    generalize tmps.getD k Go.undef = c at this
    cases this with
    | s h => cases h <;> exact .s (by constructor <;> assumption)
    | osl h => exact .osl h
    | lp s off => exact .s (.undef _)
    | cp x b off vs hr hc hp => exact .cp x b off vs hr hc hp
    | box cs arr T hb ho hp hl hr => exact .box cs arr T hb ho hp hl hr
  · exact .s (.undef _)

end

/-- Code is simulated. -/
def ExSim (P : Program) (M : Maps) (ex : C → St → Option (Ex × St)) : Prop :=
  ∀ (A : Ann) (blk : Nat) (code : Code) (c : C), trC M P A blk code = some c → ∀ st e st', ex c st = some (e, st') → ∀ g w β a nt, dstIn nt code = true → nt ≤ a.tmps.size → Rel M g w β st a.tmps →
    ∀ Q : Exit → Act → World → Prop, (∀ x a' w', Post M g w a e st' x a' w' → Q x a' w') → code.wp P Q a w

noncomputable def least (p : Nat → Prop) : Nat := open Classical in if h : ∃ n, p n ∧ ∀ m, m < n → ¬ p m then Classical.choose h else 0
theorem least_spec {p : Nat → Prop} {n : Nat} (h : p n) : p (least p) ∧ least p ≤ n := by
  have ex : ∃ n, p n ∧ ∀ m, m < n → ¬ p m := by
    induction n using Nat.strongRecOn with
    | _ n ih =>
      by_cases hm : ∃ m, m < n ∧ p m
      · obtain ⟨m, h1, h2⟩ := hm; exact ih m h1 h2
      · exact ⟨n, h, fun m h1 h2 => hm ⟨m, h1, h2⟩⟩
  unfold least
  rw [dif_pos ex]
  obtain ⟨h1, h2⟩ := Classical.choose_spec ex
  refine ⟨h1, ?_⟩
  rcases Nat.lt_or_ge n (Classical.choose ex) with hlt | hge
  · exact absurd h (h2 n hlt)
  · exact hge

/-- A region whose order is open is simulated. -/
def OpenSim (P : Program) (M : Maps) (call : Call) : Prop :=
  ∀ (A : Ann) (rid : Nat) (ops : Array Oper) (l : List Op), trOps M P A rid ops 0 ops.toList = some l → lexI ops = true → orderOk ops l = true →
    ∀ st e st', runOpsD call (l.zipIdx.map fun (o, i) => (o, !o.k.free, notYet ops l i)) st = some (e, st') → ∀ g w β a nt, (∀ o ∈ ops.toList, ∀ d, o.dst = some d → d < nt) → nt ≤ a.tmps.size → Rel M g w β st a.tmps →
    ∀ Q : Exit → Act → World → Prop, (∀ x a' w', Post M g w a e st' x a' w' → Q x a' w') → (Code.region rid ops true).wp P Q a w

theorem dst_of_in {nt : Nat} {rid : Nat} {ops : Array Oper} {b : Bool} (h : dstIn nt (.region rid ops b) = true) : ∀ o ∈ ops.toList, ∀ d, o.dst = some d → d < nt := fun o ho d hd => by
  simp only [dstIn, List.all_eq_true] at h
  have := h o ho
  rw [hd] at this
  simp only [Nat.blt_eq] at this
  exact this

theorem sim_exec {P : Program} {M : Maps} {pg : Pg} (hC : ∀ n, ExSim P M (exec pg n) → CallSim P M (callWith pg (exec pg n))) (hO : ∀ n, CallSim P M (callWith pg (exec pg n)) → OpenSim P M (callWith pg (exec pg n))) : ∀ n, ExSim P M (exec pg n) := by
  intro n
  induction n using Nat.strongRecOn with
  | _ n IH =>
  cases n with
  | zero => intro A blk code c _ st e st' h; simp [exec] at h
  | succ n =>
    have ih := IH n (Nat.lt_succ_self n)
    have hcs := hC n ih
    intro A blk code c htr st e st' hrun g w β a nt hdst hnt hR Q hQ
    have hrun : step (callWith pg (exec pg n)) (exec pg n) c st = some (e, st') := hrun
    cases code with
    | skip =>
      simp only [trC, Option.some.injEq] at htr
      subst htr
      simp only [step, Option.some.injEq, Prod.mk.injEq] at hrun
      obtain ⟨rfl, rfl⟩ := hrun
      exact Go.wp_skip (hQ _ _ _ (show Post M g w a .nrm st .normal a w from ⟨⟨g, β, hR, Evo.refl g w⟩, rfl, rfl⟩))
    | region rid ops draw =>
      simp only [trC] at htr
      split at htr
      · rename_i l hl
        cases draw with
        | false =>
          simp only [Bool.false_eq_true, if_false, Option.some.injEq] at htr
          subst htr
          refine Go.wp_region ?_
          have := sim_ops hcs (rid := rid) (nt := nt) ops.toList 0 l st g w β a (by simp) hl (dst_of_in hdst) hnt e st' hrun hR Q hQ
          rwa [show List.range ops.size = List.range' 0 ops.toList.length by simp [List.range_eq_range']]
        | true =>
          simp only [if_true] at htr
          split at htr
          · rename_i hc
            simp only [Bool.and_eq_true] at hc
            simp only [Option.some.injEq] at htr
            subst htr
            exact hO _ hcs A rid ops l hl hc.1 hc.2 st e st' hrun g w β a nt (dst_of_in hdst) hnt hR Q hQ
          · simp only [Option.some.injEq] at htr
            subst htr
            cases hrun
      · simp only [Option.some.injEq] at htr
        subst htr
        cases hrun
    | seq x y =>
      simp only [trC] at htr
      split at htr
      · rename_i cx cy hx hy
        simp only [Option.some.injEq] at htr
        subst htr
        simp only [dstIn, Bool.and_eq_true] at hdst
        simp only [step] at hrun
        refine Go.wp_seq ?_
        split at hrun
        · rename_i st1 h1
          refine ih A blk x cx hx st _ st1 h1 g w β a nt hdst.1 hnt hR _ (fun ex a1 w1 hp => ?_)
          unfold Post at hp
          split at hp
          · obtain ⟨⟨g1, β1, hR1, hE1⟩, hs1, hd1⟩ := hp
            exact ih A blk y cy hy st1 e st' hrun g1 w1 β1 a1 nt hdst.2 (by rw [hs1]; exact hnt) hR1 Q (fun x a' w' hp => hQ x a' w' (hp.trans hE1 hs1 hd1))
          all_goals first | exact hp.elim | (rename_i h; cases h)
        · rename_i hne
          refine ih A blk x cx hx st e st' hrun g w β a nt hdst.1 hnt hR _ (fun ex a1 w1 hp => ?_)
          have hq := hQ ex a1 w1 hp
          cases ex with
          | normal =>
            exfalso
            cases e with
            | nrm => exact hne st' hrun
            | _ => exact hp
          | _ => exact hq
      · cases htr
    | cond o x y =>
      simp only [trC] at htr
      split at htr
      · rename_i o' cx cy ho hx hy
        simp only [Option.some.injEq] at htr
        subst htr
        simp only [dstIn, Bool.and_eq_true] at hdst
        have ho1 := rd_rep hR ho
        simp only [step] at hrun
        split at hrun
        · rename_i hv
          rw [hv] at ho1
          exact Go.wp_cond_true (repD_b ho1.inv_d) (ih A blk x cx hx st e st' hrun g w β a nt hdst.1 hnt hR Q hQ)
        · rename_i hv
          rw [hv] at ho1
          exact Go.wp_cond_false (repD_b ho1.inv_d) (ih A blk y cy hy st e st' hrun g w β a nt hdst.2 hnt hR Q hQ)
        · cases hrun
      · cases htr
    | block id x =>
      simp only [trC] at htr
      split at htr
      · rename_i cx hx
        simp only [Option.some.injEq] at htr
        subst htr
        simp only [dstIn] at hdst
        simp only [step] at hrun
        refine Go.wp_block ?_
        have res : ∀ {st1 : St} {a1 : Act} {w1 : World}, Good M g w a st1 a1 w1 → Good M g w a { st1 with env := restrict ((look A.bl id).getD []) st1.env } a1 w1 := fun h => by
          obtain ⟨⟨g1, β1, hR1, hE1⟩, hs1, hd1⟩ := h
          exact ⟨⟨g1, β1, hR1.restrict _, hE1⟩, hs1, hd1⟩
        split at hrun
        · rename_i st1 h1
          simp only [Option.some.injEq, Prod.mk.injEq] at hrun
          obtain ⟨rfl, rfl⟩ := hrun
          refine ih A id x cx hx st _ st1 h1 g w β a nt hdst hnt hR _ (fun ex a1 w1 hp => ?_)
          cases ex <;> first | exact hQ _ _ _ (show Post M g w a .nrm _ .normal a1 w1 from res hp) | exact hp.elim
        · rename_i j st1 h1
          rw [Bool.cond_eq_ite] at hrun
          split at hrun
          · rename_i hj
            have hj := Nat.eq_of_beq_eq_true hj
            simp only [Option.some.injEq, Prod.mk.injEq] at hrun
            obtain ⟨rfl, rfl⟩ := hrun
            refine ih A id x cx hx st _ st1 h1 g w β a nt hdst hnt hR _ (fun ex a1 w1 hp => ?_)
            cases ex with
            | exit id' =>
              obtain ⟨h2, h3⟩ := hp
              simp only [Exit.inBlock, h2, hj, if_true]
              exact hQ _ _ _ (show Post M g w a .nrm _ .normal a1 w1 from res h3)
            | _ => exact hp.elim
          · rename_i hj
            have hj : j ≠ id := fun e => hj (by subst e; simp)
            simp only [Option.some.injEq, Prod.mk.injEq] at hrun
            obtain ⟨rfl, rfl⟩ := hrun
            refine ih A id x cx hx st _ st1 h1 g w β a nt hdst hnt hR _ (fun ex a1 w1 hp => ?_)
            cases ex with
            | exit id' =>
              have h2 := hp.1
              subst h2
              simp only [Exit.inBlock, hj, if_false]
              exact hQ _ _ _ hp
            | _ => exact hp.elim
        · rename_i hne1 hne2
          refine ih A id x cx hx st e st' hrun g w β a nt hdst hnt hR _ (fun ex a1 w1 hp => ?_)
          cases e with
          | nrm => exact (hne1 st' hrun).elim
          | exit j => exact (hne2 j st' hrun).elim
          | _ => cases ex <;> first | exact hQ _ _ _ hp | exact hp.elim
      · cases htr
    | loop x =>
      simp only [trC] at htr
      split at htr
      · rename_i cx hx
        simp only [Option.some.injEq] at htr
        subst htr
        simp only [dstIn] at hdst
        let live := (look A.ll blk).getD []
        let J : Act → World → Nat → Prop := fun a1 w1 k => k ≤ n + 1 ∧ ∃ st1 g1 β1, Rel M g1 w1 β1 st1 a1.tmps ∧ Evo g w g1 w1 ∧ a1.tmps.size = a.tmps.size ∧ a1.defers = a.defers ∧ exec pg k (.loop live cx) st1 = some (e, st')
        refine Go.wp_loop (fun a1 w1 => ∃ k, J a1 w1 k) (fun a1 w1 => least (J a1 w1)) ⟨n + 1, Nat.le_refl _, st, g, β, hR, Evo.refl g w, rfl, rfl, hrun⟩ (fun a1 w1 hI => ?_)
        obtain ⟨k0, hk0⟩ := hI
        have hk := (least_spec hk0).1
        generalize least (J a1 w1) = k at hk
        obtain ⟨hkn, st1, g1, β1, hR1, hE1, hs1, hd1, hrun1⟩ := hk
        cases k with
        | zero => simp [exec] at hrun1
        | succ k =>
          have hrun1 : step (callWith pg (exec pg k)) (exec pg k) (.loop live cx) st1 = some (e, st') := hrun1
          have ihk := IH k (by omega)
          simp only [step] at hrun1
          split at hrun1
          · rename_i st2 h2
            refine ihk A blk x cx hx _ _ st2 h2 g1 w1 β1 a1 nt hdst (by rw [hs1]; exact hnt) (hR1.restrict live) _ (fun ex a2 w2 hp => ?_)
            cases ex with
            | normal =>
              obtain ⟨⟨g2, β2, hR2, hE2⟩, hs2, hd2⟩ := (hp : Good M g1 w1 a1 st2 a2 w2)
              have hJ : J a2 w2 k := ⟨by omega, st2, g2, β2, hR2, hE1.trans hE2, hs2.trans hs1, hd2.trans hd1, hrun1⟩
              exact ⟨⟨k, hJ⟩, Nat.lt_succ_of_le (least_spec hJ).2⟩
            | _ => exact hp.elim
          · rename_i hne
            refine ihk A blk x cx hx _ e st' hrun1 g1 w1 β1 a1 nt hdst (by rw [hs1]; exact hnt) (hR1.restrict live) _ (fun ex a2 w2 hp => ?_)
            have hq := hQ ex a2 w2 (hp.trans hE1 hs1 hd1)
            cases ex with
            | normal =>
              exfalso
              cases e with
              | nrm => exact hne st' hrun1
              | _ => exact hp
            | _ => exact hq
      · cases htr
    | exit id =>
      simp only [trC, Option.some.injEq] at htr
      subst htr
      simp only [step, Option.some.injEq, Prod.mk.injEq] at hrun
      obtain ⟨rfl, rfl⟩ := hrun
      exact Go.wp_exit (hQ _ _ _ (show Post M g w a (.exit id) st (.exit id) a w from ⟨rfl, ⟨g, β, hR, Evo.refl g w⟩, rfl, rfl⟩))
    | ret =>
      simp only [trC, Option.some.injEq] at htr
      subst htr
      simp only [step, Option.some.injEq, Prod.mk.injEq] at hrun
      obtain ⟨rfl, rfl⟩ := hrun
      exact Go.wp_ret (hQ _ _ _ (show Post M g w a .ret st .ret a w from ⟨⟨g, β, hR, Evo.refl g w⟩, rfl, rfl⟩))
    | _ =>
      simp only [trC, Option.some.injEq] at htr
      subst htr
      cases hrun

end W

/-
  A function's body, as its caller sees it.
-/
set_option linter.unusedSimpArgs false
set_option linter.unusedVariables false
namespace W
open Go (World Value Addr IntKind Program TypeId FuncId Operand Act Oper Next Result Sem BinOp UnOp Ending Exit Code Func Calls)

section
variable {P : Program} {M : Maps} {g : Gh} {w : World} {β : Nat → Nat} {st : St} {a : Act}

theorem get_args : ∀ (vs : List V) (j k : Nat), get k (argEnv j vs) = if j ≤ k then (vs[k - j]?).getD .undef else .undef
  | [], j, k => by simp [argEnv, get]
  | v :: l, j, k => by
    simp only [argEnv, get_cons, get_args l (j + 1) k]
    by_cases h : k = j
    · subst h; simp
    · by_cases h2 : j + 1 ≤ k
      · have e : k - j = (k - (j + 1)) + 1 := by omega
        simp [h, h2, show j ≤ k by omega, e]
      · simp [h, h2, show ¬ j ≤ k by omega]

theorem ArgsRep.get : ∀ {vs : List V} {cs : List Value} {j : Nat}, ArgsRep M g w j vs cs → ∀ i v, vs[i]? = some v → ∃ c, cs[i]? = some c ∧ RepA M g w (j + i) v c
  | _, _, _, .nil _, i, v, h => by simp at h
  | _, _, j, .cons h hl, 0, v, hv => by simp at hv; subst hv; exact ⟨_, rfl, h⟩
  | _, _, j, .cons h hl, i + 1, v, hv => by
    obtain ⟨c, h1, h2⟩ := hl.get i v (by simpa using hv)
    exact ⟨c, by simpa using h1, by rwa [show j + 1 + i = j + (i + 1) by omega] at h2⟩

theorem ArgsRep.length : ∀ {vs : List V} {cs : List Value} {j : Nat}, ArgsRep M g w j vs cs → vs.length = cs.length
  | _, _, _, .nil _ => rfl
  | _, _, _, .cons h hl => by simp [hl.length]

theorem entry_rel {H : List Obj} {vs : List V} {cs : List Value} (ha : ArgsRep M g w 0 vs cs) (hH : RelH M g w H) (n lo : Nat) :
    Rel M g w β { env := argEnv 0 vs, H := H, lo := lo } (cs.toArray ++ Array.replicate n Go.undef) := by
  refine ⟨hH.n, fun k => ?_, hH.h, hH.fresh, hH.gl⟩
  show RepT M g w β k (get k (argEnv 0 vs)) _
  rw [get_args]
  simp only [Nat.zero_le, if_true, Nat.sub_zero]
  cases hv : vs[k]? with
  | none => exact .s (.undef _)
  | some v =>
    obtain ⟨c, h1, h2⟩ := ha.get k v hv
    have hlt : k < cs.length := (List.getElem?_eq_some_iff.1 h1).1
    have e : (cs.toArray ++ Array.replicate n Go.undef).getD k Go.undef = c := by
      rw [Array.getD_eq_getD_getElem?, Array.getElem?_append_left (by simpa using hlt)]
      simp [h1]
    rw [e]
    simp only [Option.getD_some, Nat.zero_add] at h2 ⊢
    cases h2 with
    | s h => exact .s h
    | osl h => exact .osl h

/-- One result, as the model takes it. -/
def res1 (tmps : Array Value) : Go.ResultVar → Sem Value
  | .tmp t => pure (tmps.getD t Go.undef)
  | .cell b t => do Go.loadVar t (← Go.asAddr (tmps.getD b Go.undef))

theorem results_eq (fn : Func) (tmps : Array Value) : Go.results fn tmps = (do
    let vs ← fn.results.mapM (res1 tmps)
    pure (if h : vs.size = 1 then vs[0] else .tuple vs)) := by
  rfl

/-- One result. -/
theorem result_rep (hR : Rel M g w β st a.tmps) {rv : Go.ResultVar} {r : Rv} (ht : trRv P rv = some r) {own : Bool} {v : V} (hv : resultV own st r = some v) (hl : v.leaves = true) :
    ∃ c, (res1 a.tmps rv).run P w = .ok c w ∧
      (RepS M g w v c ∨ ∃ n xs, v = .osl xs ∧ OwnSl g w (.slot n) xs c) := by
  cases rv with
  | tmp t =>
    simp only [trRv, Option.some.injEq] at ht
    subst ht
    refine ⟨a.tmps.getD t Go.undef, rfl, ?_⟩
    simp only [resultV] at hv
    have he := hR.e t
    generalize get t st.env = x at he hv
    generalize a.tmps.getD t Go.undef = c at he
    cases he with
    | s h =>
      have hx : v = x ∨ v = copy x := by
        cases h <;> simp only [Option.some.injEq] at hv <;> cases own <;> simp only [cond_true, cond_false] at hv <;> first | exact .inl hv.symm | exact .inr hv.symm
      rcases hx with rfl | rfl
      · exact .inl h
      · exact .inl (copy_rep h)
    | osl h =>
      simp only [Option.some.injEq] at hv
      cases own with
      | true => simp only [cond_true] at hv; subst hv; exact .inr ⟨t, _, rfl, h⟩
      | false => simp only [cond_false, copy] at hv; subst hv; exact .inl (.d _ _ h.rep)
    | lp s off =>
      simp only [Option.some.injEq] at hv
      cases own <;> simp only [cond_true, cond_false, copy] at hv <;> subst hv <;> simp [V.leaves, V.ok] at hl
    | cp x b off vs hr hc hp =>
      simp only [Option.some.injEq] at hv
      cases own <;> simp only [cond_true, cond_false, copy] at hv <;> subst hv <;> simp [V.leaves, V.ok] at hl
    | box cs arr T hb ho hp hl' hr => cases hv
  | cell b t =>
    simp only [trRv, Option.map_eq_some_iff] at ht
    obtain ⟨l, hlay, rfl⟩ := ht
    simp only [resultV] at hv
    have he := hR.e b
    split at hv
    · rename_i cs hbox
      rw [hbox] at he
      generalize htm : a.tmps.getD b Go.undef = c at he
      cases he with
      | s h => cases h
      | box _ arr T hb ho hp hl' hr =>
        obtain ⟨c, h1, h2⟩ := part_rep (P := P) hlay hb hl' hr hv
        refine ⟨c, ?_, .inl h2⟩
        simp only [res1, htm, Go.asAddr, Sem.run_bind, Sem.run_pure, Result.andThen_ok, h1]
    · cases hv

theorem oks_leaves : ∀ {vs : List V}, V.ok.oks vs = true → ∀ v ∈ vs, v.ok = true
  | [], _, v, h => by simp at h
  | x :: l, h, v, hv => by
    simp only [V.ok.oks, Bool.and_eq_true] at h
    rcases List.mem_cons.1 hv with e | hv
    · subst e; exact h.1
    · exact oks_leaves h.2 v hv

theorem leaves_of_ok {v : V} (h : v.ok = true) : v.leaves = true := by cases v <;> first | exact h | rfl

/-- Several results. -/
theorem results_rep (hR : Rel M g w β st a.tmps) {own : Bool} : ∀ {rvs : List Go.ResultVar} {rs : List Rv} {vs : List V}, trRvs P rvs = some rs → resultVs own st rs = some vs → (∀ v ∈ vs, v.ok = true) →
    ∃ cs, (rvs.mapM (res1 a.tmps)).run P w = .ok cs w ∧ RepSL M g w vs cs
  | [], rs, vs, ht, hv, _ => by
    simp only [trRvs, Option.some.injEq] at ht
    subst ht
    simp only [resultVs, Option.some.injEq] at hv
    subst hv
    exact ⟨[], by simp, .nil⟩
  | rv :: rvs, rs, vs, ht, hv, hok => by
    simp only [trRvs] at ht
    split at ht
    · rename_i r l hr hl
      simp only [Option.some.injEq] at ht
      subst ht
      simp only [resultVs] at hv
      split at hv
      · rename_i v hv1
        split at hv
        · rename_i vs' hv2
          simp only [Option.some.injEq] at hv
          subst hv
          have hvok := hok v (by simp)
          obtain ⟨c, h1, h2⟩ := result_rep (P := P) hR hr hv1 (leaves_of_ok hvok)
          obtain ⟨cs, h3, h4⟩ := results_rep hR hl hv2 (fun v hv => hok v (by simp [hv]))
          have h2' : RepS M g w v c := by
            rcases h2 with h | ⟨n, xs, rfl, _⟩
            · exact h
            · cases hvok
          refine ⟨c :: cs, ?_, .cons _ _ _ _ h2' h4⟩
          rw [List.mapM_cons]
          simp only [Sem.run_bind, h1, Result.andThen_ok, h3, Sem.run_pure]
        · cases hv
      · cases hv
    · cases ht

theorem setOwn_relH {H : List Obj} (h : RelH M g w H) {b n : Nat} (hb : g.own b = some (.slot n)) (hlt : b < w.heap.size) (ℓ : Option Loc) : RelH M (g.setOwn b ℓ) w H :=
  ⟨h.n, fun id o ho => (h.h id o ho).mono (setOwn_grow g w b ℓ) (Nat.le_refl _) (fun _ _ => rfl) (by rw [h.n]; exact (List.getElem?_eq_some_iff.1 ho).1) (setOwn_kept ℓ hb (by simp)) (fun i => setOwn_kept ℓ hb (by simp)), fun x hx => by
    have : x ≠ b := by omega
    simpa [Gh.setOwn, this] using h.fresh x hx, h.gl.mono (setOwn_grow g w b ℓ)⟩

theorem run_results {fn : Func} {rs : List Rv} (htr : trRvs P fn.results.toList = some rs) (hR : Rel M g w β st a.tmps) {own : Bool} {vs : List V} (hv : resultVs own st rs = some vs) (hl : (tupOf vs).leaves = true) :
    ∃ c g', (Go.results fn a.tmps).run P w = .ok c w ∧ RelH M g' w st.H ∧ Evo g w g' w ∧ RepA M g' w 0 (tupOf vs) c := by
  have hm : ∀ cs, (fn.results.toList.mapM (res1 a.tmps)).run P w = .ok cs w →
      (Go.results fn a.tmps).run P w = .ok (match cs with | [c] => c | cs => .tuple cs.toArray) w := by
    intro cs h
    rw [results_eq, Array.mapM_eq_mapM_toList]
    simp only [Sem.run_bind, map_eq_pure_bind, h, Result.andThen_ok, Sem.run_pure]
    rcases cs with _ | ⟨c, _ | ⟨c2, cs⟩⟩ <;> simp
  by_cases h1 : ∃ v, vs = [v]
  · obtain ⟨v, rfl⟩ := h1
    simp only [tupOf] at hl ⊢
    -- one
    cases hrs : fn.results.toList with
    | nil =>
      rw [hrs] at htr
      simp only [trRvs, Option.some.injEq] at htr
      subst htr
      simp [resultVs] at hv
    | cons rv l =>
      rw [hrs] at htr
      simp only [trRvs] at htr
      split at htr
      · rename_i r rl hr hrl
        simp only [Option.some.injEq] at htr
        subst htr
        simp only [resultVs] at hv
        split at hv
        · rename_i v1 hv1
          split at hv
          · rename_i vs' hv2
            simp only [Option.some.injEq, List.cons.injEq] at hv
            obtain ⟨rfl, rfl⟩ := hv
            obtain ⟨c, k1, k2⟩ := result_rep (P := P) hR hr hv1 hl
            obtain ⟨cs, k3, k4⟩ := results_rep hR hrl hv2 (by simp)
            cases k4
            have hrun := hm [c] (by rw [hrs, List.mapM_cons]; simp only [Sem.run_bind, k1, Result.andThen_ok, k3, Sem.run_pure])
            rcases k2 with k2 | ⟨n, xs, rfl, k2⟩
            · exact ⟨c, g, hrun, hR.toH, Evo.refl g w, .s k2⟩
            · rcases k2.setOwn with ⟨b, hb, hlt, hv'⟩ | hv'
              case inr => exact ⟨c, g, hrun, hR.toH, Evo.refl g w, .osl (hv' _)⟩
              exact ⟨c, g.setOwn b (some (.slot 0)), hrun, setOwn_relH hR.toH hb hlt _, setOwn_evo _ hb (by simp), .osl (hv' _)⟩
          · cases hv
        · cases hv
      · cases htr
  · have e : tupOf vs = .tup vs := by
      rcases vs with _ | ⟨v, _ | ⟨v2, vs⟩⟩
      · rfl
      · exact absurd ⟨v, rfl⟩ h1
      · rfl
    rw [e] at hl ⊢
    have hok : V.ok.oks vs = true := by simpa [V.leaves, V.ok] using hl
    obtain ⟨cs, k1, k2⟩ := results_rep hR htr hv (oks_leaves hok)
    have hlen := k2.length
    refine ⟨.tuple cs.toArray, g, ?_, hR.toH, Evo.refl g w, .s (.tup _ _ (by simpa using k2))⟩
    rw [hm cs k1]
    rcases cs with _ | ⟨c, _ | ⟨c2, cs⟩⟩
    · rfl
    · exfalso
      apply h1
      match vs, hlen with
      | [v], _ => exact ⟨v, rfl⟩
    · rfl

end

/-- The functions of the table are the program's. -/
def Tab (P : Program) (M : Maps) (pg : Pg) : Prop :=
  ∀ f' i, look M.fm f' = some i → ∀ fn', pg.fn i = some fn' → ∃ fn A own, P.funcs[f']? = some fn ∧ (fn.name == "runtime.NumGoroutine") = false ∧ trFn M P A own fn = some fn'

theorem calls_callWith {P : Program} {M : Maps} {pg : Pg} (hT : Tab P M pg) {ex : C → St → Option (Ex × St)} (hlo : ∀ c st e st', ex c st = some (e, st') → LoOk st st') (he : ExSim P M ex)
    {i : Nat} {vs : List V} {H : List Obj} {r : Cr} (hcall : callWith pg ex i vs H = some r) {f' : FuncId} (hlook : look M.fm f' = some i) (hext : pg.fn i ≠ none) {g : Gh} {w : World} {argv : List Value} (hargs : ArgsRep M g w 0 vs argv) (hH : RelH M g w H) :
    Calls P f' argv.toArray w (CallPost M g w r) ∧ (Go.callFunc f' argv.toArray).run P w = .ok (.enter f' argv.toArray) w := by
  unfold callWith at hcall
  split at hcall
  · rename_i hn; exact absurd hn hext
  · rename_i fn' hfn'
    obtain ⟨fn, A, own, hf, hname, htr⟩ := hT f' i hlook fn' hfn'
    unfold trFn at htr
    split at htr
    · rename_i c hbody
      split at htr
      · cases htr
      · rename_i hdst
        split at htr
        · rename_i c' rs hc hrs
          simp only [Option.some.injEq] at htr
          subst htr
          simp only at hcall
          split at hcall
          · rename_i hnp
            have hrel := entry_rel (β := fun _ => 0) hargs hH (fn.ntmps - argv.toArray.size) H.length
            have hsize : fn.ntmps ≤ (argv.toArray ++ Array.replicate (fn.ntmps - argv.toArray.size) Go.undef).size := by simp; omega
            have hdst' : dstIn fn.ntmps c = true := by simpa using hdst
            have main : ∀ (e : Ex) (st' : St), ex c' { env := argEnv 0 vs, H, lo := H.length } = some (e, st') → 
                (∀ x a' w', Post M g w { tmps := argv.toArray ++ Array.replicate (fn.ntmps - argv.toArray.size) Go.undef, defers := [] } e st' x a' w' → Go.bodyPost P fn (CallPost M g w r) x a' w') → Calls P f' argv.toArray w (CallPost M g w r) ∧ (Go.callFunc f' argv.toArray).run P w = .ok (.enter f' argv.toArray) w := by
              intro e st' hrun hpost
              have hwp := he A 0 c c' hc _ e st' hrun g w _ { tmps := argv.toArray ++ Array.replicate (fn.ntmps - argv.toArray.size) Go.undef, defers := [] } fn.ntmps hdst' hsize hrel _ hpost
              have hcalls := Go.calls_of_wp (args := argv.toArray) hf hbody hwp
              have hrun' : (Go.callFunc f' argv.toArray).run P w = .ok (.enter f' argv.toArray) w := by
                have hn : ¬ fn.name = "runtime.NumGoroutine" := by simpa using hname
                simp [Go.callFunc, hf, hn, hbody]
              exact ⟨hcalls, hrun'⟩
            have keyR : ∀ {st' : St}, ex c' { env := argEnv 0 vs, H, lo := H.length } = some (.nrm, st') ∨ ex c' { env := argEnv 0 vs, H, lo := H.length } = some (.ret, st') → ∀ {vs' : List V}, resultVs own st' rs = some vs' → leave H false (tupOf vs') st' = some r →
                ∀ a' w', Good M g w { tmps := argv.toArray ++ Array.replicate (fn.ntmps - argv.toArray.size) Go.undef, defers := [] } st' a' w' →
                  a'.defers = [] ∧ ∃ v, (Go.results fn a'.tmps).run P w' = .ok v w' ∧ CallPost M g w r (.returned v) w' := by
              intro st' hrun vs' hvs hleave a' w' hg
              obtain ⟨⟨g1, β1, hR1, hE1⟩, hs1, hd1⟩ := hg
              have hl : (tupOf vs').leaves = true := by
                unfold leave at hleave
                cases hq : (tupOf vs').leaves with
                | true => rfl
                | false => simp [hq] at hleave
              obtain ⟨v, g2, k1, k2, k3, k4⟩ := run_results hrs hR1 hvs hl
              have hlo' : LoOk { env := argEnv 0 vs, H, lo := H.length } st' := by
                rcases hrun with h | h <;> exact hlo _ _ _ _ h
              obtain ⟨h1, h2⟩ := leave_post hH k2 (hE1.trans k3) (fun id h1 h2 => hlo'.old id h1 h2) k4 hleave
              exact ⟨hd1, v, k1, h1, h2⟩
            split at hcall
            · rename_i st' hrun
              split at hcall
              · rename_i vs' hvs
                refine main .nrm st' hrun (fun x a' w' hp => ?_)
                cases x with
                | normal => exact keyR (.inl hrun) hvs hcall a' w' hp
                | _ => exact hp.elim
              · cases hcall
            · rename_i st' hrun
              split at hcall
              · rename_i vs' hvs
                refine main .ret st' hrun (fun x a' w' hp => ?_)
                cases x with
                | ret => exact keyR (.inr hrun) hvs hcall a' w' hp
                | _ => exact hp.elim
              · cases hcall
            · rename_i v st' hrun
              refine main (.pan v) st' hrun (fun x a' w' hp => ?_)
              cases x with
              | panic ch =>
                obtain ⟨⟨g1, cv, rfl, hH1, hE1, hv1⟩, hd1⟩ := (hp : BadEnd M g w _ v st' ch a' w')
                have hlo' := hlo _ _ _ _ hrun
                obtain ⟨h1, g2, h2, h3, h4⟩ := leave_post hH hH1 hE1 (fun id h1 h2 => hlo'.old id h1 h2) hv1 hcall
                exact ⟨hd1, h1, g2, cv, rfl, h2, h3, h4⟩
              | _ => exact hp.elim
            · cases hcall
          · cases hcall
        · cases htr
    · cases htr

theorem does_of_calls {P : Program} {f' : FuncId} {args : Array Value} {w : World} {M : Maps} {g : Gh} {r : Cr} (h : Calls P f' args w (CallPost M g w r) ∧ (Go.callFunc f' args).run P w = .ok (.enter f' args) w) : Does P f' args w (CallPost M g w r) := by
  intro o a K Q hK hQ
  rw [h.2, Oper.upon_enter]
  refine h.1.mono (fun en w' hp => ?_)
  cases en with
  | returned v => exact hK v w' hp
  | panicked ch => exact hQ ch w' hp
  | outgrown => exact hp.elim

theorem sim_callWith {P : Program} {M : Maps} {pg : Pg} (hT : Tab P M pg) (hx : CallSim P M pg.ext) {ex : C → St → Option (Ex × St)} (hlo : ∀ c st e st', ex c st = some (e, st') → LoOk st st') (he : ExSim P M ex) :
    CallSim P M (callWith pg ex) := by
  intro i vs H r hcall f' hlook g w argv hargs hH
  cases hn : pg.fn i with
  | none =>
    have : pg.ext i vs H = some r := by
      unfold callWith at hcall
      rw [hn] at hcall
      exact hcall
    exact hx i vs H r this f' hlook g w argv hargs hH
  | some fn' => exact does_of_calls (calls_callWith hT hlo he hcall hlook (by rw [hn]; simp) hargs hH)

end W

/-
  What an operation looks at, and what it changes.
-/
set_option linter.unusedSimpArgs false
set_option linter.unusedVariables false
namespace W
open Go (IntKind BinOp UnOp)

/-- The same operation in two states. -/
structure Fr (k : OpK) (st st2 : St) (r r2 : Or) : Prop where
  pan : r2.pan = r.pan
  same : r2.same = r.same
  v : r2.v = r.v
  inn : ∀ s, s ∈ k.boxW → get s r2.st.env = get s r.st.env
  out1 : ∀ s, s ∉ k.boxW → get s r.st.env = get s st.env
  out2 : ∀ s, s ∉ k.boxW → get s r2.st.env = get s st2.env
  H1 : k.free = true → r.same = true → r.st.H = st.H ∧ r2.st.H = st2.H
  H2 : st2.H = st.H → r2.st.H = r.st.H
  lp : ∀ n, noLp n r.st.env = noLp n st.env
  lp2 : ∀ n, noLp n r2.st.env = noLp n st2.env

def Sees (k : OpK) (e e2 : Env) : Prop := ∀ s, s ∈ oSlots k.rds ∨ s ∈ k.boxR → get s e2 = get s e

theorem rd_congr {e e2 : Env} {x : O} (h : ∀ s, s ∈ oSlots [x] → get s e2 = get s e) : rd e2 x = rd e x := by
  cases x with
  | t n => simp only [rd]; rw [h n (by simp [oSlots])]
  | mv n => simp only [rd]; rw [h n (by simp [oSlots])]
  | c x => rfl
  | f i => rfl
  | g i x => rfl

theorem oSlots_append (a b : List O) : oSlots (a ++ b) = oSlots a ++ oSlots b := by
  induction a with
  | nil => rfl
  | cons x l ih => cases x <;> simp [oSlots, ih]
theorem oSlots_cons (x : O) (l : List O) : oSlots (x :: l) = oSlots [x] ++ oSlots l := oSlots_append [x] l

theorem rds_congr {e e2 : Env} : ∀ {l : List O}, (∀ s, s ∈ oSlots l → get s e2 = get s e) → l.map (rd e2) = l.map (rd e)
  | [], _ => rfl
  | x :: l, h => by
    rw [oSlots_cons] at h
    simp only [List.map_cons]
    rw [rd_congr (fun s hs => h s (by simp [hs])), rds_congr (fun s hs => h s (by simp [hs]))]

theorem optInt_congr {e e2 : Env} {x : Option O} (h : ∀ s, s ∈ oSlots x.toList → get s e2 = get s e) : optInt e2 x = optInt e x := by
  cases x with
  | none => rfl
  | some x => simp only [optInt]; rw [rd_congr (x := x) (by simpa using h)]

theorem noLp_cons_undef (n m : Nat) (e : Env) : noLp n ((m, .undef) :: e) = noLp n e := rfl
theorem noLp_spent (n : Nat) (x : O) (e : Env) : noLp n (spent x e) = noLp n e := by cases x <;> rfl
theorem noLp_spentAll (n : Nat) : ∀ (l : List O) (e : Env), noLp n (spentAll l e) = noLp n e
  | [], _ => rfl
  | x :: l, e => by simp only [spentAll]; rw [noLp_spentAll n l, noLp_spent]
theorem get_spent (x : O) (e : Env) (k : Nat) : get k (spent x e) = if k ∈ mvsOf [x] then .undef else get k e := get_spentAll [x] e k

variable {st st2 : St} {r : Or}

/-- An operation that changes nothing. -/
theorem fr_pure {k : OpK} (hst : r.st = st) {r2 : Or} (h2 : r2 = { r with st := st2 }) (hW : ∀ s, s ∈ k.boxW → get s st2.env = get s st.env) : Fr k st st2 r r2 := by
  subst h2
  refine ⟨rfl, rfl, rfl, fun s hs => (by rw [hst]; exact hW s hs), fun s _ => (by rw [hst]), fun s _ => rfl, fun _ _ => ⟨by rw [hst], rfl⟩, fun h => (by rw [hst]; exact h), fun n => (by rw [hst]), fun n => rfl⟩

/-- It empties slots. -/
theorem fr_spent {k : OpK} {l : List O} {v : V} (hW : k.boxW = mvsOf l) {same : Bool} {pan : Bool} {H' H2' : List Obj} {lo lo2 : Nat} (h1 : k.free = true → same = true → H' = st.H ∧ H2' = st2.H) (h2 : st2.H = st.H → H2' = H') :
    Fr k st st2 ⟨pan, same, v, { env := spentAll l st.env, H := H', lo := lo }⟩ ⟨pan, same, v, { env := spentAll l st2.env, H := H2', lo := lo2 }⟩ := by
  refine ⟨rfl, rfl, rfl, fun s hs => ?_, fun s hs => ?_, fun s hs => ?_, h1, h2, fun n => noLp_spentAll n l _, fun n => noLp_spentAll n l _⟩
  · rw [hW] at hs; simp only [get_spentAll, hs, if_true]
  · rw [hW] at hs; simp only [get_spentAll, hs, if_false]
  · rw [hW] at hs; simp only [get_spentAll, hs, if_false]

theorem mk_pure {v : V} (h : ok v st = some r) : r.st = st ∧ ok v st2 = some { r with st := st2 } := by
  simp only [ok, Option.some.injEq] at h; subst h; exact ⟨rfl, rfl⟩

theorem p_pick {c a b : O} (h : ePick c a b st = some r) (e1 : rd st2.env c = rd st.env c) (e2 : rd st2.env a = rd st.env a) (e3 : rd st2.env b = rd st.env b) : r.st = st ∧ ePick c a b st2 = some { r with st := st2 } := by
  unfold ePick at h ⊢; rw [e1, e2, e3]
  split at h
  · rename_i hz; (try simp only [hz]); exact mk_pure h
  · cases h
theorem p_build {z : List D} {p : List (Nat × Nat × O)} (h : eBuild z p st = some r) (e : (p.map fun (o, s, x) => (o, s, rd st2.env x)) = (p.map fun (o, s, x) => (o, s, rd st.env x))) : r.st = st ∧ eBuild z p st2 = some { r with st := st2 } := by
  unfold eBuild at h ⊢; rw [e]
  cases hk : partsOk (p.map fun (o, s, x) => (o, s, rd st.env x)) with
  | false => rw [hk] at h; simp at h
  | true =>
    rw [hk] at h
    simp only [Bool.not_true, cond_false] at h ⊢
    split at h
    · rename_i hz; (try simp only [hz]); exact mk_pure h
    · cases h
theorem p_buildSlice {z : D} {n : Nat} {p : List (Nat × O)} (h : eBuildSlice z n p st = some r) (e : (p.map fun (j, x) => (j, rd st2.env x)) = (p.map fun (j, x) => (j, rd st.env x))) : r.st = st ∧ eBuildSlice z n p st2 = some { r with st := st2 } := by
  unfold eBuildSlice at h ⊢; rw [e]
  split at h
  · rename_i hz; (try simp only [hz])
    split at h
    · rename_i hw; (try simp only [hw, if_true]); exact mk_pure h
    · cases h
  · cases h
theorem p_nilCheck {x : O} (h : eNilCheck x st = some r) (e1 : rd st2.env x = rd st.env x) : r.st = st ∧ eNilCheck x st2 = some { r with st := st2 } := by
  unfold eNilCheck at h ⊢; rw [e1]
  split at h
  · rename_i hz; (try simp only [hz]); exact mk_pure h
  · rename_i hz; (try simp only [hz]); exact mk_pure h
  · rename_i hz; (try simp only [hz]); exact mk_pure h
  · cases h
theorem p_bin {op : BinOp} {kd : Kd} {x y : O} (h : eBin op kd x y st = some r) (e1 : rd st2.env x = rd st.env x) (e2 : rd st2.env y = rd st.env y) : r.st = st ∧ eBin op kd x y st2 = some { r with st := st2 } := by
  unfold eBin at h ⊢; rw [e1, e2]
  split at h
  · rename_i hz; (try simp only [hz]); exact mk_pure h
  · cases h
theorem p_un {op : UnOp} {x : O} (h : eUn op x st = some r) (e1 : rd st2.env x = rd st.env x) : r.st = st ∧ eUn op x st2 = some { r with st := st2 } := by
  unfold eUn at h ⊢; rw [e1]
  split at h
  · rename_i hz; (try simp only [hz])
    split at h
    · rename_i hw; (try simp only [hw]); exact mk_pure h
    · cases h
  · cases h
theorem p_conv {k : IntKind} {x : O} (h : eConv k x st = some r) (e1 : rd st2.env x = rd st.env x) : r.st = st ∧ eConv k x st2 = some { r with st := st2 } := by
  unfold eConv at h ⊢; rw [e1]
  split at h
  · rename_i hz; (try simp only [hz]); exact mk_pure h
  · cases h
theorem p_bytes {x : O} (h : eBytes x st = some r) (e1 : rd st2.env x = rd st.env x) : r.st = st ∧ eBytes x st2 = some { r with st := st2 } := by
  unfold eBytes at h ⊢; rw [e1]
  split at h
  · rename_i hz; (try simp only [hz]); exact mk_pure h
  · cases h
theorem p_text {x : O} (h : eText x st = some r) (e1 : rd st2.env x = rd st.env x) (hH : st2.H = st.H) : r.st = st ∧ eText x st2 = some { r with st := st2 } := by
  unfold eText at h ⊢; rw [e1, hH]
  simp only [Bool.cond_eq_ite] at h ⊢
  split at h
  · rename_i hz; (try simp only [hz]); exact mk_pure h
  · rename_i hz; (try simp only [hz])
    split at h
    · rename_i hw; (try simp only [hw]); exact mk_pure h
    · cases h
  · rename_i hz; (try simp only [hz])
    split at h
    · rename_i hw; (try simp only [hw])
      split at h
      · rename_i hw2; (try simp only [hw2, if_true])
        split at h
        · rename_i hw3; (try simp only [hw3])
          split at h
          · rename_i hw4; (try simp only [hw4]); exact mk_pure h
          · cases h
        · cases h
      · cases h
    · cases h
  · cases h
theorem p_movS {x : O} (h : eMovS x st = some r) (e1 : rd st2.env x = rd st.env x) : r.st = st ∧ eMovS x st2 = some { r with st := st2 } := by
  unfold eMovS at h ⊢; rw [e1]
  split at h
  · rename_i hz; (try simp only [hz]); exact mk_pure h
  · cases h
theorem p_mkIfc {t : Nat} {x : O} (h : eMkIfc t x st = some r) (e1 : rd st2.env x = rd st.env x) : r.st = st ∧ eMkIfc t x st2 = some { r with st := st2 } := by
  unfold eMkIfc at h ⊢; rw [e1]
  split at h
  · rename_i hz; (try simp only [hz, if_true]); exact mk_pure h
  · cases h
theorem p_mkFn {f : Nat} {a b : List O} (h : eMkFn f a b st = some r) (e1 : a.map (rd st2.env) = a.map (rd st.env)) (e2 : b.map (rd st2.env) = b.map (rd st.env)) : r.st = st ∧ eMkFn f a b st2 = some { r with st := st2 } := by
  unfold eMkFn at h ⊢; rw [e1, e2]
  split at h
  · rename_i hz; (try simp only [hz, if_true]); exact mk_pure h
  · cases h
theorem p_sliceS {x : O} {a b : Option O} (h : eSliceS x a b st = some r) (e1 : rd st2.env x = rd st.env x) (e2 : optInt st2.env a = optInt st.env a) (e3 : optInt st2.env b = optInt st.env b) : r.st = st ∧ eSliceS x a b st2 = some { r with st := st2 } := by
  unfold eSliceS at h ⊢; rw [e1, e2, e3]
  split at h
  · rename_i hz1 hz2; (try simp only [hz1, hz2])
    split at h
    · rename_i hw; (try simp only [hw]); exact mk_pure h
    · cases h
  · cases h
theorem p_sliceL {n : Nat} {x : O} {a b : Option O} (h : eSliceL n x a b st = some r) (e1 : rd st2.env x = rd st.env x) (e2 : optInt st2.env a = optInt st.env a) (e3 : optInt st2.env b = optInt st.env b) : r.st = st ∧ eSliceL n x a b st2 = some { r with st := st2 } := by
  unfold eSliceL at h ⊢; rw [e1, e2, e3]
  split at h
  · rename_i hz1 hz2; (try simp only [hz1, hz2])
    split at h
    · rename_i hw; (try simp only [hw]); exact mk_pure h
    · cases h
  · cases h
theorem p_sliceA {n : Nat} {x : O} {a b : Option O} (h : eSliceA n x a b st = some r) (e1 : rd st2.env x = rd st.env x) (e2 : optInt st2.env a = optInt st.env a) (e3 : optInt st2.env b = optInt st.env b) : r.st = st ∧ eSliceA n x a b st2 = some { r with st := st2 } := by
  unfold eSliceA at h ⊢; rw [e1, e2, e3]
  split at h
  · rename_i hz1 hz2; (try simp only [hz1, hz2])
    split at h
    · rename_i hw; (try simp only [hw]); exact mk_pure h
    · cases h
  · cases h
theorem p_sliceM {n : Nat} {x : O} {a : Option O} {b m : O} (h : eSliceM n x a b m st = some r) (e1 : rd st2.env x = rd st.env x) (e2 : optInt st2.env a = optInt st.env a) (e3 : rd st2.env b = rd st.env b) (e4 : rd st2.env m = rd st.env m) : r.st = st ∧ eSliceM n x a b m st2 = some { r with st := st2 } := by
  unfold eSliceM at h ⊢; rw [e1, e2, e3, e4]
  split at h
  · rename_i hz1 hz2 hz3; (try simp only [hz1, hz2, hz3])
    split at h
    · rename_i hw; (try simp only [hw]); exact mk_pure h
    · cases h
  · cases h
theorem p_fieldAddr {x : O} {o : Nat} {l : L} (h : eFieldAddr x o l st = some r) (e1 : rd st2.env x = rd st.env x) : r.st = st ∧ eFieldAddr x o l st2 = some { r with st := st2 } := by
  unfold eFieldAddr at h ⊢; rw [e1]
  split at h
  · rename_i hz; (try simp only [hz]); exact mk_pure h
  · rename_i hz; (try simp only [hz]); exact mk_pure h
  · rename_i hz; (try simp only [hz])
    split at h
    · rename_i hw; (try simp only [hw])
      split at h
      · rename_i hq; (try simp only [hq, if_true]); exact mk_pure h
      · cases h
    · cases h
  · cases h
theorem p_field {x : O} {o : Nat} {l : L} (h : eField x o l st = some r) (e1 : rd st2.env x = rd st.env x) : r.st = st ∧ eField x o l st2 = some { r with st := st2 } := by
  unfold eField at h ⊢; rw [e1]
  split at h
  · rename_i hz; (try simp only [hz])
    split at h
    · rename_i hw; (try simp only [hw]); exact mk_pure h
    · cases h
  · rename_i hz; (try simp only [hz])
    split at h
    · rename_i hw; (try simp only [hw]); exact mk_pure h
    · cases h
  · cases h
theorem p_indexAddr {x i : O} {n : Nat} {arr : Option Nat} (h : eIndexAddr x i n arr st = some r) (e1 : rd st2.env x = rd st.env x) (e2 : rd st2.env i = rd st.env i) : r.st = st ∧ eIndexAddr x i n arr st2 = some { r with st := st2 } := by
  unfold eIndexAddr at h ⊢; rw [e2]
  split at h
  · rename_i hz; (try simp only [hz])
    cases arr with
    | some len =>
      simp only [eIndexAddrA, Bool.cond_eq_ite, e1] at h ⊢
      split at h
      · rename_i hw; (try simp only [hw, if_true])
        split at h
        · rename_i hq; (try simp only [hq]); exact mk_pure h
        · rename_i hq; (try simp only [hq]); exact mk_pure h
        · rename_i hq; (try simp only [hq])
          split at h
          · rename_i hq1; (try simp only [hq1, if_true])
            split at h
            · rename_i hq2; (try simp only [hq2])
              split at h
              · rename_i hq3; (try simp only [hq3, if_true]); exact mk_pure h
              · cases h
            · cases h
          · cases h
        · cases h
      · cases h
    | none =>
      simp only [eIndexAddrS, Bool.cond_eq_ite, e1] at h ⊢
      split at h
      · rename_i hw; (try simp only [hw, if_true])
        split at h
        · rename_i hq; (try simp only [hq])
          split at h
          · rename_i hq2; (try simp only [hq2])
            split at h
            · rename_i hq3; (try simp only [hq3, if_true]); exact mk_pure h
            · cases h
          · cases h
        · rename_i hq; (try simp only [hq])
          split at h
          · rename_i hq3; (try simp only [hq3, if_true]); exact mk_pure h
          · cases h
        · cases h
      · cases h
  · cases h
theorem p_index {x i : O} (h : eIndex x i st = some r) (e1 : rd st2.env x = rd st.env x) (e2 : rd st2.env i = rd st.env i) : r.st = st ∧ eIndex x i st2 = some { r with st := st2 } := by
  unfold eIndex at h ⊢; rw [e1, e2]
  split at h
  · rename_i hz1 hz2; (try simp only [hz1, hz2, Bool.cond_eq_ite] at h ⊢)
    split at h
    · rename_i hw; (try simp only [hw, if_true])
      split at h
      · rename_i hq; (try simp only [hq]); exact mk_pure h
      · cases h
    · cases h
  · cases h
theorem p_lookup {kk : Nat} {z : D} {m k : O} {c : Bool} (h : eLookup kk z m k c st = some r) (e1 : rd st2.env m = rd st.env m) (e2 : rd st2.env k = rd st.env k) (eH : st2.H = st.H) : r.st = st ∧ eLookup kk z m k c st2 = some { r with st := st2 } := by
  unfold eLookup at h ⊢; rw [e1, e2]
  split at h
  · rename_i hz1 hz2; (try simp only [hz1, hz2])
    split at h
    · rename_i hw; (try simp only [hw, if_true]); exact mk_pure h
    · cases h
  · rename_i hz1 hz2; (try simp only [hz1, hz2, eH])
    split at h
    · rename_i hw; (try simp only [hw])
      split at h
      · rename_i hq; (try simp only [hq, if_true])
        split at h
        · rename_i hq2; (try simp only [hq2]); exact mk_pure h
        · rename_i hq2; (try simp only [hq2]); exact mk_pure h
        · cases h
      · cases h
    · cases h
  · cases h
theorem p_extract {x : O} {i : Nat} (h : eExtract x i st = some r) (e : ∀ s, s ∈ oSlots [x] → get s st2.env = get s st.env) : r.st = st ∧ eExtract x i st2 = some { r with st := st2 } := by
  unfold eExtract at h ⊢
  split at h
  · rename_i n
    rw [e n (by simp [oSlots])]
    split at h
    · rename_i hz; (try simp only [hz])
      split at h
      · rename_i hw; (try simp only [hw]); exact mk_pure h
      · cases h
    · cases h
  · cases h

end W

/-
  What an operation looks at, and what it changes: those that change something.
-/
set_option linter.unusedSimpArgs false
set_option linter.unusedVariables false
namespace W
open Go (IntKind BinOp UnOp)

variable {st st2 : St} {r : Or}

theorem ones_noLp {v : V} (h : ∀ m o, v ≠ .lp m o) (n k : Nat) (e : Env) : noLp n ((k, v) :: e) = noLp n e := by
  cases v <;> first | rfl | exact absurd rfl (h _ _)

theorem f_mov {x : O} (h : eMov x st = some r) (e1 : rd st2.env x = rd st.env x) : ∃ r2, eMov x st2 = some r2 ∧ Fr (.mov x) st st2 r r2 := by
  simp only [eMov, ok, Option.some.injEq] at h ⊢
  subst h
  refine ⟨_, rfl, ?_⟩
  rw [e1]
  exact fr_spent (l := [x]) rfl (fun _ _ => ⟨rfl, rfl⟩) (fun h => h)

theorem f_alloc {loc : Bool} {z : List D} (h : eAlloc loc z st = some r) (eH : (!loc) = true → st2.H = st.H) : ∃ r2, eAlloc loc z st2 = some r2 ∧ Fr (.alloc loc z) st st2 r r2 := by
  cases loc with
  | true =>
    simp only [eAlloc, cond_true] at h ⊢
    obtain ⟨h1, h2⟩ := mk_pure (st2 := st2) h
    exact ⟨_, h2, fr_pure h1 rfl (fun s hs => by cases hs)⟩
  | false =>
    simp only [eAlloc, cond_false, okH, Option.some.injEq] at h ⊢
    subst h
    have e := eH rfl
    refine ⟨_, rfl, rfl, rfl, by rw [e], fun s hs => (by cases hs), fun s _ => rfl, fun s _ => rfl, fun h => (by cases h), fun _ => by rw [e], fun n => rfl, fun n => rfl⟩

theorem f_box {loc : Bool} {x : O} (h : eBox loc x st = some r) (e1 : rd st2.env x = rd st.env x) (eH : (!loc) = true → st2.H = st.H) : ∃ r2, eBox loc x st2 = some r2 ∧ Fr (.box loc x) st st2 r r2 := by
  simp only [eBox] at h ⊢
  rw [e1]
  split at h
  · cases h
  · rename_i hv
    (try rw [if_neg hv])
    cases loc with
    | true =>
      simp only [cond_true, ok, Option.some.injEq] at h ⊢
      subst h
      exact ⟨_, rfl, fr_spent (l := [x]) rfl (fun _ _ => ⟨rfl, rfl⟩) (fun h => h)⟩
    | false =>
      simp only [cond_false] at h ⊢
      split at h
      · rename_i hv2
        (try rw [if_pos hv2])
        simp only [okH, Option.some.injEq] at h ⊢
        subst h
        have e := eH rfl
        rw [e]
        exact ⟨_, rfl, fr_spent (l := [x]) rfl (fun h => by cases h) (fun h => rfl)⟩
      · cases h

theorem f_mkMap (h : eMkMap st = some r) (eH : st2.H = st.H) : ∃ r2, eMkMap st2 = some r2 ∧ Fr .mkMap st st2 r r2 := by
  simp only [eMkMap, okH, Option.some.injEq] at h ⊢
  subst h
  refine ⟨_, rfl, rfl, rfl, by rw [eH], fun s hs => (by cases hs), fun s _ => rfl, fun s _ => rfl, fun h => (by cases h), fun _ => by rw [eH], fun n => rfl, fun n => rfl⟩

theorem f_mkSlice {z : D} {a b : O} (h : eMkSlice z a b st = some r) (e1 : rd st2.env a = rd st.env a) (e2 : rd st2.env b = rd st.env b) (eH : st2.H = st.H) : ∃ r2, eMkSlice z a b st2 = some r2 ∧ Fr (.mkSlice z a b) st st2 r r2 := by
  unfold eMkSlice at h ⊢
  rw [e1, e2]
  split at h
  · rename_i hz1 hz2; (try simp only [hz1, hz2])
    split at h
    · rename_i hw; (try simp only [hw])
      split at h
      · rename_i hq; (try simp only [hq, if_true])
        simp only [okH, Option.some.injEq] at h
        subst h
        (try rw [if_pos hw])
        refine ⟨_, rfl, rfl, rfl, by rw [eH, hq], fun s hs => (by cases hs), fun s _ => rfl, fun s _ => rfl, fun h => (by cases h), fun _ => by rw [eH, hq], fun n => rfl, fun n => rfl⟩
      · cases h
    · cases h
  · cases h

theorem f_mapUpdate {kk : Nat} {m k x : O} (h : eMapUpdate kk m k x st = some r) (e1 : rd st2.env m = rd st.env m) (e2 : rd st2.env k = rd st.env k) (e3 : rd st2.env x = rd st.env x) (eH : st2.H = st.H) :
    ∃ r2, eMapUpdate kk m k x st2 = some r2 ∧ Fr (.mapUpdate kk m k x) st st2 r r2 := by
  unfold eMapUpdate at h ⊢
  rw [e1, e2, e3, eH]
  split at h
  · rename_i hz1 hz2; (try simp only [hz1, hz2])
    split at h
    · rename_i hw; (try simp only [hw])
      simp only at h
      split at h
      · rename_i hq
        (try rw [if_pos hq])
        split at h
        · rename_i hq2; (try simp only [hq2])
          simp only [okH, Option.some.injEq] at h
          subst h
          exact ⟨_, rfl, fr_spent (l := [x]) rfl (fun h => by cases h) (fun _ => rfl)⟩
        · cases h
      · cases h
    · cases h
  · cases h

theorem f_call {call : Call} (hc : CallLo call) {f : O} {l : List O} (h : eCall call f l st = some r) (e1 : rd st2.env f = rd st.env f) (e2 : l.map (rd st2.env) = l.map (rd st.env)) (eH : st2.H = st.H) :
    ∃ r2, eCall call f l st2 = some r2 ∧ Fr (.call f l) st st2 r r2 := by
  unfold eCall at h ⊢
  rw [e1, e2, eH]
  split at h
  · rename_i hz; (try simp only [hz])
    simp only at h ⊢
    split at h
    · rename_i hw
      (try rw [if_pos hw])
      split at h
      · rename_i q hq; (try simp only [hq])
        simp only [Option.some.injEq] at h
        subst h
        have hs := (hc _ _ _ _ hq).2.2
        exact ⟨_, rfl, fr_spent (l := l) rfl (fun _ hh => ⟨hs hh, by rw [eH]; exact hs hh⟩) (fun _ => rfl)⟩
      · cases h
    · cases h
  · cases h

theorem mvs_slots : ∀ {l : List O} {s : Nat}, s ∈ mvsOf l → s ∈ oSlots l
  | .mv n :: l, s, h => by
    simp only [mvsOf, oSlots, List.mem_cons] at h ⊢
    exact h.imp id mvs_slots
  | .t n :: l, s, h => by
    simp only [oSlots, List.mem_cons]
    exact .inr (mvs_slots (l := l) h)
  | .c _ :: l, s, h => mvs_slots (l := l) h
  | .f _ :: l, s, h => mvs_slots (l := l) h
  | .g _ _ :: l, s, h => mvs_slots (l := l) h

theorem mvs_cons (x : O) (l : List O) : mvsOf (x :: l) = mvsOf [x] ++ mvsOf l := by cases x <;> rfl

theorem f_append {size bytes : Nat} {x y : O} (h : eAppend size bytes x y st = some r) (e1 : rd st2.env x = rd st.env x) (e2 : rd st2.env y = rd st.env y) (hy : ∀ s, s ∈ mvsOf [y] → get s st2.env = get s st.env) :
    ∃ r2, eAppend size bytes x y st2 = some r2 ∧ Fr (.bi (.append size bytes) [x, y]) st st2 r r2 := by
  unfold eAppend at h ⊢
  rw [e1, e2]
  split at h
  · rename_i hz; (try simp only [hz])
    simp only [ok, Option.some.injEq] at h
    subst h
    have hW : ∀ s, s ∈ (OpK.bi (.append size bytes) [x, y]).boxW ↔ s ∈ mvsOf [x] ∨ s ∈ mvsOf [y] := fun s => by
      show s ∈ mvsOf [x, y] ↔ _
      rw [mvs_cons]; simp
    refine ⟨_, rfl, rfl, rfl, rfl, fun s hs => ?_, fun s hs => ?_, fun s hs => ?_, fun _ _ => ⟨rfl, rfl⟩, fun h => h, fun n => noLp_spent n x _, fun n => noLp_spent n x _⟩
    · show get s (spent x st2.env) = get s (spent x st.env)
      rw [get_spent, get_spent]
      split
      · rfl
      · rename_i hx
        exact hy s (((hW s).1 hs).resolve_left hx)
    · rw [hW, not_or] at hs
      show get s (spent x st.env) = _
      rw [get_spent, if_neg hs.1]
    · rw [hW, not_or] at hs
      show get s (spent x st2.env) = _
      rw [get_spent, if_neg hs.1]
  · cases h

theorem f_load {sl : Option Nat} {l : L} {a : O} (h : eLoad false sl l a st = some r) (e1 : rd st2.env a = rd st.env a) (e2 : ∀ s, sl = some s → get s st2.env = get s st.env) (eH : sl.isNone = true → st2.H = st.H) :
    ∃ r2, eLoad false sl l a st2 = some r2 ∧ Fr (.load false sl l a) st st2 r r2 := by
  unfold eLoad at h ⊢
  rw [e1]
  cases hs : slotIs sl (rd st.env a) with
  | false => rw [hs] at h; simp at h
  | true =>
    rw [hs] at h
    simp only [Bool.not_true, cond_false] at h ⊢
    have key : ∀ v, loadAt l st (rd st.env a) = some v → loadAt l st2 (rd st.env a) = some v := by
      intro v hv
      unfold loadAt at hv ⊢
      split at hv
      · rename_i s off hz
        have hsl : sl = some s := by
          rw [hz] at hs
          cases sl with
          | none => simp [slotIs] at hs
          | some n => exact congrArg some (by simpa [slotIs] using hs)
        rw [e2 s hsl]; exact hv
      · exact hv
      · rename_i id off hz
        have hsl : sl.isNone = true := by
          rw [hz] at hs
          cases sl with
          | none => rfl
          | some n => simp [slotIs] at hs
        rw [eH hsl]; exact hv
      · cases hv
    split at h
    · rename_i v hv
      rw [key v hv]
      obtain ⟨h1, h2⟩ := mk_pure (st2 := st2) h
      exact ⟨_, h2, fr_pure h1 rfl (fun s hs => by cases hs)⟩
    · cases h

theorem f_boxset {k : OpK} {s : Nat} {l : List O} {cs : List V} {v : V} {same pan : Bool} (hW : ∀ n, n ∈ k.boxW ↔ n = s ∨ n ∈ mvsOf l) :
    Fr k st st2 ⟨pan, same, v, { st with env := (s, .box cs) :: spentAll l st.env }⟩ ⟨pan, same, v, { st2 with env := (s, .box cs) :: spentAll l st2.env }⟩ := by
  refine ⟨rfl, rfl, rfl, fun n hn => ?_, fun n hn => ?_, fun n hn => ?_, fun _ _ => ⟨rfl, rfl⟩, fun h => h, fun n => noLp_spentAll n l _, fun n => noLp_spentAll n l _⟩
  · rw [hW] at hn
    simp only [get_cons, get_spentAll]
    rcases hn with h | h
    · simp [h]
    · simp [h]
  · rw [hW, not_or] at hn
    simp only [get_cons, get_spentAll, hn.1, hn.2, if_false]
  · rw [hW, not_or] at hn
    simp only [get_cons, get_spentAll, hn.1, hn.2, if_false]

theorem f_loadMv {sl : Option Nat} {l : L} {a : O} (h : eLoad true sl l a st = some r) (e1 : rd st2.env a = rd st.env a) (e2 : ∀ s, sl = some s → get s st2.env = get s st.env) (eH : sl.isNone = true → st2.H = st.H) :
    ∃ r2, eLoad true sl l a st2 = some r2 ∧ Fr (.load true sl l a) st st2 r r2 := by
  unfold eLoad at h ⊢
  rw [e1]
  cases hs : slotIs sl (rd st.env a) with
  | false => rw [hs] at h; simp at h
  | true =>
    rw [hs] at h
    simp only [Bool.not_true, cond_false, cond_true] at h ⊢
    cases hl : l.agg with
    | true => rw [hl] at h; simp at h
    | false =>
      rw [hl] at h
      simp only [cond_false] at h ⊢
      split at h
      · rename_i v st' hst
        unfold loadMv at hst ⊢
        split at hst
        · rename_i s off hz
          have hsl : sl = some s := by
            rw [hz] at hs
            cases sl with
            | none => simp [slotIs] at hs
            | some n => exact congrArg some (by simpa [slotIs] using hs)
          subst hsl
          rw [e2 s rfl]
          split at hst
          · rename_i cs hb
            split at hst
            · rename_i v' hc
              simp only [Option.some.injEq, Prod.mk.injEq] at hst
              obtain ⟨rfl, rfl⟩ := hst
              simp only [ok, Option.some.injEq] at h ⊢
              subst h
              exact ⟨_, rfl, f_boxset (l := []) (fun n => by simp [OpK.boxW, mvsOf])⟩
            · cases hst
          · cases hst
        · rename_i id off hz
          have hsl : sl = none := by
            rw [hz] at hs
            cases sl with
            | none => rfl
            | some n => simp [slotIs] at hs
          subst hsl
          rw [eH rfl]
          split at hst
          · rename_i cs hb
            split at hst
            · rename_i v' hc
              simp only [Option.some.injEq, Prod.mk.injEq] at hst
              obtain ⟨rfl, rfl⟩ := hst
              simp only [okH, Option.some.injEq] at h ⊢
              subst h
              exact ⟨_, rfl, rfl, rfl, rfl, fun s hs => (by cases hs), fun s _ => rfl, fun s _ => rfl, fun h => (by cases h), fun _ => rfl, fun n => rfl, fun n => rfl⟩
            · cases hst
          · cases hst
        · cases hst
      · cases h

theorem f_store {sl : Option Nat} {l : L} {a x : O} (h : eStore sl l a x st = some r) (e1 : rd st2.env a = rd st.env a) (e3 : rd st2.env x = rd st.env x) (e2 : ∀ s, sl = some s → get s st2.env = get s st.env) (eH : sl.isNone = true → st2.H = st.H) :
    ∃ r2, eStore sl l a x st2 = some r2 ∧ Fr (.store sl l a x) st st2 r r2 := by
  unfold eStore at h ⊢
  rw [e1, e3]
  cases hs : slotIs sl (rd st.env a) with
  | false => rw [hs] at h; simp at h
  | true =>
    rw [hs] at h
    simp only [Bool.not_true, cond_false] at h ⊢
    split at h
    · rename_i st' hst
      unfold storeAt at hst ⊢
      split at hst
      · rename_i s off hz
        have hsl : sl = some s := by
          rw [hz] at hs
          cases sl with
          | none => simp [slotIs] at hs
          | some n => exact congrArg some (by simpa [slotIs] using hs)
        subst hsl
        have e4 : get s (spent x st2.env) = get s (spent x st.env) := by rw [get_spent, get_spent, e2 s rfl]
        simp only [e4]
        split at hst
        · rename_i cs hb
          split at hst
          · rename_i hc
            (try rw [if_pos hc])
            split at hst
            · rename_i cs' hset
              simp only [Option.some.injEq] at hst
              subst hst
              (try simp only [hb, if_pos hc, hset])
              simp only [ok, Option.some.injEq] at h ⊢
              subst h
              exact ⟨_, rfl, f_boxset (l := [x]) (fun n => by simp [OpK.boxW])⟩
            · cases hst
          · cases hst
        · cases hst
      · rename_i id off hz
        have hsl : sl = none := by
          rw [hz] at hs
          cases sl with
          | none => rfl
          | some n => simp [slotIs] at hs
        subst hsl
        simp only [eH rfl]
        split at hst
        · rename_i cs hb
          split at hst
          · rename_i hc
            (try rw [if_pos hc])
            split at hst
            · rename_i cs' hset
              simp only [Option.some.injEq] at hst
              subst hst
              (try simp only [hb, if_pos hc, hset])
              simp only [okH, Option.some.injEq] at h ⊢
              subst h
              exact ⟨_, rfl, fr_spent (l := [x]) rfl (fun h => by cases h) (fun _ => rfl)⟩
            · cases hst
          · cases hst
        · cases hst
      · cases hst
    · cases h

theorem p_lenS {x : O} (h : eLenS x st = some r) (e1 : rd st2.env x = rd st.env x) : r.st = st ∧ eLenS x st2 = some { r with st := st2 } := by
  unfold eLenS at h ⊢; rw [e1]
  split at h
  · rename_i hz; (try simp only [hz]); exact mk_pure h
  · cases h
theorem p_lenL {x : O} (h : eLenL x st = some r) (e1 : rd st2.env x = rd st.env x) : r.st = st ∧ eLenL x st2 = some { r with st := st2 } := by
  unfold eLenL at h ⊢; rw [e1]
  split at h
  · rename_i hz; (try simp only [hz])
    split at h
    · rename_i hw; (try simp only [hw]); exact mk_pure h
    · cases h
  · rename_i hz; (try simp only [hz]); exact mk_pure h
  · cases h
theorem p_lenM {x : O} (h : eLenM x st = some r) (e1 : rd st2.env x = rd st.env x) (eH : st2.H = st.H) : r.st = st ∧ eLenM x st2 = some { r with st := st2 } := by
  unfold eLenM at h ⊢; rw [e1, eH]
  split at h
  · rename_i hz; (try simp only [hz]); exact mk_pure h
  · rename_i hz; (try simp only [hz])
    split at h
    · rename_i hw; (try simp only [hw]); exact mk_pure h
    · cases h
  · cases h

theorem parts_congr {e e2 : Env} : ∀ {p : List (Nat × Nat × O)}, (∀ s, s ∈ oSlots (p.map (·.2.2)) → get s e2 = get s e) → (p.map fun (o, s, x) => (o, s, rd e2 x)) = (p.map fun (o, s, x) => (o, s, rd e x))
  | [], _ => rfl
  | (o, n, x) :: l, h => by
    simp only [List.map_cons] at h ⊢
    rw [oSlots_cons] at h
    rw [rd_congr (fun s hs => h s (by simp [hs])), parts_congr (fun s hs => h s (by simp [hs]))]
theorem partsS_congr {e e2 : Env} : ∀ {p : List (Nat × O)}, (∀ s, s ∈ oSlots (p.map (·.2)) → get s e2 = get s e) → (p.map fun (j, x) => (j, rd e2 x)) = (p.map fun (j, x) => (j, rd e x))
  | [], _ => rfl
  | (o, x) :: l, h => by
    simp only [List.map_cons] at h ⊢
    rw [oSlots_cons] at h
    rw [rd_congr (fun s hs => h s (by simp [hs])), partsS_congr (fun s hs => h s (by simp [hs]))]

/-- An operation in two states that agree on what it looks at. -/
theorem fr_evalK {call : Call} (hc : CallLo call) {k : OpK} (h : evalK call k st = some r) (hs : Sees k st.env st2.env) (hH : k.looks = true → st2.H = st.H) : ∃ r2, evalK call k st2 = some r2 ∧ Fr k st st2 r r2 := by
  have s1 : ∀ {x : O} {l l' : List O}, k.rds = l ++ x :: l' → rd st2.env x = rd st.env x := fun {x l l'} e => rd_congr (fun s hs' => hs s (.inl (by rw [e, oSlots_append, oSlots_cons]; simp [hs'])))
  have pure : ∀ {f : St → Option Or}, evalK call k = f → (r.st = st ∧ f st2 = some { r with st := st2 }) → (∀ s, s ∈ k.boxW → get s st2.env = get s st.env) → ∃ r2, evalK call k st2 = some r2 ∧ Fr k st st2 r r2 := fun hf ⟨h1, h2⟩ hW => ⟨_, by rw [hf]; exact h2, fr_pure h1 rfl hW⟩
  have nW : ∀ {s : Nat}, s ∈ ([] : List Nat) → get s st2.env = get s st.env := fun h => by cases h
  cases k with
  | mov x => exact f_mov h (s1 (l := []) rfl)
  | pick c a b => exact pure rfl (p_pick h (s1 (l := []) rfl) (s1 (l := [c]) rfl) (s1 (l := [c, a]) rfl)) (fun s h => nW h)
  | alloc loc z => exact f_alloc h hH
  | box loc x => exact f_box h (s1 (l := []) rfl) hH
  | build z p => exact pure rfl (p_build h (parts_congr fun s h => hs s (.inl h))) (fun s h => nW h)
  | buildSlice z n p => exact pure rfl (p_buildSlice h (partsS_congr fun s h => hs s (.inl h))) (fun s h => nW h)
  | load mv sl l a =>
    have e2 : ∀ s, sl = some s → get s st2.env = get s st.env := fun s e => hs s (.inr (by subst e; simp [OpK.boxR]))
    cases mv with
    | false => exact f_load h (s1 (l := []) rfl) e2 hH
    | true => exact f_loadMv h (s1 (l := []) rfl) e2 hH
  | store sl l a x => exact f_store h (s1 (l := []) rfl) (s1 (l := [a]) rfl) (fun s e => hs s (.inr (by subst e; simp [OpK.boxR]))) hH
  | nilCheck x => exact pure rfl (p_nilCheck h (s1 (l := []) rfl)) (fun s h => nW h)
  | bin op kd x y => exact pure rfl (p_bin h (s1 (l := []) rfl) (s1 (l := [x]) rfl)) (fun s h => nW h)
  | un op x => exact pure rfl (p_un h (s1 (l := []) rfl)) (fun s h => nW h)
  | conv k x => exact pure rfl (p_conv h (s1 (l := []) rfl)) (fun s h => nW h)
  | bytes x => exact pure rfl (p_bytes h (s1 (l := []) rfl)) (fun s h => nW h)
  | text x => exact pure rfl (p_text h (s1 (l := []) rfl) (hH rfl)) (fun s h => nW h)
  | movS x => exact pure rfl (p_movS h (s1 (l := []) rfl)) (fun s h => nW h)
  | mkIfc t x => exact pure rfl (p_mkIfc h (s1 (l := []) rfl)) (fun s h => nW h)
  | mkFn f a b => exact pure rfl (p_mkFn h (rds_congr fun s h => hs s (.inl (by show s ∈ oSlots (a ++ b); rw [oSlots_append]; simp [h]))) (rds_congr fun s h => hs s (.inl (by show s ∈ oSlots (a ++ b); rw [oSlots_append]; simp [h])))) (fun s h => nW h)
  | mkMap => exact f_mkMap h (hH rfl)
  | mkSlice z a b => exact f_mkSlice h (s1 (l := []) rfl) (s1 (l := [a]) rfl) (hH rfl)
  | sliceS x a b =>
    have e : ∀ s, s ∈ oSlots a.toList ∨ s ∈ oSlots b.toList → get s st2.env = get s st.env := fun s h => hs s (.inl (by
      show s ∈ oSlots (x :: (a.toList ++ b.toList)); rw [oSlots_cons, oSlots_append]; simp only [List.mem_append]; exact .inr h))
    exact pure rfl (p_sliceS h (s1 (l := []) rfl) (optInt_congr fun s h => e s (.inl h)) (optInt_congr fun s h => e s (.inr h))) (fun s h => nW h)
  | sliceL n x a b =>
    have e : ∀ s, s ∈ oSlots a.toList ∨ s ∈ oSlots b.toList → get s st2.env = get s st.env := fun s h => hs s (.inl (by
      show s ∈ oSlots (x :: (a.toList ++ b.toList)); rw [oSlots_cons, oSlots_append]; simp only [List.mem_append]; exact .inr h))
    exact pure rfl (p_sliceL h (s1 (l := []) rfl) (optInt_congr fun s h => e s (.inl h)) (optInt_congr fun s h => e s (.inr h))) (fun s h => nW h)
  | sliceA n x a b =>
    have e : ∀ s, s ∈ oSlots a.toList ∨ s ∈ oSlots b.toList → get s st2.env = get s st.env := fun s h => hs s (.inl (by
      show s ∈ oSlots (x :: (a.toList ++ b.toList)); rw [oSlots_cons, oSlots_append]; simp only [List.mem_append]; exact .inr h))
    exact pure rfl (p_sliceA h (s1 (l := []) rfl) (optInt_congr fun s h => e s (.inl h)) (optInt_congr fun s h => e s (.inr h))) (fun s h => nW h)
  | sliceM n x a b m =>
    have e : ∀ s, s ∈ oSlots a.toList → get s st2.env = get s st.env := fun s h => hs s (.inl (by
      show s ∈ oSlots (m :: b :: x :: a.toList); rw [oSlots_cons m, oSlots_cons b, oSlots_cons x]; simp only [List.mem_append]; exact Or.inr (Or.inr (Or.inr h))))
    exact pure rfl (p_sliceM h (s1 (l := [m, b]) rfl) (optInt_congr fun s h => e s h) (s1 (l := [m]) rfl) (s1 (l := []) rfl)) (fun s h => nW h)
  | stuck => cases h
  | fieldAddr x o l => exact pure rfl (p_fieldAddr h (s1 (l := []) rfl)) (fun s h => nW h)
  | field x o l => exact pure rfl (p_field h (s1 (l := []) rfl)) (fun s h => nW h)
  | indexAddr x i n arr => exact pure rfl (p_indexAddr h (s1 (l := []) rfl) (s1 (l := [x]) rfl)) (fun s h => nW h)
  | index x i => exact pure rfl (p_index h (s1 (l := []) rfl) (s1 (l := [x]) rfl)) (fun s h => nW h)
  | lookup kk z m k c => exact pure rfl (p_lookup h (s1 (l := []) rfl) (s1 (l := [m]) rfl) (hH rfl)) (fun s h => nW h)
  | mapUpdate kk m k x => exact f_mapUpdate h (s1 (l := []) rfl) (s1 (l := [m]) rfl) (s1 (l := [m, k]) rfl) (hH rfl)
  | extract x i => exact pure rfl (p_extract h (fun s h => hs s (.inl h))) (fun s h => nW h)
  | call f l => exact f_call hc h (s1 (l := []) rfl) (rds_congr fun s h => hs s (.inl (by show s ∈ oSlots (f :: l); rw [oSlots_cons]; simp [h]))) (hH rfl)
  | panic x =>
    refine pure rfl ?_ (fun s h => nW h)
    have e := s1 (x := x) (l := []) (l' := []) rfl
    simp only [evalK] at h
    show r.st = st ∧ ePanic x st2 = _
    unfold ePanic at h ⊢
    rw [e]
    split at h
    · rename_i hz; (try simp only [hz])
      simp only [Option.some.injEq] at h
      subst h
      exact ⟨rfl, rfl⟩
    · cases h
  | bi b l =>
    have hW : ∀ s, s ∈ mvsOf l → get s st2.env = get s st.env := fun s h => hs s (.inl (mvs_slots h))
    have eL : l.map (rd st2.env) = l.map (rd st.env) := rds_congr fun s h => hs s (.inl h)
    simp only [evalK, eBi] at h
    cases b with
    | lenS =>
      rcases l with _ | ⟨x, _ | ⟨y, l⟩⟩
      · cases h
      · exact pure rfl (p_lenS h (s1 (l := []) rfl)) hW
      · cases h
    | lenL =>
      rcases l with _ | ⟨x, _ | ⟨y, l⟩⟩
      · cases h
      · exact pure rfl (p_lenL h (s1 (l := []) rfl)) hW
      · cases h
    | lenM =>
      rcases l with _ | ⟨x, _ | ⟨y, l⟩⟩
      · cases h
      · exact pure rfl (p_lenM h (s1 (l := []) rfl) (hH rfl)) hW
      · cases h
    | append size bytes =>
      rcases l with _ | ⟨x, _ | ⟨y, _ | ⟨z, l⟩⟩⟩
      · cases h
      · cases h
      · exact f_append h (s1 (l := []) rfl) (s1 (l := [x]) rfl) (fun s h => hW s (by rw [mvs_cons]; simp [h]))
      · cases h
    | max =>
      refine pure (f := fun st => eBi .max l st) rfl ?_ hW
      have h' : (match maxD (l.map (rd st.env)) with | some v => ok v st | none => none) = some r := by cases l <;> exact h
      have g : eBi .max l st2 = (match maxD (l.map (rd st2.env)) with | some v => ok v st2 | none => none) := by cases l <;> rfl
      show r.st = st ∧ eBi .max l st2 = _
      rw [g, eL]
      split at h'
      · rename_i hz; (try simp only [hz]); exact mk_pure h'
      · cases h'
    | min =>
      refine pure (f := fun st => eBi .min l st) rfl ?_ hW
      have h' : (match minD (l.map (rd st.env)) with | some v => ok v st | none => none) = some r := by cases l <;> exact h
      have g : eBi .min l st2 = (match minD (l.map (rd st2.env)) with | some v => ok v st2 | none => none) := by cases l <;> rfl
      show r.st = st ∧ eBi .min l st2 = _
      rw [g, eL]
      split at h'
      · rename_i hz; (try simp only [hz]); exact mk_pure h'
      · cases h'

end W

/-
  Regions whose order is open: whatever the order, the same.
-/
set_option linter.unusedSimpArgs false
set_option linter.unusedVariables false
namespace W
open Go (IntKind BinOp UnOp Oper)

abbrev El := Op × Bool × List Nat

def stepD (call : Call) (x : El) (st : St) : Option St :=
  match wanted x.1.g st.env with
  | some true => match evalK call x.1.k st with
    | some r => bif r.pan || !(r.same || x.2.1) then none else putD (boxK x.1.k) x.2.2 x.1.dst r.v r.st
    | none => none
  | some false => some (put x.1.dst (.tup []) st)
  | none => none

def runD (call : Call) : List El → St → Option St
  | [], st => some st
  | x :: l, st => match stepD call x st with
    | some st' => runD call l st'
    | none => none

theorem runOpsD_runD {call : Call} : ∀ {l : List El} {st : St} {e : Ex} {st' : St}, runOpsD call l st = some (e, st') → e = .nrm ∧ runD call l st = some st'
  | [], st, e, st', h => by simp only [runOpsD, Option.some.injEq, Prod.mk.injEq] at h; exact ⟨h.1.symm, by rw [← h.2]; rfl⟩
  | (o, s, no) :: l, st, e, st', h => by
    simp only [runOpsD] at h
    simp only [runD, stepD]
    split at h
    · rename_i hw
      simp only [hw]
      split at h
      · rename_i r hr
        simp only [hr]
        rw [Bool.cond_eq_ite] at h ⊢
        split at h
        · cases h
        · rename_i hp
          rw [if_neg hp]
          split at h
          · rename_i st1 h1
            simp only [h1]
            exact runOpsD_runD h
          · cases h
      · cases h
    · rename_i hw
      simp only [hw]
      exact runOpsD_runD h
    · cases h

structure Eqv (st st2 : St) : Prop where
  e : ∀ k, get k st2.env = get k st.env
  H : st2.H = st.H
  lp : ∀ n, noLp n st2.env = noLp n st.env

theorem Eqv.refl (st : St) : Eqv st st := ⟨fun _ => rfl, rfl, fun _ => rfl⟩
theorem Eqv.trans {a b c : St} (h : Eqv a b) (h' : Eqv b c) : Eqv a c := ⟨fun k => (h'.e k).trans (h.e k), h'.H.trans h.H, fun n => (h'.lp n).trans (h.lp n)⟩

/-- What a step leaves, in two states. -/
structure FrD (x : El) (st st2 st1 st1' : St) (b : Nat → Bool) : Prop where
  inn : ∀ s, s ∈ x.1.wr → get s st1'.env = get s st1.env
  out1 : ∀ s, s ∉ x.1.wr → get s st1.env = get s st.env
  out2 : ∀ s, s ∉ x.1.wr → get s st1'.env = get s st2.env
  H1 : x.1.k.free = true → st1.H = st.H ∧ st1'.H = st2.H
  H2 : st2.H = st.H → st1'.H = st1.H
  lp : ∀ n, noLp n st1.env = (noLp n st.env && b n)
  lp2 : ∀ n, noLp n st1'.env = (noLp n st2.env && b n)
  no : ∀ n, hasNat n x.2.2 = true → b n = true

theorem hasNat_mem {n : Nat} : ∀ {l : List Nat}, n ∈ l → hasNat n l = true
  | m :: l, h => by
    simp only [hasNat, Bool.or_eq_true]
    rcases List.mem_cons.1 h with e | h
    · subst e; exact .inl (by simp)
    · exact .inr (hasNat_mem h)

theorem wanted_congr {g : Option (Nat × Bool)} {e e2 : Env} (h : ∀ n w, g = some (n, w) → get n e2 = get n e) : wanted g e2 = wanted g e := by
  cases g with
  | none => rfl
  | some nw => obtain ⟨n, w⟩ := nw; simp only [wanted]; rw [h n w rfl]

theorem mem_re_k {o : Op} {s : Nat} (h : s ∈ oSlots o.k.rds ∨ s ∈ o.k.boxR) : s ∈ o.re := by
  unfold Op.re
  simp only [List.mem_append]
  rcases h with h | h
  · exact .inr (.inl h)
  · exact .inr (.inr (.inl h))
theorem mem_re_w {o : Op} {s : Nat} (h : s ∈ o.k.boxW) : s ∈ o.re := by
  unfold Op.re
  simp only [List.mem_append]
  exact .inr (.inr (.inr h))
theorem mem_re_g {o : Op} {n : Nat} {w : Bool} (h : o.g = some (n, w)) : n ∈ o.re := by
  unfold Op.re; rw [h]; simp

theorem frD {call : Call} (hc : CallLo call) {x : El} {st st2 st1 : St} (h : stepD call x st = some st1) (hfree : x.2.1 = !x.1.k.free) (hs : ∀ s, s ∈ x.1.re → get s st2.env = get s st.env) (hH : x.1.k.looks = true → st2.H = st.H)
    (hbx : ∀ n, n ∈ makesBox x.1 → noLp n st.env = true → noLp n st2.env = true) : ∃ st1' b, stepD call x st2 = some st1' ∧ FrD x st st2 st1 st1' b := by
  unfold stepD at h ⊢
  rw [wanted_congr (e := st.env) (fun n w hg => hs n (mem_re_g hg))]
  split at h
  · rename_i hw
    (try simp only [hw])
    split at h
    · rename_i r hr
      obtain ⟨r2, hr2, F⟩ := fr_evalK hc hr (fun s h => hs s (mem_re_k h)) hH
      simp only [hr2]
      rw [Bool.cond_eq_ite] at h ⊢
      rw [F.pan, F.same]
      split at h
      · cases h
      · rename_i hp
        rw [if_neg hp]
        have hsame : x.1.k.free = true → r.same = true := fun hf => by
          simp only [Bool.or_eq_true, not_or, Bool.not_eq_true', hfree, hf, Bool.not_true, Bool.or_false] at hp
          simpa using hp.2
        have done : ∀ {v : V} {b : Nat → Bool} {n : Nat}, x.1.dst = some n → (∀ m (e : Env), noLp m ((n, v) :: e) = (noLp m e && b m)) → (∀ m, hasNat m x.2.2 = true → b m = true) →
            FrD x st st2 { r.st with env := (n, v) :: r.st.env } { r2.st with env := (n, v) :: r2.st.env } b := by
          intro v b n hdst hb hno
          have hwr : ∀ s, s ∈ x.1.wr ↔ s = n ∨ s ∈ x.1.k.boxW := fun s => by unfold Op.wr; rw [hdst]; simp
          refine ⟨fun s hs => ?_, fun s hs => ?_, fun s hs => ?_, fun hf => F.H1 hf (hsame hf), F.H2, fun m => ?_, fun m => ?_, hno⟩
          · show get s ((n, v) :: r2.st.env) = get s ((n, v) :: r.st.env)
            rw [get_cons, get_cons]
            split
            · rfl
            · rename_i hne; exact F.inn s (((hwr s).1 hs).resolve_left hne)
          · rw [hwr, not_or] at hs
            show get s ((n, v) :: r.st.env) = _
            rw [get_cons, if_neg hs.1]; exact F.out1 s hs.2
          · rw [hwr, not_or] at hs
            show get s ((n, v) :: r2.st.env) = _
            rw [get_cons, if_neg hs.1]; exact F.out2 s hs.2
          · show noLp m ((n, v) :: r.st.env) = _
            rw [hb, F.lp]
          · show noLp m ((n, v) :: r2.st.env) = _
            rw [hb, F.lp2]
        unfold putD at h ⊢
        rw [F.v]
        cases hdst : x.1.dst with
        | none =>
          rw [hdst] at h
          simp only [Option.some.injEq] at h
          subst h
          have hwr : ∀ s, s ∈ x.1.wr ↔ s ∈ x.1.k.boxW := fun s => by unfold Op.wr; rw [hdst]; simp
          exact ⟨_, fun _ => true, rfl, fun s hs => F.inn s ((hwr s).1 hs), fun s hs => F.out1 s (fun h => hs ((hwr s).2 h)), fun s hs => F.out2 s (fun h => hs ((hwr s).2 h)), fun hf => F.H1 hf (hsame hf), F.H2,
            fun n => by rw [F.lp]; simp, fun n => by rw [F.lp2]; simp, fun _ _ => rfl⟩
        | some n =>
          rw [hdst] at h
          simp only at h ⊢
          split at h
          · rename_i cs hv
            rw [Bool.cond_eq_ite] at h
            split at h
            · rename_i hb
              simp only [Option.some.injEq] at h
              subst h
              simp only [Bool.and_eq_true] at hb
              have hb2 : (boxK x.1.k && noLp n r2.st.env) = true := by
                rw [Bool.and_eq_true]
                refine ⟨hb.1, ?_⟩
                rw [F.lp2]
                exact hbx n (by unfold makesBox; rw [hb.1, hdst]; simp) (by rw [← F.lp]; exact hb.2)
              rw [hb2]
              simp only [cond_true]
              exact ⟨_, fun _ => true, rfl, done hdst (fun m e => by simp [noLp]) (fun _ _ => rfl)⟩
            · cases h
          · rename_i m o hv
            rw [Bool.cond_eq_ite] at h
            split at h
            · cases h
            · rename_i hb
              simp only [Option.some.injEq] at h
              subst h
              have hb' : hasNat m x.2.2 = false := by simpa using hb
              simp only [hb', cond_false]
              refine ⟨_, fun k => !Nat.beq m k, rfl, done hdst (fun k e => by simp only [noLp]; rw [Bool.and_comm]) (fun k hk => ?_)⟩
              cases hq : Nat.beq m k with
              | false => rfl
              | true =>
                have := Nat.eq_of_beq_eq_true hq
                subst this
                rw [hb'] at hk; cases hk
          · rename_i h1 h2
            simp only [Option.some.injEq] at h
            subst h
            refine ⟨_, fun _ => true, rfl, ?_⟩
            exact done hdst (fun m e => by rw [ones_noLp (fun k o => h2 k o)]; simp) (fun _ _ => rfl)
    · cases h
  · rename_i hw
    (try simp only [hw])
    simp only [Option.some.injEq] at h
    subst h
    cases hdst : x.1.dst with
    | none =>
      refine ⟨_, fun _ => true, rfl, fun s hs' => ?_, fun s _ => rfl, fun s _ => rfl, fun _ => ⟨rfl, rfl⟩, fun h => h, fun n => by simp [put], fun n => by simp [put], fun _ _ => rfl⟩
      unfold Op.wr at hs'
      rw [hdst] at hs'
      exact hs s (mem_re_w (by simpa using hs'))
    | some n =>
      have hwr : ∀ s, s ∈ x.1.wr ↔ s = n ∨ s ∈ x.1.k.boxW := fun s => by unfold Op.wr; rw [hdst]; simp
      refine ⟨_, fun _ => true, rfl, fun s hs' => ?_, fun s hs' => ?_, fun s hs' => ?_, fun _ => ⟨rfl, rfl⟩, fun h => h, fun m => by simp [put, noLp], fun m => by simp [put, noLp], fun _ _ => rfl⟩
      · show get s ((n, .tup []) :: st2.env) = get s ((n, .tup []) :: st.env)
        rw [get_cons, get_cons]
        split
        · rfl
        · rename_i hne; exact hs s (mem_re_w (((hwr s).1 hs').resolve_left hne))
      · rw [hwr, not_or] at hs'
        show get s ((n, .tup []) :: st.env) = _
        rw [get_cons, if_neg hs'.1]
      · rw [hwr, not_or] at hs'
        show get s ((n, .tup []) :: st2.env) = _
        rw [get_cons, if_neg hs'.1]
  · cases h

theorem meets_false {a b : List Nat} (h : meets a b = false) : ∀ n, n ∈ a → n ∉ b := by
  intro n hn hb
  simp only [meets, List.any_eq_false] at h
  exact h n hn (by simpa using hb)

structure Apart (o o' : Op) : Prop where
  f1 : o.k.free = true ∨ (o'.k.looks = false ∧ o'.k.free = true)
  f2 : o'.k.free = true ∨ (o.k.looks = false ∧ o.k.free = true)
  w1 : ∀ n, n ∈ o.wr → n ∉ o'.wr ∧ n ∉ o'.re
  w2 : ∀ n, n ∈ o'.wr → n ∉ o.wr ∧ n ∉ o.re

theorem apart_spec {o o' : Op} (h : apart o o' = true) : Apart o o' := by
  simp only [apart, Bool.and_eq_true, Bool.not_eq_true', Bool.and_eq_false_iff, Bool.or_eq_false_iff, Bool.not_eq_false'] at h
  obtain ⟨⟨⟨h1, h2⟩, h3⟩, h4⟩ := h
  refine ⟨by rcases h1 with h | h; exact .inl h; exact .inr h, by rcases h2 with h | h; exact .inl h; exact .inr h, fun n hn => ?_, fun n hn => ?_⟩
  · have := meets_false h3 n hn
    simpa [not_or] using this
  · have := meets_false h4 n hn
    simpa [not_or] using this

/-- Two steps change places. -/
theorem commute {call : Call} (hc : CallLo call) {x y : El} {st st1 st2 : St} (hx : stepD call x st = some st1) (hy : stepD call y st1 = some st2) (fx : x.2.1 = !x.1.k.free) (fy : y.2.1 = !y.1.k.free) (hap : Apart x.1 y.1)
    (hno : ∀ n, n ∈ makesBox x.1 → hasNat n y.2.2 = true) : ∃ st1' st2', stepD call y st = some st1' ∧ stepD call x st1' = some st2' ∧ Eqv st2 st2' := by
  -- x, once more in its own state: what it changes
  obtain ⟨_, bx, hx0, Fx⟩ := frD hc (st2 := st) hx fx (fun _ _ => rfl) (fun _ => rfl) (fun _ _ h => h)
  rw [hx] at hx0
  cases hx0
  -- y ahead
  obtain ⟨st1', by_, hy', Fy⟩ := frD hc (st2 := st) hy fy (fun s hs => (Fx.out1 s (fun h => (hap.w1 s h).2 hs)).symm) (fun hl => by
      rcases hap.f1 with h | h
      · exact (Fx.H1 h).1.symm
      · rw [h.1] at hl; cases hl) (fun n hn h => by
      rw [Fx.lp] at h; simp only [Bool.and_eq_true] at h; exact h.1)
  -- x behind it
  obtain ⟨st2', b3, hx', Fx'⟩ := frD hc (st2 := st1') hx fx (fun s hs => Fy.out2 s (fun h => (hap.w2 s h).2 hs)) (fun hl => by
      rcases hap.f2 with h | h
      · exact (Fy.H1 h).2
      · rw [h.1] at hl; cases hl) (fun n hn h => by
      rw [Fy.lp2, h, Fy.no n (hno n hn)]; rfl)
  refine ⟨st1', st2', hy', hx', fun s => ?_, ?_, fun n => ?_⟩
  · by_cases h1 : s ∈ x.1.wr
    · have h2 : s ∉ y.1.wr := (hap.w1 s h1).1
      rw [Fx'.inn s h1, Fy.out1 s h2]
    · rw [Fx'.out2 s h1]
      by_cases h2 : s ∈ y.1.wr
      · rw [Fy.inn s h2]
      · rw [Fy.out2 s h2, Fy.out1 s h2, Fx.out1 s h1]
  · rcases hap.f1 with h | h
    · -- x leaves the objects alone
      rw [(Fx'.H1 h).2]
      exact Fy.H2 (Fx.H1 h).1.symm
    · rw [(Fy.H1 h.2).1]
      exact Fx'.H2 (Fy.H1 h.2).2
  · rw [Fx'.lp2, Fy.lp2, Fy.lp, Fx.lp]
    -- what x adds is the same
    have e : (noLp n st.env && bx n) = (noLp n st.env && b3 n) := by rw [← Fx.lp, ← Fx'.lp]
    cases h1 : noLp n st.env with
    | false => simp
    | true =>
      rw [h1] at e
      simp only [Bool.true_and] at e ⊢
      rw [e, Bool.and_comm]

theorem stepD_eqv {call : Call} (hc : CallLo call) {x : El} {st st2 st1 : St} (h : stepD call x st = some st1) (fx : x.2.1 = !x.1.k.free) (he : Eqv st st2) : ∃ st1', stepD call x st2 = some st1' ∧ Eqv st1 st1' := by
  obtain ⟨st1', b, h1, F⟩ := frD hc h fx (fun s _ => he.e s) (fun _ => he.H) (fun n _ h => by rw [he.lp]; exact h)
  refine ⟨st1', h1, fun s => ?_, F.H2 he.H, fun n => by rw [F.lp, F.lp2, he.lp]⟩
  by_cases hs : s ∈ x.1.wr
  · exact F.inn s hs
  · rw [F.out2 s hs, F.out1 s hs, he.e]

theorem runD_eqv {call : Call} (hc : CallLo call) : ∀ {l : List El} {st st2 stF : St}, (∀ x ∈ l, x.2.1 = !x.1.k.free) → runD call l st = some stF → Eqv st st2 → ∃ stF2, runD call l st2 = some stF2 ∧ Eqv stF stF2
  | [], st, st2, stF, _, h, he => by simp only [runD, Option.some.injEq] at h; subst h; exact ⟨st2, rfl, he⟩
  | x :: l, st, st2, stF, hf, h, he => by
    simp only [runD] at h ⊢
    split at h
    · rename_i st1 h1
      obtain ⟨st1', h2, he2⟩ := stepD_eqv hc h1 (hf x (by simp)) he
      simp only [h2]
      exact runD_eqv hc (fun y hy => hf y (by simp [hy])) h he2
    · cases h

/-- A step moves to the front. -/
theorem to_front {call : Call} (hc : CallLo call) {x : El} {post : List El} : ∀ {pre : List El} {st stF : St}, (∀ y ∈ pre ++ x :: post, y.2.1 = !y.1.k.free) → (∀ y ∈ pre, Apart y.1 x.1 ∧ ∀ n, n ∈ makesBox y.1 → hasNat n x.2.2 = true) →
    runD call (pre ++ x :: post) st = some stF → ∃ st1 stF', stepD call x st = some st1 ∧ runD call (pre ++ post) st1 = some stF' ∧ Eqv stF stF'
  | [], st, stF, hf, _, h => by
    simp only [List.nil_append, runD] at h
    split at h
    · rename_i st1 h1
      exact ⟨st1, stF, h1, h, Eqv.refl _⟩
    · cases h
  | y :: pre, st, stF, hf, ha, h => by
    simp only [List.cons_append, runD] at h
    split at h
    · rename_i sty hy
      obtain ⟨stx, stF1, h1, h2, h3⟩ := to_front hc (pre := pre) (fun z hz => hf z (by simp only [List.cons_append, List.mem_cons]; exact .inr hz)) (fun z hz => ha z (by simp [hz])) h
      obtain ⟨st1', st2', h4, h5, h6⟩ := commute hc hy h1 (hf y (by simp)) (hf x (by simp)) (ha y (by simp)).1 (ha y (by simp)).2
      obtain ⟨stF2, h7, h8⟩ := runD_eqv hc (fun z hz => hf z (by
        simp only [List.cons_append, List.mem_cons, List.mem_append] at hz ⊢
        rcases hz with h | h
        · exact .inr (.inl h)
        · exact .inr (.inr (.inr h)))) h2 h6
      refine ⟨st1', stF2, h4, ?_, h3.trans h8⟩
      simp only [List.cons_append, runD, h5]
      exact h7
    · cases h

end W

/-
  Regions whose order is open: simulated.
-/
set_option linter.unusedSimpArgs false
set_option linter.unusedVariables false
namespace W
open Go (World Value Addr IntKind Program TypeId FuncId Operand Act Oper Next Result Sem BinOp UnOp Ending Exit Code Func)

/-! What stands before an operation. -/

def befStep (acc : Array Nat) (o : Oper) : Array Nat :=
  acc.push (o.after.foldl (fun s e => if Go.Region.binds .any e then s ||| 2 ^ e.on ||| acc.getD e.on 0 else s) 0)

theorem before_eq (ops : Array Oper) : Go.Region.before ops = ops.toList.foldl befStep #[] := by
  unfold Go.Region.before
  rw [← Array.foldl_toList]
  rfl

theorem testBit_fold (acc : Array Nat) : ∀ (l : List Go.Edge) (s j : Nat), (l.foldl (fun s e => if Go.Region.binds .any e then s ||| 2 ^ e.on ||| acc.getD e.on 0 else s) s).testBit j = true →
    s.testBit j = true ∨ ∃ e ∈ l, Go.Region.binds .any e = true ∧ (e.on = j ∨ (acc.getD e.on 0).testBit j = true)
  | [], s, j, h => .inl h
  | e :: l, s, j, h => by
    simp only [List.foldl_cons] at h
    rcases testBit_fold acc l _ j h with h | ⟨e', he', hb, hj⟩
    · split at h
      · rename_i hb
        simp only [Nat.testBit_or, Bool.or_eq_true] at h
        rcases h with (h | h) | h
        · exact .inl h
        · rw [Nat.testBit_two_pow] at h
          exact .inr ⟨e, by simp, hb, .inl (by simpa using h)⟩
        · exact .inr ⟨e, by simp, hb, .inr h⟩
      · exact .inl h
    · exact .inr ⟨e', by simp [he'], hb, hj⟩

theorem bef_size : ∀ (l : List Oper) (acc : Array Nat), (l.foldl befStep acc).size = acc.size + l.length
  | [], acc => by simp
  | o :: l, acc => by simp only [List.foldl_cons, bef_size l, befStep, Array.size_push, List.length_cons]; omega

theorem bef_old : ∀ (l : List Oper) (acc : Array Nat) (i : Nat), i < acc.size → (l.foldl befStep acc).getD i 0 = acc.getD i 0
  | [], acc, i, _ => rfl
  | o :: l, acc, i, h => by
    simp only [List.foldl_cons]
    rw [bef_old l _ i (by simp [befStep]; omega)]
    simp only [befStep, Array.getD_eq_getD_getElem?, Array.getElem?_push]
    rw [if_neg (by omega)]

theorem bef_new : ∀ (l : List Oper) (acc : Array Nat) (k : Nat) (o : Oper), l[k]? = some o → ∀ j, ((l.foldl befStep acc).getD (acc.size + k) 0).testBit j = true →
    ∃ e ∈ o.after.toList, Go.Region.binds .any e = true ∧ (e.on = j ∨ ((l.foldl befStep acc).getD e.on 0).testBit j = true)
  | [], acc, k, o, h, j, _ => by simp at h
  | o' :: l, acc, 0, o, h, j, hb => by
    simp at h; subst h
    simp only [List.foldl_cons, Nat.add_zero] at hb
    rw [bef_old l _ acc.size (by simp [befStep])] at hb
    have e0 : (befStep acc o').getD acc.size 0 = o'.after.foldl (fun s e => if Go.Region.binds .any e then s ||| 2 ^ e.on ||| acc.getD e.on 0 else s) 0 := by
      simp [befStep]
    rw [e0, ← Array.foldl_toList] at hb
    rcases testBit_fold acc _ _ j hb with h | ⟨e, he, hbi, hj⟩
    · simp at h
    · refine ⟨e, he, hbi, hj.imp id (fun h => ?_)⟩
      have hlt : e.on < acc.size := by
        rcases Nat.lt_or_ge e.on acc.size with h1 | h1
        · exact h1
        · rw [Array.getD_eq_getD_getElem?, Array.getElem?_eq_none (by omega)] at h
          simp at h
      rw [bef_old (o' :: l) acc e.on hlt]
      exact h
  | o' :: l, acc, k + 1, o, h, j, hb => by
    simp only [List.foldl_cons] at hb ⊢
    have hs : (befStep acc o').size = acc.size + 1 := by simp [befStep]
    have := bef_new l (befStep acc o') k o (by simpa using h) j (by rw [hs, show acc.size + 1 + k = acc.size + (k + 1) by omega]; exact hb)
    exact this

theorem before_spec {ops : Array Oper} {i : Nat} {o : Oper} (h : ops[i]? = some o) {j : Nat} (hb : ((Go.Region.before ops).getD i 0).testBit j = true) :
    ∃ e ∈ o.after.toList, Go.Region.binds .any e = true ∧ (e.on = j ∨ ((Go.Region.before ops).getD e.on 0).testBit j = true) := by
  rw [before_eq] at hb ⊢
  exact bef_new ops.toList #[] i o (by simpa using h) j (by simpa using hb)

section
variable {P : Program} {M : Maps} {call : Call}

theorem trOps_get {A : Ann} {rid : Nat} {ops : Array Oper} : ∀ {rest : List Oper} {i : Nat} {l : List Op}, trOps M P A rid ops i rest = some l → l.length = rest.length ∧ ∀ k o, rest[k]? = some o → ∃ q, l[k]? = some q ∧ q.dst = o.dst ∧ gOf ops o.guard = some q.g ∧
    q.k = orStuck (trOp M P A (fun k' => (mvs A rid (i + k)).contains k') (match o.dst with | some d => A.loc.contains d | none => false) o.op)
  | [], i, l, h => by simp only [trOps, Option.some.injEq] at h; subst h; exact ⟨rfl, fun k o h => by simp at h⟩
  | o' :: rest, i, l, h => by
    simp only [trOps] at h
    split at h
    · rename_i g' r hg hr
      simp only [Option.some.injEq] at h
      subst h
      obtain ⟨h1, h2⟩ := trOps_get hr
      refine ⟨by simp [h1], fun k o ho => ?_⟩
      cases k with
      | zero =>
        simp at ho
        subst ho
        exact ⟨_, rfl, rfl, hg, rfl⟩
      | succ k =>
        obtain ⟨q, q1, q2, q3, q4⟩ := h2 k o (by simpa using ho)
        exact ⟨q, by simpa using q1, q2, q3, by rw [show i + (k + 1) = i + 1 + k by omega]; exact q4⟩
    · cases h

/-- The element at an index. -/
def elAt (ops : Array Oper) (l : List Op) (i : Nat) : El := (l.getD i default, !(l.getD i default).k.free, notYet ops l i)

theorem zip_els (ops : Array Oper) (l : List Op) : (l.zipIdx.map fun (o, i) => (o, !o.k.free, notYet ops l i)) = (List.range l.length).map (elAt ops l) := by
  apply List.ext_getElem?
  intro k
  simp only [List.getElem?_map, List.getElem?_zipIdx, List.getElem?_range']
  by_cases hk : k < l.length
  · rw [List.getElem?_range hk]
    simp [hk, elAt]
  · rw [List.getElem?_eq_none (by omega), List.getElem?_eq_none (by simp; omega)]
    rfl

theorem killLp_noLp {n : Nat} : ∀ {e : Env}, noLp n e = true → killLp n e = e
  | [], _ => rfl
  | (m, v) :: e, h => by
    have h2 : noLp n e = true := by
      cases v <;> first | exact h | (simp only [noLp, Bool.and_eq_true] at h; exact h.2)
    simp only [killLp, killLp_noLp h2]
    cases v with
    | lp t o =>
      simp only [noLp, Bool.and_eq_true, Bool.not_eq_true'] at h
      simp [h.1]
    | _ => rfl

theorem putD_put {bx : Bool} {no : List Nat} {dst : Option Nat} {v : V} {st st' : St} (h : putD bx no dst v st = some st') : put dst v st = st' := by
  unfold putD at h
  cases dst with
  | none => simpa [put] using h
  | some n =>
    simp only at h
    split at h
    · rw [Bool.cond_eq_ite] at h
      split at h
      · rename_i hb
        simp only [Option.some.injEq] at h
        simp only [Bool.and_eq_true] at hb
        rw [← h]
        simp only [put, killLp_noLp hb.2]
      · cases h
    · rw [Bool.cond_eq_ite] at h
      split at h
      · cases h
      · simpa [put] using h
    · rename_i hb _
      simp only [Option.some.injEq] at h
      rw [← h, put_plain (fun cs e => hb cs e)]

/-- The unlisted ones in their order. -/
def rem (n : Nat) (listed : Array Bool) : List Nat := (List.range n).filter fun i => !listed.getD i true

theorem rem_sorted (n : Nat) (listed : Array Bool) : (rem n listed).Pairwise (· < ·) := (List.pairwise_lt_range).filter _

theorem mem_rem {n i : Nat} {listed : Array Bool} : i ∈ rem n listed ↔ i < n ∧ listed.getD i true = false := by
  simp [rem, List.mem_filter]

theorem rem_set {n i : Nat} {listed : Array Bool} (hs : listed.size = n) {pre post : List Nat} (h : rem n listed = pre ++ i :: post) : rem n (listed.setIfInBounds i true) = pre ++ post := by
  have hi : i < listed.size := by
    have : i ∈ rem n listed := by rw [h]; simp
    rw [hs]; exact (mem_rem.1 this).1
  have e : rem n (listed.setIfInBounds i true) = (rem n listed).filter (fun k => k != i) := by
    unfold rem
    rw [List.filter_filter]
    apply List.filter_congr
    intro k hk
    by_cases hki : k = i
    · subst hki; simp [hi]
    · have : i ≠ k := fun e => hki e.symm
      simp [Array.getElem?_setIfInBounds_ne this, hki]
  rw [e, h]
  have hp := rem_sorted n listed
  rw [h] at hp
  rw [List.pairwise_append] at hp
  obtain ⟨_, h2, h3⟩ := hp
  rw [List.pairwise_cons] at h2
  rw [List.filter_append, List.filter_cons]
  simp only [bne_self_eq_false, Bool.false_eq_true, if_false]
  congr 1
  · rw [List.filter_eq_self]
    intro k hk
    have := h3 k hk i (by simp)
    simp; omega
  · rw [List.filter_eq_self]
    intro k hk
    have := h2.1 k hk
    simp; omega

theorem sim_any (hcs : CallSim P M call) (hlo : CallLo call) {A : Ann} {rid nt : Nat} {ops : Array Oper} {l : List Op} (htr : trOps M P A rid ops 0 ops.toList = some l) (hlex : lexI ops = true) (hord : orderOk ops l = true)
    (hdst : ∀ o ∈ ops.toList, ∀ d, o.dst = some d → d < nt) : ∀ (fuel : Nat) (listed : Array Bool), listed.size = ops.size → (rem ops.size listed).length = fuel →
      (∀ x, listed.getD x false = true → ∀ j, ((Go.Region.before ops).getD x 0).testBit j = true → listed.getD j false = true) →
    ∀ (st stF : St) (g : Gh) (w : World) (β : Nat → Nat) (a : Act), nt ≤ a.tmps.size → runD call ((rem ops.size listed).map (elAt ops l)) st = some stF → Rel M g w β st a.tmps →
    ∀ Q : Exit → Act → World → Prop, (∀ a' w' st', Eqv stF st' → Good M g w a st' a' w' → Q .normal a' w') → Go.wpAny P .any ops Q fuel listed a w := by
  obtain ⟨hlen, hget⟩ := trOps_get htr
  have hll : l.length = ops.size := by simpa using hlen
  -- the least that is left is ready
  have noReady : ∀ {listed : Array Bool}, listed.size = ops.size → Go.Region.ready .any ops listed = [] → rem ops.size listed = [] := by
    intro listed hs hr
    cases hq : rem ops.size listed with
    | nil => rfl
    | cons i t =>
      exfalso
      have hi : i ∈ rem ops.size listed := by rw [hq]; simp
      obtain ⟨h1, h2⟩ := mem_rem.1 hi
      have : i ∈ Go.Region.ready .any ops listed := by
        rw [Go.mem_ready]
        refine ⟨h2, ops[i], by simp [h1], fun e he hb => ?_⟩
        simp only [lexI, List.all_eq_true] at hlex
        have h3 := hlex (ops[i], i) (by rw [List.mem_zipIdx_iff_getElem?]; simp [h1]) e (by simpa using he)
        simp only [hb, Bool.not_true, Bool.false_or, Nat.blt_eq] at h3
        -- it's smaller: listed
        cases hl : listed.getD e.on false with
        | true => rfl
        | false =>
          exfalso
          have : e.on ∈ rem ops.size listed := mem_rem.2 ⟨by omega, by
            have hlt : e.on < listed.size := by omega
            simp only [Array.getD_eq_getD_getElem?, Array.getElem?_eq_getElem hlt, Option.getD_some] at hl ⊢
            exact hl⟩
          have hp := rem_sorted ops.size listed
          rw [hq] at this hp
          rcases List.mem_cons.1 this with h | h
          · omega
          · have := (List.pairwise_cons.1 hp).1 _ h; omega
      rw [hr] at this
      cases this
  intro fuel
  induction fuel with
  | zero =>
    intro listed hs hf hcl st stF g w β a hnt hrun hR Q hQ
    have hrem : rem ops.size listed = [] := List.eq_nil_of_length_eq_zero hf
    rw [hrem] at hrun
    simp only [List.map_nil, runD, Option.some.injEq] at hrun
    subst hrun
    refine ⟨?_, hQ a w st (Eqv.refl _) ⟨⟨g, β, hR, Evo.refl g w⟩, rfl, rfl⟩⟩
    cases hq : Go.Region.ready .any ops listed with
    | nil => rfl
    | cons i t =>
      exfalso
      have hi : i ∈ Go.Region.ready .any ops listed := by rw [hq]; simp
      rw [Go.mem_ready] at hi
      obtain ⟨h1, o, ho, _⟩ := hi
      have : i ∈ rem ops.size listed := mem_rem.2 ⟨(Array.getElem?_eq_some_iff.1 ho).1, h1⟩
      rw [hrem] at this; cases this
  | succ fuel ih =>
    intro listed hs hf hcl st stF g w β a hnt hrun hR Q hQ
    refine ⟨fun hr => ?_, fun i hi => ?_⟩
    · have := noReady hs hr
      rw [this] at hf; simp at hf
    · rw [Go.mem_ready] at hi
      obtain ⟨h1, o, ho, hpre⟩ := hi
      have hilt := (Array.getElem?_eq_some_iff.1 ho).1
      have him : i ∈ rem ops.size listed := mem_rem.2 ⟨hilt, h1⟩
      obtain ⟨pre, post, hrem⟩ := List.append_of_mem him
      -- what stands before i is listed
      have hbef : ∀ j, ((Go.Region.before ops).getD i 0).testBit j = true → listed.getD j false = true := fun j hj => by
        obtain ⟨e, he, hb, hj⟩ := before_spec ho hj
        have hl := hpre e (by simpa using he) hb
        rcases hj with rfl | hj
        · exact hl
        · exact hcl _ hl j hj
      have hwhole : (rem ops.size listed).map (elAt ops l) = pre.map (elAt ops l) ++ elAt ops l i :: post.map (elAt ops l) := by rw [hrem]; simp
      rw [hwhole] at hrun
      obtain ⟨q, hq1, hq2, hq3, hq4⟩ := hget i o (by simpa using ho)
      have hel : (elAt ops l i).1 = q := by simp [elAt, hq1]
      have hsorted := rem_sorted ops.size listed
      obtain ⟨st1, stF', hstep, hrest, heqv⟩ := to_front hlo (x := elAt ops l i) (pre := pre.map (elAt ops l)) (post := post.map (elAt ops l)) (fun y hy => by
          have : ∃ k, y = elAt ops l k := by
            simp only [List.mem_append, List.mem_map, List.mem_cons] at hy
            rcases hy with ⟨k, _, h⟩ | h | ⟨k, _, h⟩
            · exact ⟨k, h.symm⟩
            · exact ⟨i, h⟩
            · exact ⟨k, h.symm⟩
          obtain ⟨k, rfl⟩ := this
          rfl) (fun y hy => by
          obtain ⟨k, hk, rfl⟩ := List.mem_map.1 hy
          have hkm : k ∈ rem ops.size listed := by rw [hrem]; simp [hk]
          have hki : k < i := by
            rw [hrem, List.pairwise_append] at hsorted
            exact hsorted.2.2 k hk i (by simp)
          have hnb : ((Go.Region.before ops).getD i 0).testBit k = false := by
            cases hq : ((Go.Region.before ops).getD i 0).testBit k with
            | false => rfl
            | true =>
              have := hbef k hq
              have h2 := (mem_rem.1 hkm).2
              have hlt : k < listed.size := by rw [hs]; exact (mem_rem.1 hkm).1
              simp only [Array.getD_eq_getD_getElem?, Array.getElem?_eq_getElem hlt, Option.getD_some] at this h2
              rw [this] at h2; cases h2
          have hkl : k < l.length := by rw [hll]; omega
          have hil : i < l.length := by rw [hll]; omega
          have ek : (elAt ops l k).1 = l[k] := by simp [elAt, hkl]
          have ei : (elAt ops l i).1 = l[i] := by simp [elAt, hil]
          refine ⟨?_, fun n hn => ?_⟩
          · simp only [orderOk, List.all_eq_true] at hord
            have := hord (l[k], k) (by rw [List.mem_zipIdx_iff_getElem?]; simp [hkl]) (l[i], i) (by rw [List.mem_zipIdx_iff_getElem?]; simp [hil])
            simp only [Bool.or_eq_true, Bool.not_eq_true', hnb, Bool.false_eq_true, or_false] at this
            rw [ek, ei]
            refine apart_spec (this.resolve_left ?_)
            have hbl : Nat.blt k i = true := by simpa using hki
            rw [hbl]; simp
          · refine hasNat_mem ?_
            show n ∈ notYet ops l i
            unfold notYet
            rw [List.mem_flatMap]
            refine ⟨(l[k], k), by rw [List.mem_zipIdx_iff_getElem?]; simp [hkl], ?_⟩
            simp only [hnb, Bool.false_eq_true, if_false]
            rw [ek] at hn
            exact hn) hrun
      have hrem' := rem_set hs hrem
      have hf' : (rem ops.size (listed.setIfInBounds i true)).length = fuel := by
        rw [hrem'] ; rw [hrem] at hf; simp at hf ⊢; omega
      have hcl' : ∀ x, (listed.setIfInBounds i true).getD x false = true → ∀ j, ((Go.Region.before ops).getD x 0).testBit j = true → (listed.setIfInBounds i true).getD j false = true := by
        intro x hx j hj
        by_cases hxi : i = x
        · subst hxi; exact Go.getD_set_true (hbef j hj)
        · rw [Go.getD_set_ne false hxi] at hx
          exact Go.getD_set_true (hcl x hx j hj)
      have go : ∀ {g1 : Gh} {w1 : World} {β1 : Nat → Nat} {a1 : Act}, a1.tmps.size = a.tmps.size → a1.defers = a.defers → Rel M g1 w1 β1 st1 a1.tmps → Evo g w g1 w1 → Go.wpAny P .any ops Q fuel (listed.setIfInBounds i true) a1 w1 := by
        intro g1 w1 β1 a1 hs1 hd1 hR1 hE1
        refine ih _ (by simpa using hs) hf' hcl' st1 stF' g1 w1 β1 a1 (by rw [hs1]; exact hnt) (by rw [hrem', List.map_append]; exact hrest) hR1 Q (fun a' w' st' he hg => ?_)
        exact hQ a' w' st' (heqv.trans he) (hg.trans hE1 hs1 hd1)
      have hd : DstOk o a := fun n hn => Nat.lt_of_lt_of_le (hdst o (by
        have := Array.mem_of_getElem? ho
        simpa using this) n hn) hnt
      unfold Go.wpOp
      simp only [ho]
      unfold stepD at hstep
      rw [hel] at hstep
      split at hstep
      · rename_i hw
        rw [wanted_rep hR hq3 hw]
        simp only [if_true]
        refine .inl ?_
        split at hstep
        · rename_i r hr
          rw [Bool.cond_eq_ite] at hstep
          split at hstep
          · cases hstep
          · rename_i hp
            have hpan : r.pan = false := by
              simp only [Bool.or_eq_true, not_or] at hp
              simpa using hp.1
            have hput := putD_put hstep
            have hq5 := hr
            rw [hq4] at hq5
            have hq6 := orStuck_some hq5
            rw [← hq4] at hq6
            refine sim_op hcs hd hR hq6 (fun hloc hn => ?_) hr ⟨fun _ c w1 g1 β1 hR1 hE1 => ?_, fun hp2 => ?_⟩
            · rw [hn] at hloc; simp at hloc
            · rw [← hq2, hput, hq2] at hR1
              exact go (put_size _ _ _) (put_defers _ _ _) hR1 hE1
            · rw [hpan] at hp2; cases hp2
        · cases hstep
      · rename_i hw
        rw [wanted_rep hR hq3 hw]
        simp only [Bool.false_eq_true, if_false]
        simp only [Option.some.injEq] at hstep
        subst hstep
        exact go (put_size _ _ _) (put_defers _ _ _) (by rw [hq2]; exact rel_skip hR hd) (Evo.refl g w)
      · cases hstep

theorem openSim (hm : P.follows .mixedOrders = true) (hcs : CallSim P M call) (hlo : CallLo call) : OpenSim P M call := by
  intro A rid ops l htr hlex hord st e st' hrun g w β a nt hdst hnt hR Q hQ
  obtain ⟨rfl, hrunD⟩ := runOpsD_runD hrun
  have hll : l.length = ops.size := by simpa using (trOps_get htr).1
  refine Go.wp_region_any hm ?_
  have hall : ∀ i, i < ops.size → (Array.replicate ops.size false).getD i true = false := fun i hi => by simp [hi]
  have hrem : rem ops.size (Array.replicate ops.size false) = List.range ops.size := by
    unfold rem
    rw [List.filter_eq_self]
    intro i hi
    rw [hall i (by simpa using hi)]; rfl
  have hsm : SameMem w { w with drawn := w.drawn + 1 } := ⟨rfl, rfl, rfl⟩
  refine sim_any hcs hlo htr hlex hord hdst ops.size _ (by simp) (by rw [hrem]; simp) (fun x hx => ?_) st st' g { w with drawn := w.drawn + 1 } β a hnt (by rw [hrem, ← hll, ← zip_els]; exact hrunD) (hR.sameMem hsm) Q (fun a' w' st2 he hg => ?_)
  · exfalso
    simp only [Array.getD_eq_getD_getElem?] at hx
    by_cases hlt : x < ops.size
    · simp [hlt] at hx
    · rw [Array.getElem?_eq_none (by simp; omega)] at hx; simp at hx
  · refine hQ .normal a' w' (show Post M g w a .nrm st' .normal a' w' from ?_)
    obtain ⟨⟨g1, β1, hR1, hE1⟩, hs1, hd1⟩ := hg
    refine ⟨⟨g1, β1, ⟨?_, fun k => ?_, fun id o ho => ?_, hR1.fresh, hR1.gl⟩, (hsm.evo g).trans hE1⟩, hs1, hd1⟩
    · rw [hR1.n, he.H]
    · rw [← he.e k]; exact hR1.e k
    · exact hR1.h id o (by rw [he.H]; exact ho)

/-- Calls by the small semantics are the model's. -/
theorem sound {pg : Pg} (hm : P.follows .mixedOrders = true) (hT : Tab P M pg) (hx : CallSim P M pg.ext) (hxlo : CallLo pg.ext) (n : Nat) : CallSim P M (callN pg n) := by
  have key : ∀ n, ExSim P M (exec pg n) := sim_exec (fun n h => sim_callWith hT hx (lo_exec hxlo n) h) (fun n hcs => openSim hm hcs (lo_callWith hxlo (lo_exec hxlo n)))
  exact sim_callWith hT hx (lo_exec hxlo n) (key n)

/-- The same for a function of the table, as a contract. -/
theorem sound_calls {pg : Pg} (hm : P.follows .mixedOrders = true) (hT : Tab P M pg) (hx : CallSim P M pg.ext) (hxlo : CallLo pg.ext) {n i : Nat} {vs : List V} {H : List Obj} {r : Cr} (hcall : callN pg n i vs H = some r) {f' : FuncId} (hlook : look M.fm f' = some i) (hext : pg.fn i ≠ none)
    {g : Gh} {w : World} {argv : List Value} (hargs : ArgsRep M g w 0 vs argv) (hH : RelH M g w H) : Go.Calls P f' argv.toArray w (CallPost M g w r) := by
  have key : ∀ n, ExSim P M (exec pg n) := sim_exec (fun n h => sim_callWith hT hx (lo_exec hxlo n) h) (fun n hcs => openSim hm hcs (lo_callWith hxlo (lo_exec hxlo n)))
  exact (calls_callWith hT (lo_exec hxlo n) (key n) hcall hlook hext hargs hH).1

end
end W

/-
  From the small semantics to a law's statement: what is read stays; the answer is true.
-/
set_option linter.unusedSimpArgs false
set_option linter.unusedVariables false
namespace W
open Go (World Value Addr IntKind Program TypeId FuncId Operand Act Oper Next Result Sem Ending Exit Code Func DataW MemPlace Calls trodAll_cons_mk)
open Go.ChangeShapes Go.RowKit Go.WideShapes Go.ChangeAt

section
variable {P : Program} {Hh : Type} {enc : TypeId × Value → Hh}

theorem sameAt_old {W W' : World} (hb : ∀ b, b < W.heap.size → W'.heap[b]? = W.heap[b]?) {p : MemPlace} (hp : p.block < W.heap.size) : W.sameAt W' p := by
  cases p with
  | cell b o => exact cell_of_heap (hb b hp) o
  | map b => exact hb b hp

/-- What was read reads again. -/
theorem trodAll_stays (hl : Go.laidOutB P = true) {W W' : World} (hb : ∀ b, b < W.heap.size → W'.heap[b]? = W.heap[b]?) {sp : Nat → Bool} : ∀ {ts : List TypeId} {vs : List Value} {ds : List (DataW Hh)} {ps : List MemPlace}, (∀ t ∈ ts, P.readableRec t = true ∧ t < P.types.size) →
    DataW.TrodAll enc P W 0 (fun _ => true) true ts vs ds ps → (∀ p ∈ ps, p.block < W.heap.size) → (∀ p ∈ ps, sp p.block = true) → DataW.TrodAll enc P W' 0 sp true ts vs ds ps
  | [], vs, ds, ps, hr, h, hlt, hs => by
    obtain ⟨rfl, rfl, rfl⟩ := trodAll_nil h
    exact trodAll_mk0
  | t :: ts, vs, ds, ps, hr, h, hlt, hs => by
    obtain ⟨v, vs', d, ds', p, q, rfl, rfl, rfl, hd, hrest⟩ := trodAll_cons h
    refine trodAll_cons_mk (Go.WideElems.Trod_stays hl (hr t (by simp)).1 (hr t (by simp)).2 hd (fun x hx => sameAt_old hb (hlt x (by simp [hx]))) (fun x hx => hs x (by simp [hx])))
      (trodAll_stays hl hb (fun u hu => hr u (by simp [hu])) hrest (fun x hx => hlt x (by simp [hx])) (fun x hx => hs x (by simp [hx])))

/-- A law's post: it has answered true, and nothing of what was there has turned. -/
theorem law_post {f : Func} {s : Go.ChangeSpec} {apart fresh handsOn again : Bool} {W W' : World} {args : Array Value} {ds gs : List (DataW Hh)} {before : List MemPlace} {tb : TypeId} (hvars : s.vars = [])
    (hW : DataW.Whole enc P f.params.toList s.vars apart W args.toList ds gs before) (hs : s.fn Hh ds = { results := [.lit (.bool true)], args := ds }) (hres : f.resultTypes = #[tb]) (htb : P.underlying tb = some .bool)
    (hl : Go.laidOutB P = true) (hread : ∀ t ∈ f.params.toList, P.readableRec t = true ∧ t < P.types.size)
    (hio : W'.os = W.os ∧ W'.output = W.output) (hb : ∀ b, b < W.heap.size → W'.heap[b]? = W.heap[b]?) :
    s.post enc P f apart fresh handsOn again W args (.bool true) W' := by
  have hlt : ∀ p ∈ before, p.block < W.heap.size := fun p hp => by simpa using hW.lt p hp
  have hW' := hW
  obtain ⟨p, q, hA, hV, rfl, hfz, hnd⟩ := hW
  rw [hvars] at hV
  obtain ⟨rfl, rfl⟩ := trodVars_none hV
  have hfn : s.fn Hh (ds ++ []) = { results := [.lit (.bool true)], args := ds } := by rw [List.append_nil]; exact hs
  have hargs : ∀ sp : Nat → Bool, (∀ x ∈ p ++ [], sp x.block = true) → DataW.TrodAll enc P W' 0 sp true f.params.toList args.toList ds p := fun sp hsp =>
    trodAll_stays hl hb hread hA (fun x hx => hlt x (by simp [hx])) (fun x hx => hsp x (by simp [hx]))
  have hk : W.keptBut W' (fun _ => False) := by
    refine ⟨hio.1, hio.2, fun i hi => ?_⟩
    rw [hb i hi]
    cases hq : W.heap[i]? with
    | none => rfl
    | some o => cases o <;> first | rfl | exact ⟨rfl, rfl, rfl, fun _ _ => rfl⟩ | exact .inr ⟨rfl, rfl⟩
  have hresT : ∀ (b : Nat) (sp : Nat → Bool) (hd : Bool), DataW.TrodAll enc P W' b sp hd f.resultTypes.toList ((Value.bool true).resultList f.resultTypes.size) [.lit (.bool true)] [] := fun b sp hd => by
    rw [hres]
    exact trodAll_cons_mk (shut_bool htb _) trodAll_mk0
  have hfz' : ∀ a : Addr, a.block < W.heap.size → W'.frozen? a = W.frozen? a := fun a ha => by simp only [World.frozen?, hb a.block ha]
  have hres2 : ∀ (b : Nat) (sp : Nat → Bool) (hd : Bool), DataW.TrodAll enc P W' b sp hd f.resultTypes.toList ((Value.bool true).resultList f.resultTypes.size) (s.fn Hh (ds ++ [])).results [] := fun b sp hd => by rw [hfn]; exact hresT b sp hd
  have hargs2 : ∀ sp : Nat → Bool, (∀ x ∈ p ++ [], sp x.block = true) → DataW.TrodAll enc P W' 0 sp true f.params.toList args.toList (s.fn Hh (ds ++ [])).args p := fun sp hsp => by rw [hfn]; exact hargs sp hsp
  have hvars2 : ∀ sp : Nat → Bool, DataW.TrodVars enc P W' sp s.vars (s.fn Hh (ds ++ [])).vars [] := fun sp => by rw [hfn, hvars]; rfl
  have hold : ∀ x ∈ p ++ [], (fun b => decide (b < W.heap.size)) x.block = true := fun x hx => by simpa using hlt x hx
  refine ⟨ds, [], p ++ [], [], p, [], hW', hres2 _ _ _, hargs2 _ hold, hvars2 _, Go.World.keptBut_mono (fun _ h => h.elim) hk, fun _ => ?_⟩
  refine ⟨ok_one hres rfl (okWide_bool_mk htb _), _, _, ([] ++ p) ++ [], ⟨[] ++ p, [], trodAll_append (hargs2 _ (fun _ _ => rfl)) (hres2 _ _ _), hvars2 _, rfl, ?_, ?_⟩, ?_⟩
  · intro b off hp
    rw [hfz' _ (hlt (.cell b off) (by simpa using hp))]
    exact hfz b off (by simpa using hp)
  · intro ha
    simpa using hnd ha
  · intro x hx _
    simpa using hx

end
end W

/-
  Arguments that were read are data.
-/
set_option linter.unusedSimpArgs false
set_option linter.unusedVariables false
namespace W
open Go (World Value Addr IntKind Program TypeId FuncId Operand Act Oper Next Result Sem Ending Exit Code Func DataW MemPlace Calls TypeDesc Lit)

mutual
def D.bulk : D → Nat
  | .s x => x.length + 1
  | .sl xs => D.bulks xs + 1
  | .agg cs => D.bulks cs + 1
  | _ => 1
def D.bulks : List D → Nat
  | [] => 0
  | x :: l => D.bulk x + D.bulks l
end

theorem bulks_append : ∀ (a b : List D), D.bulks (a ++ b) = D.bulks a + D.bulks b
  | [], b => by simp [D.bulks]
  | x :: a, b => by simp only [List.cons_append, D.bulks, bulks_append a b]; omega

def tiles (P : Program) : Nat → List Go.Field → Bool
  | _, [] => true
  | off, f :: l => f.offset == off && tiles P (off + P.cellsOf f.type) l
def sumCells (P : Program) : List Go.Field → Nat
  | [] => 0
  | f :: l => P.cellsOf f.type + sumCells P l

def cover1 (P : Program) (ts : List TypeId) (t : TypeId) : Bool :=
  match P.underlying t with
  | some .bool | some (.int _) | some .string => true
  | some (.slice e) => ts.contains e && Nat.blt 0 (P.cellsOf e)
  | some (.struct fs) => fs.toList.all (fun f => ts.contains f.type) && tiles P 0 fs.toList && Nat.beq (P.cellsOf t) (sumCells P fs.toList)
  | some (.array n e) => ts.contains e && Nat.beq (P.cellsOf t) (n * P.cellsOf e)
  | _ => false
/-- The types that reading comes to are these, all of kinds that are data. -/
def covers (P : Program) (ts : List TypeId) : Bool := ts.all (cover1 P ts)

def aggT (P : Program) (t : TypeId) : Bool :=
  match P.underlying t with
  | some (.struct _) | some (.array _ _) => true
  | _ => false

def elD : Bool → List D → D
  | true, xs => .agg xs
  | false, [x] => x
  | false, _ => .np

/-- Cells of a type. -/
def Ty (P : Program) : Nat → TypeId → List D → Prop
  | 0, _, _ => False
  | n + 1, t, xs => match P.underlying t with
    | some .bool => ∃ b, xs = [.b b]
    | some (.int k) => ∃ z, xs = [.i k z] ∧ (Lit.int k z).wf = true
    | some .string => ∃ s, xs = [.s s] ∧ s.length ≤ Go.maxLen ∧ ∀ c ∈ s, c < 256
    | some (.slice e) => xs = [.nil] ∨ ∃ yss : List (List D), xs = [.sl (yss.map (elD (aggT P e)))] ∧ yss.length ≤ Go.maxLen ∧ ∀ q ∈ yss, Ty P n e q
    | some (.struct fs) => ∃ yss : List (List D), xs = yss.flatten ∧ yss.length = fs.toList.length ∧ ∀ (i : Nat) (f : Go.Field) (q : List D), fs.toList[i]? = some f → yss[i]? = some q → Ty P n f.type q
    | some (.array m e) => ∃ yss : List (List D), xs = yss.flatten ∧ yss.length = m ∧ ∀ q ∈ yss, Ty P n e q
    | _ => False

/-- One argument of a type. -/
def Arg (P : Program) (t : TypeId) (x : D) : Prop := ∃ n xs, Ty P n t xs ∧ x = elD (aggT P t) xs

/-- What a measure of readings is. -/
structure Bulk {Hh : Type} (B : DataW Hh → Nat) (BA : List (DataW Hh) → Nat) : Prop where
  str : ∀ bytes, B (.lit (.string bytes)) = bytes.length + 1
  lit : ∀ l, 1 ≤ B (.lit l)
  nil : B .nil = 1
  sl : ∀ es sp, B (.slice es sp) = BA es + BA sp + 1
  agg : ∀ ps, B (.agg ps) = BA ps + 1
  n : BA [] = 0
  c : ∀ d r, BA (d :: r) = B d + BA r

def g0 (W : World) : Gh := { n := 0, φ := fun _ => 0, own := fun _ => none, pub := fun b => match W.heap[b]? with | some (.cells c _ _) => c.size | _ => 0 }

theorem glOk_nil {M : Maps} {g : Gh} {w : World} (h : M.gl = []) : GlOk M g w := fun n x hn => by rw [h] at hn; cases hn

theorem g0_relH (M : Maps) (W : World) (hgl : GlOk M (g0 W) W) : RelH M (g0 W) W [] := ⟨rfl, fun id o h => by simp at h, fun b hb => ⟨rfl, by
  show (match W.heap[b]? with | some (.cells c _ _) => c.size | _ => 0) = 0
  rw [Array.getElem?_eq_none hb]⟩, hgl⟩

theorem g0_evo {W W' : World} {g' : Gh} (h : Evo (g0 W) W g' W') : ∀ b, b < W.heap.size → W'.heap[b]? = W.heap[b]? := fun b hb => (h.keep b hb (.inl rfl)).2.1

theorem pub_of_cell {W : World} {b o : Nat} {v : Value} (h : W.cell? ⟨b, o, none⟩ = some v) : o < (g0 W).pub b := by
  simp only [World.cell?] at h
  show o < (match W.heap[b]? with | some (.cells c _ _) => c.size | _ => 0)
  split at h
  · rename_i c e f hq
    rw [hq]
    simp at h
    exact (Array.getElem?_eq_some_iff.1 h).1
  · cases h

theorem spot_of_cell {W : World} {a : Addr} {v : Value} (h : W.cell? a = some v) : a.spot = none := by
  simp only [World.cell?] at h
  split at h
  · cases hs : a.spot with
    | none => rfl
    | some s => simp [hs] at h
  · cases h

section
variable {P : Program} {Hh : Type} {enc : TypeId × Value → Hh} {W : World}

theorem RepDL.split {pub : Nat → Nat} {w : World} : ∀ {a : List (List D)} {b : List (List Value)}, a.length = b.length → (∀ (i : Nat) (q : List D) (r : List Value), a[i]? = some q → b[i]? = some r → RepDL pub w q r) → RepDL pub w a.flatten b.flatten
  | [], [], _, _ => .nil
  | q :: a, r :: b, hl, h => by
    simp only [List.flatten_cons]
    exact (h 0 q r rfl rfl).append (RepDL.split (by simpa using hl) (fun i q' r' hq hr => h (i + 1) q' r' (by simpa using hq) (by simpa using hr)))
  | [], _ :: _, hl, _ => by simp at hl
  | _ :: _, [], hl, _ => by simp at hl

/-- Fields side by side: all of the cells. -/
theorem tiles_flatten (cs : List Value) : ∀ (fs : List Go.Field) (off : Nat), tiles P off fs = true → (fs.map fun f => (cs.drop f.offset).take (P.cellsOf f.type)).flatten = (cs.drop off).take (sumCells P fs)
  | [], off, _ => by simp [sumCells]
  | f :: fs, off, h => by
    simp only [tiles, Bool.and_eq_true, beq_iff_eq] at h
    simp only [List.map_cons, List.flatten_cons, sumCells, tiles_flatten cs fs _ h.2, h.1]
    rw [List.take_add, List.drop_drop]

theorem array_flatten (cs : List Value) (sz : Nat) : ∀ n, ((List.range n).map fun i => (cs.drop (i * sz)).take sz).flatten = cs.take (n * sz)
  | 0 => by simp
  | n + 1 => by
    rw [List.range_succ, List.map_append, List.flatten_append, array_flatten cs sz n, Nat.succ_mul, List.take_add]
    simp

theorem ty_cells {n : Nat} {t : TypeId} {xs : List D} (h : Ty P n t xs) : (elD (aggT P t) xs).cells = xs := by
  cases n with
  | zero => exact h.elim
  | succ n =>
    unfold Ty at h
    unfold aggT
    split at h
    · rename_i hu; rw [hu]; obtain ⟨b, rfl⟩ := h; rfl
    · rename_i k hu; rw [hu]; obtain ⟨b, rfl, _⟩ := h; rfl
    · rename_i hu; rw [hu]; obtain ⟨b, rfl, _⟩ := h; rfl
    · rename_i e hu; rw [hu]
      rcases h with rfl | ⟨yss, rfl, _⟩ <;> rfl
    · rename_i fs hu; rw [hu]; rfl
    · rename_i m e hu; rw [hu]; rfl
    · exact h.elim

theorem ones_append {a b : List D} (h1 : D.ones a = true) (h2 : D.ones b = true) : D.ones (a ++ b) = true := by
  induction a with
  | nil => exact h2
  | cons q a ih => simp only [List.cons_append, D.ones, Bool.and_eq_true] at h1 ⊢; exact ⟨h1.1, ih h1.2⟩
theorem ones_flatten : ∀ {l : List (List D)}, (∀ q ∈ l, D.ones q = true) → D.ones l.flatten = true
  | [], _ => rfl
  | q :: l, h => ones_append (h q (by simp)) (ones_flatten fun r hr => h r (by simp [hr]))

theorem ty_ones : ∀ {n : Nat} {t : TypeId} {xs : List D}, Ty P n t xs → D.ones xs = true
  | 0, _, _, h => h.elim
  | n + 1, t, xs, h => by
    unfold Ty at h
    split at h
    · obtain ⟨b, rfl⟩ := h; rfl
    · obtain ⟨b, rfl, _⟩ := h; rfl
    · obtain ⟨b, rfl, _⟩ := h; rfl
    · rcases h with rfl | ⟨yss, rfl, _⟩ <;> rfl
    · obtain ⟨yss, rfl, hl, h⟩ := h
      refine ones_flatten fun q hq => ?_
      obtain ⟨i, hi⟩ := List.getElem?_of_mem hq
      have hlt := (List.getElem?_eq_some_iff.1 hi).1
      rename_i fs hu
      exact ty_ones (h i (fs.toList[i]'(by omega)) q (by simp [hl ▸ hlt]) hi)
    · obtain ⟨yss, rfl, hl, h⟩ := h
      exact ones_flatten fun q hq => ty_ones (h q hq)
    · exact h.elim

end
end W

/-
  Arguments that were read are data: the reading itself.
-/
set_option linter.unusedSimpArgs false
set_option linter.unusedVariables false
namespace W
open Go (World Value Addr IntKind Program TypeId FuncId Operand Act Oper Next Result Sem Ending Exit Code Func DataW MemPlace Calls TypeDesc Lit)

theorem exists_list {α : Type} {R : Nat → α → Prop} : ∀ (n : Nat), (∀ i, i < n → ∃ a, R i a) → ∃ l : List α, l.length = n ∧ ∀ (i : Nat) (a : α), l[i]? = some a → R i a
  | 0, _ => ⟨[], rfl, fun i a h => by simp at h⟩
  | n + 1, h => by
    obtain ⟨l, h1, h2⟩ := exists_list n (fun i hi => h i (by omega))
    obtain ⟨a, ha⟩ := h n (by omega)
    refine ⟨l ++ [a], by simp [h1], fun i b hb => ?_⟩
    rw [List.getElem?_append] at hb
    split at hb
    · exact h2 i b hb
    · rename_i hge
      have hi : i - l.length = 0 := by
        rcases Nat.eq_zero_or_pos (i - l.length) with h0 | h0
        · exact h0
        · rw [List.getElem?_eq_none (by simp; omega)] at hb; cases hb
      rw [hi] at hb
      simp only [List.getElem?_cons_zero, Option.some.injEq] at hb
      subst hb
      rwa [show i = n by omega]

theorem flatten_get {α : Type} {c : Nat} : ∀ (l : List (List α)), (∀ q ∈ l, q.length = c) → ∀ (j : Nat) (v : α), l.flatten[j]? = some v → ∃ i r q, j = i * c + r ∧ l[i]? = some q ∧ q[r]? = some v
  | [], _, j, v, h => by simp at h
  | q :: l, hc, j, v, h => by
    have hq := hc q (by simp)
    rw [List.flatten_cons, List.getElem?_append] at h
    split at h
    · exact ⟨0, j, q, by simp, rfl, h⟩
    · rename_i hge
      obtain ⟨i, r, q', h1, h2, h3⟩ := flatten_get l (fun x hx => hc x (by simp [hx])) _ v h
      exact ⟨i + 1, r, q', by rw [Nat.succ_mul]; omega, by simpa using h2, h3⟩

theorem flatten_length {α : Type} {c : Nat} : ∀ (l : List (List α)), (∀ q ∈ l, q.length = c) → l.flatten.length = l.length * c
  | [], _ => by simp
  | q :: l, hc => by
    rw [List.flatten_cons, List.length_append, hc q (by simp), flatten_length l (fun x hx => hc x (by simp [hx])), List.length_cons, Nat.succ_mul]; omega

section
variable {P : Program} {Hh : Type} {enc : TypeId × Value → Hh} {W : World}

theorem bulk_el {n : Nat} {t : TypeId} {q : List D} (h : Ty P n t q) {b : Nat} (hb : D.bulks q + (if aggT P t then 1 else 0) ≤ b) : D.bulk (elD (aggT P t) q) ≤ b := by
  cases ha : aggT P t with
  | true => rw [ha] at hb; simpa [elD, D.bulk] using hb
  | false =>
    rw [ha] at hb
    have h1 := ty_cells h
    rw [ha] at h1
    match q, h1, hb with
    | [x], _, hb => simpa [elD, D.bulks] using hb
    | [], h1, _ => simp [elD, D.cells] at h1
    | x :: y :: l, h1, _ => simp [elD, D.cells] at h1

theorem bulks_le {B : DataW Hh → Nat} {BA : List (DataW Hh) → Nat} (hB : Bulk B BA) : ∀ {ys : List D} {ds : List (DataW Hh)}, ys.length = ds.length → (∀ (i : Nat) (y : D) (d : DataW Hh), ys[i]? = some y → ds[i]? = some d → D.bulk y ≤ B d) → D.bulks ys ≤ BA ds
  | [], [], _, _ => by simp [D.bulks]
  | y :: ys, d :: ds, hl, h => by
    rw [hB.c, D.bulks]
    have h1 := h 0 y d rfl rfl
    have h2 := bulks_le hB (ys := ys) (ds := ds) (by simpa using hl) (fun i y d hy hd => h (i + 1) y d (by simpa using hy) (by simpa using hd))
    omega
  | [], _ :: _, hl, _ => by simp at hl
  | _ :: _, [], hl, _ => by simp at hl

theorem bulks_flat_le {B : DataW Hh → Nat} {BA : List (DataW Hh) → Nat} (hB : Bulk B BA) : ∀ {ys : List (List D)} {ds : List (DataW Hh)}, ys.length = ds.length → (∀ (i : Nat) (y : List D) (d : DataW Hh), ys[i]? = some y → ds[i]? = some d → D.bulks y ≤ B d) → D.bulks ys.flatten ≤ BA ds
  | [], [], _, _ => by simp [D.bulks]
  | y :: ys, d :: ds, hl, h => by
    rw [hB.c, List.flatten_cons, bulks_append]
    have h1 := h 0 y d rfl rfl
    have h2 := bulks_flat_le hB (ys := ys) (ds := ds) (by simpa using hl) (fun i y d hy hd => h (i + 1) y d (by simpa using hy) (by simpa using hd))
    omega
  | [], _ :: _, hl, _ => by simp at hl
  | _ :: _, [], hl, _ => by simp at hl

theorem cells_spec {a : Addr} {n : Nat} {cs : List Value} (h : W.cells? 0 a n = some cs) : cs.length = n ∧ ∀ (i : Nat) (v : Value), cs[i]? = some v → W.cell? (a.add i) = some v := by
  unfold World.cells? at h
  simp only [Nat.zero_le, if_true] at h
  have hl := Go.mapM_some_length h
  refine ⟨by simpa using hl, fun i v hv => ?_⟩
  have hi : i < n := by
    have := (List.getElem?_eq_some_iff.1 hv).1
    rw [hl] at this; simpa using this
  have := Go.mapM_some_get h i i (by simp [hi])
  rw [this, hv]

theorem bulks_sl (ys : List D) : D.bulks [.sl ys] = D.bulks ys + 1 := by simp [D.bulks, D.bulk]

theorem trod_rep {ts : List TypeId} (hts : covers P ts = true) {B : DataW Hh → Nat} {BA : List (DataW Hh) → Nat} (hB : Bulk B BA) : ∀ (n : Nat) (t : TypeId) (cs : List Value) (x : DataW Hh × List MemPlace), t ∈ ts →
    DataW.trod enc P W 0 (fun _ => true) true n t cs = some x → ∃ xs, Ty P n t xs ∧ RepDL (g0 W).pub W xs cs ∧ D.bulks xs + (if aggT P t then 1 else 0) ≤ B x.1
  | 0, t, cs, x, _, h => by simp [DataW.trod] at h
  | n + 1, t, cs, x, ht, h => by
    have hcov : cover1 P ts t = true := by
      simp only [covers, List.all_eq_true] at hts
      exact hts t ht
    unfold cover1 at hcov
    unfold Ty aggT
    split at hcov
    · -- bool
      rename_i hu
      obtain ⟨b, rfl, rfl⟩ := DataW.trod_bool hu h
      rw [hu]
      exact ⟨[.b b], ⟨b, rfl⟩, .cons _ _ _ _ (.b b) .nil, by have := hB.lit (.bool b); simpa [D.bulks, D.bulk] using this⟩
    · rename_i k hu
      obtain ⟨z, rfl, rfl, hw⟩ := DataW.trod_int hu h
      rw [hu]
      exact ⟨[.i k z], ⟨z, rfl, hw⟩, .cons _ _ _ _ (.i k z) .nil, by have := hB.lit (.int k z); simpa [D.bulks, D.bulk] using this⟩
    · rename_i hu
      obtain ⟨z, rfl, rfl, hm⟩ := DataW.trod_string hu h
      rw [hu]
      have hl : (z.data.toList.map (·.toNat)).length = z.size := by simp
      refine ⟨[.s (z.data.toList.map (·.toNat))], ⟨_, rfl, by rw [hl]; exact hm, fun c hc => ?_⟩, .cons _ _ _ _ (.s _ z rfl) .nil, ?_⟩
      · obtain ⟨b, _, rfl⟩ := List.mem_map.1 hc
        exact b.toNat_lt
      · simp only [D.bulks, D.bulk, hB.str]
        simp
    · -- slice
      rename_i e hu
      simp only [Bool.and_eq_true, List.contains_iff_mem, Nat.blt_eq] at hcov
      obtain ⟨he, hpos⟩ := hcov
      rw [hu]
      rcases DataW.trod_slice hu h with ⟨rfl, rfl⟩ | ⟨a, len, cap, elems, rest, m, hm, rfl, rfl, hb, hlc, hcap, hlen, hel, _, _⟩
      · exact ⟨[.nil], .inl rfl, .cons _ _ _ _ .nil .nil, by rw [hB.nil]; simp [D.bulks, D.bulk]⟩
      · cases hm
        -- each element
        obtain ⟨l, hl1, hl2⟩ := exists_list (R := fun i (p : List D × List Value) => ∃ y, elems[i]? = some y ∧ W.cells? 0 (a.add (i * P.cellsOf e)) (P.cellsOf e) = some p.2 ∧ Ty P n e p.1 ∧ RepDL (g0 W).pub W p.1 p.2 ∧ D.bulks p.1 + (if aggT P e then 1 else 0) ≤ B y.1) len (fun i hi => by
          have h1 := hel i hi
          rw [List.getElem?_eq_getElem (by omega)] at h1
          obtain ⟨cs', h2, h3⟩ := Option.bind_eq_some_iff.1 h1
          obtain ⟨xs, h4, h5, h6⟩ := trod_rep hts hB n e cs' _ he h3
          exact ⟨(xs, cs'), _, List.getElem?_eq_getElem (by omega), h2, h4, h5, h6⟩)
        have htys : ∀ q ∈ l.map (·.1), Ty P n e q := fun q hq => by
          obtain ⟨p, hp, rfl⟩ := List.mem_map.1 hq
          obtain ⟨i, hi⟩ := List.getElem?_of_mem hp
          obtain ⟨y, _, _, h4, _⟩ := hl2 i p hi
          exact h4
        have hbulk : D.bulks ((l.map (·.1)).map (elD (aggT P e))) ≤ BA (elems.map (·.1)) := by
          refine bulks_le hB (by simp [hl1, hlen]) (fun i y d hy hd => ?_)
          simp only [List.getElem?_map, Option.map_map, Option.map_eq_some_iff] at hy hd
          obtain ⟨p, hp, rfl⟩ := hy
          obtain ⟨z, hz, rfl⟩ := hd
          obtain ⟨y, h1, _, h4, _, h6⟩ := hl2 i p hp
          rw [hz] at h1
          cases h1
          exact bulk_el h4 h6
        refine ⟨[.sl ((l.map (·.1)).map (elD (aggT P e)))], .inr ⟨l.map (·.1), rfl, by simp only [List.length_map, hl1]; omega, htys⟩, .cons _ _ _ _ ?_ .nil, ?_⟩
        · cases hle : l with
          | nil =>
            rw [hle] at hl1
            simp at hl1
            subst hl1
            exact .sl0 a cap
          | cons p0 l' =>
            rw [← hle]
            have hlpos : 0 < len := by rw [← hl1, hle]; simp
            have hcl : ∀ p ∈ l, p.2.length = P.cellsOf e := fun p hp => by
              obtain ⟨i, hi⟩ := List.getElem?_of_mem hp
              obtain ⟨y, _, h2, _⟩ := hl2 i p hi
              exact (cells_spec h2).1
            have hcell : ∀ i p, l[i]? = some p → ∀ r v, p.2[r]? = some v → W.cell? ((a.add (i * P.cellsOf e)).add r) = some v := fun i p hi r v hv => by
              obtain ⟨y, _, h2, _⟩ := hl2 i p hi
              exact (cells_spec h2).2 r v hv
            have hspot : a.spot = none := by
              have h0 : l[0]? = some p0 := by rw [hle]; rfl
              have hp0 := hcl p0 (by rw [hle]; simp)
              have hlt : 0 < p0.2.length := by omega
              have := spot_of_cell (hcell 0 p0 h0 0 p0.2[0] (by simp [hlt]))
              rw [Nat.zero_mul] at this
              unfold Addr.add at this
              simpa using this
            obtain ⟨b, off, sp⟩ := a
            simp only at hspot
            subst hspot
            have hvlen : (l.map (·.2)).flatten.length = len * P.cellsOf e := by
              rw [flatten_length _ (fun q hq => by obtain ⟨p, hp, rfl⟩ := List.mem_map.1 hq; exact hcl p hp)]; simp [hl1]
            have hflat : ((l.map (·.1)).map (elD (aggT P e))).flatMap D.cells = (l.map (·.1)).flatten := by
              rw [List.flatMap_map, List.flatMap_def]
              congr 1
              rw [List.map_congr_left (g := id)]
              · simp
              · intro q hq; exact ty_cells (htys q hq)
            have hrep : RepDL (g0 W).pub W (((l.map (·.1)).map (elD (aggT P e))).flatMap D.cells) (l.map (·.2)).flatten := by
              rw [hflat]
              refine RepDL.split (by simp) (fun i q r hq hr => ?_)
              simp only [List.getElem?_map, Option.map_eq_some_iff] at hq hr
              obtain ⟨p, hp, rfl⟩ := hq
              obtain ⟨p', hp', rfl⟩ := hr
              rw [hp] at hp'
              cases hp'
              obtain ⟨y, _, _, _, h5, _⟩ := hl2 i p hp
              exact h5
            have hcs : ∀ j v, (l.map (·.2)).flatten[j]? = some v → W.cell? ⟨b, off + j, none⟩ = some v := fun j v hj => by
              obtain ⟨i, r, q, h1, h2, h3⟩ := flatten_get _ (fun q hq => by obtain ⟨p, hp, rfl⟩ := List.mem_map.1 hq; exact hcl p hp) j v hj
              simp only [List.getElem?_map, Option.map_eq_some_iff] at h2
              obtain ⟨p, hp, rfl⟩ := h2
              have := hcell i p hp r v h3
              rw [add_none, add_none] at this
              rw [h1, ← Nat.add_assoc]; exact this
            have hlenD : ((l.map (·.1)).map (elD (aggT P e))).length = len := by simp [hl1]
            have hsl := RepD.sl (pub := (g0 W).pub) (w := W) ((l.map (·.1)).map (elD (aggT P e))) b off cap (P.cellsOf e) (l.map (·.2)).flatten (by rw [hle]; simp) (fun x hx => ?_) hrep hcs ?_ (by rw [hlenD]; exact hlc) ?_
            · rw [hlenD] at hsl; exact hsl
            · obtain ⟨q, hq, rfl⟩ := List.mem_map.1 hx
              rw [ty_cells (htys q hq)]
              obtain ⟨p, hp, rfl⟩ := List.mem_map.1 hq
              obtain ⟨i, hi⟩ := List.getElem?_of_mem hp
              obtain ⟨y, _, _, _, h5, _⟩ := hl2 i p hi
              rw [h5.length]; exact hcl p hp
            · have hp : 0 < len * P.cellsOf e := Nat.mul_pos hlpos hpos
              have hlt : (l.map (·.2)).flatten.length - 1 < (l.map (·.2)).flatten.length := by rw [hvlen]; omega
              have := pub_of_cell (hcs _ _ (List.getElem?_eq_getElem hlt))
              rw [hvlen] at this ⊢
              omega
            · refine hrep.ones ?_
              rw [hflat]
              exact ones_flatten fun q hq => ty_ones (htys q hq)
        · rw [bulks_sl, hB.sl]
          simp only [Bool.false_eq_true, if_false]
          omega
    · -- struct
      rename_i fs hu
      simp only [Bool.and_eq_true, List.all_eq_true, List.contains_iff_mem, Nat.beq_eq] at hcov
      obtain ⟨⟨hf, htile⟩, hsum⟩ := hcov
      obtain ⟨ys, m, hm, rfl, hlc, hlen, hel⟩ := DataW.trod_struct hu h
      cases hm
      rw [hu]
      obtain ⟨l, hl1, hl2⟩ := exists_list (R := fun i (p : List D) => ∃ f y, fs[i]? = some f ∧ ys[i]? = some y ∧ Ty P n f.type p ∧ RepDL (g0 W).pub W p ((cs.drop f.offset).take (P.cellsOf f.type)) ∧ D.bulks p + (if aggT P f.type then 1 else 0) ≤ B y.1) fs.size (fun i hi => by
        have hfi : fs[i]? = some fs[i] := by simp [hi]
        have h1 := hel i fs[i] hfi
        rw [List.getElem?_eq_getElem (by omega)] at h1
        obtain ⟨xs, h4, h5, h6⟩ := trod_rep hts hB n _ _ _ (hf fs[i] (by simp)) h1
        exact ⟨xs, fs[i], _, hfi, List.getElem?_eq_getElem (by omega), h4, h5, h6⟩)
      refine ⟨l.flatten, ⟨l, rfl, by simp [hl1], fun i f q hfi hq => ?_⟩, ?_, ?_⟩
      · obtain ⟨f', y, h1, h2, h3, _⟩ := hl2 i q hq
        have : fs[i]? = some f := by simpa using hfi
        rw [h1] at this; cases this
        exact h3
      · have hall : cs = (fs.toList.map fun f => (cs.drop f.offset).take (P.cellsOf f.type)).flatten := by
          rw [tiles_flatten cs _ 0 htile, ← hsum, ← hlc]; simp
        rw [hall]
        refine RepDL.split (by simp [hl1]) (fun i q r hq hr => ?_)
        simp only [List.getElem?_map, Option.map_eq_some_iff] at hr
        obtain ⟨f, hfi, rfl⟩ := hr
        obtain ⟨f', y, h1, h2, h3, h4, _⟩ := hl2 i q hq
        have : fs[i]? = some f := by simpa using hfi
        rw [h1] at this; cases this
        exact h4
      · simp only [hB.agg, if_true]
        have := bulks_flat_le hB (ys := l) (ds := ys.map (·.1)) (by simp [hl1, hlen]) (fun i q d hq hd => by
          simp only [List.getElem?_map, Option.map_eq_some_iff] at hd
          obtain ⟨z, hz, rfl⟩ := hd
          obtain ⟨f', y, h1, h2, h3, h4, h5⟩ := hl2 i q hq
          rw [hz] at h2; cases h2
          omega)
        omega
    · -- array
      rename_i k e hu
      simp only [Bool.and_eq_true, List.contains_iff_mem, Nat.beq_eq] at hcov
      obtain ⟨he, hsum⟩ := hcov
      obtain ⟨ys, m, hm, rfl, hlc, hlen, hel⟩ := DataW.trod_array hu h
      cases hm
      rw [hu]
      obtain ⟨l, hl1, hl2⟩ := exists_list (R := fun i (p : List D) => ∃ y, ys[i]? = some y ∧ Ty P n e p ∧ RepDL (g0 W).pub W p ((cs.drop (i * P.cellsOf e)).take (P.cellsOf e)) ∧ D.bulks p + (if aggT P e then 1 else 0) ≤ B y.1) k (fun i hi => by
        have h1 := hel i hi
        rw [List.getElem?_eq_getElem (by omega)] at h1
        obtain ⟨xs, h4, h5, h6⟩ := trod_rep hts hB n _ _ _ he h1
        exact ⟨xs, _, List.getElem?_eq_getElem (by omega), h4, h5, h6⟩)
      refine ⟨l.flatten, ⟨l, rfl, hl1, fun q hq => ?_⟩, ?_, ?_⟩
      · obtain ⟨i, hi⟩ := List.getElem?_of_mem hq
        obtain ⟨y, h2, h3, _⟩ := hl2 i q hi
        exact h3
      · have hall : cs = ((List.range k).map fun i => (cs.drop (i * P.cellsOf e)).take (P.cellsOf e)).flatten := by
          rw [array_flatten, ← hsum, ← hlc]; simp
        rw [hall]
        refine RepDL.split (by simp [hl1]) (fun i q r hq hr => ?_)
        simp only [List.getElem?_map, Option.map_eq_some_iff] at hr
        obtain ⟨i', hi', rfl⟩ := hr
        have hik : i < k := by rw [← hl1]; exact (List.getElem?_eq_some_iff.1 hq).1
        rw [List.getElem?_range hik] at hi'
        cases hi'
        obtain ⟨y, h2, h3, h4, _⟩ := hl2 i q hq
        exact h4
      · simp only [hB.agg, if_true]
        have := bulks_flat_le hB (ys := l) (ds := ys.map (·.1)) (by simp [hl1, hlen]) (fun i q d hq hd => by
          simp only [List.getElem?_map, Option.map_eq_some_iff] at hd
          obtain ⟨z, hz, rfl⟩ := hd
          obtain ⟨y, h2, h3, h4, h5⟩ := hl2 i q hq
          rw [hz] at h2; cases h2
          omega)
        omega
    · cases hcov

end
end W

/-
  A law's contract from runs of the small semantics, one for every way that its arguments may read.
-/
set_option linter.unusedSimpArgs false
set_option linter.unusedVariables false
namespace W
open Go (World Value Addr IntKind Program TypeId FuncId Operand Act Oper Next Result Sem Ending Exit Code Func DataW MemPlace Calls TypeDesc Lit)
open Go.ChangeShapes Go.RowKit

section
variable {P : Program} {Hh : Type} {enc : TypeId × Value → Hh} {W : World} {M : Maps}

theorem form_ok {r : Go.Reach} {b : Nat} {t : TypeId} {v : Value} (hv : Value.okWide P W r b t v) : (aggT P t = true → ∃ cs, v = .agg cs) ∧
    (aggT P t = false → (∃ d, P.underlying t = some d ∧ (d = .bool ∨ (∃ k, d = .int k) ∨ d = .string ∨ ∃ e, d = .slice e)) → v.cells.toList = [v]) := by
  unfold Value.okWide at hv
  unfold aggT
  split at hv
  · rename_i hu
    rw [hu]
    obtain ⟨cs, rfl, _⟩ := hv
    exact ⟨fun _ => ⟨cs, rfl⟩, fun h => by cases h⟩
  · rename_i hu
    rw [hu]
    obtain ⟨cs, rfl, _⟩ := hv
    exact ⟨fun _ => ⟨cs, rfl⟩, fun h => by cases h⟩
  · rename_i h1 h2
    refine ⟨fun h => ?_, fun _ ⟨d, hu, hd⟩ => ?_⟩
    · exfalso
      split at h
      · rename_i hu; exact h1 _ hu
      · rename_i hu; exact h2 _ _ hu
      · cases h
    · cases v with
      | agg cs => rcases hd with rfl | ⟨k, rfl⟩ | rfl | ⟨e, rfl⟩ <;> simp [Go.Cell.okWide, Go.Cell.ok, hu] at hv
      | _ => rfl

theorem arg_rep {ts : List TypeId} (hts : covers P ts = true) {B : DataW Hh → Nat} {BA : List (DataW Hh) → Nat} (hB : Bulk B BA) {r : Go.Reach} {b : Nat} {t : TypeId} {v : Value} {d : DataW Hh} {ps : List MemPlace} (ht : t ∈ ts)
    (hv : Value.okWide P W r b t v) (h : DataW.Trod enc P W 0 (fun _ => true) true t v d ps) : ∃ x, Arg P t x ∧ RepS M (g0 W) W (.d x) v ∧ D.bulk x ≤ B d := by
  obtain ⟨n, hn⟩ := h
  obtain ⟨xs, h1, h2, h3⟩ := trod_rep hts hB n t _ _ ht hn
  refine ⟨elD (aggT P t) xs, ⟨n, xs, h1, rfl⟩, ?_, bulk_el h1 h3⟩
  obtain ⟨f1, f2⟩ := form_ok hv
  cases ha : aggT P t with
  | true =>
    obtain ⟨cs, rfl⟩ := f1 ha
    exact .d _ _ (.agg xs cs h2)
  | false =>
    have hcov : cover1 P ts t = true := by
      simp only [covers, List.all_eq_true] at hts
      exact hts t ht
    have hc := f2 ha (by
      unfold cover1 at hcov
      split at hcov
      · rename_i hu; exact ⟨_, hu, .inl rfl⟩
      · rename_i hu; exact ⟨_, hu, .inr (.inl ⟨_, rfl⟩)⟩
      · rename_i hu; exact ⟨_, hu, .inr (.inr (.inl rfl))⟩
      · rename_i hu; exact ⟨_, hu, .inr (.inr (.inr ⟨_, rfl⟩))⟩
      · rename_i hu; simp [aggT, hu] at ha
      · rename_i hu; simp [aggT, hu] at ha
      · cases hcov)
    rw [hc] at h2
    cases h2 with
    | cons x _ l _ hx hl =>
      cases hl
      exact .d _ _ hx

theorem args_rep {ts : List TypeId} (hts : covers P ts = true) {B : DataW Hh → Nat} {BA : List (DataW Hh) → Nat} (hB : Bulk B BA) {r : Go.Reach} {b : Nat} : ∀ {tys : List TypeId} {vs : List Value} {ds : List (DataW Hh)} {ps : List MemPlace} (j : Nat),
    (∀ t ∈ tys, t ∈ ts) → (∀ (i : Nat) t v, tys[i]? = some t → vs[i]? = some v → Value.okWide P W r b t v) → DataW.TrodAll enc P W 0 (fun _ => true) true tys vs ds ps →
    ∃ xs : List D, All2 (Arg P) tys xs ∧ ArgsRep M (g0 W) W j (xs.map .d) vs ∧ D.bulks xs ≤ BA ds
  | [], vs, ds, ps, j, _, _, h => by
    obtain ⟨rfl, rfl, rfl⟩ := trodAll_nil h
    exact ⟨[], .nil, .nil j, by simp [D.bulks]⟩
  | t :: tys, vs, ds, ps, j, ht, hv, h => by
    obtain ⟨v, vs', d, ds', p, q, rfl, rfl, rfl, hd, hrest⟩ := trodAll_cons h
    obtain ⟨x, h1, h2, h3⟩ := arg_rep (M := M) hts hB (ht t (by simp)) (hv 0 t v rfl rfl) hd
    obtain ⟨xs, h4, h5, h6⟩ := args_rep hts hB (j + 1) (fun u hu => ht u (by simp [hu])) (fun i u w' hu hw => hv (i + 1) u w' (by simpa using hu) (by simpa using hw)) hrest
    refine ⟨x :: xs, .cons h1 h4, .cons (.s h2) h5, ?_⟩
    rw [hB.c, D.bulks]
    omega

/-- ████ A LAW's CONTRACT ████ -/
theorem law_contract {f : Func} {fid : FuncId} {s : Go.ChangeSpec} {apart fresh handsOn again : Bool} {args : Array Value} {ds gs : List (DataW Hh)} {before : List MemPlace} {tb : TypeId} {ts : List TypeId} {pg : Pg} {i : Nat} {r : Go.Reach} {b : Nat}
    (hgl : GlOk M (g0 W) W) (hm : P.follows .mixedOrders = true) (hT : Tab P M pg) (hx : CallSim P M pg.ext) (hxlo : CallLo pg.ext) (hlook : look M.fm fid = some i) (hext : pg.fn i ≠ none)
    (hts : covers P ts = true) (hpar : ∀ t ∈ f.params.toList, t ∈ ts) {B : DataW Hh → Nat} {BA : List (DataW Hh) → Nat} (hB : Bulk B BA)
    (hval : ∀ (j : Nat) t v, f.params[j]? = some t → args[j]? = some v → Value.okWide P W r b t v)
    (hvars : s.vars = []) (hW : DataW.Whole enc P f.params.toList s.vars apart W args.toList ds gs before) (hs : s.fn Hh ds = { results := [.lit (.bool true)], args := ds }) (hres : f.resultTypes = #[tb]) (htb : P.underlying tb = some .bool)
    (hl : Go.laidOutB P = true) (hread : ∀ t ∈ f.params.toList, P.readableRec t = true ∧ t < P.types.size)
    (run : ∀ xs : List D, All2 (Arg P) f.params.toList xs → D.bulks xs ≤ BA ds → ∃ n r, callN pg n i (xs.map .d) [] = some r ∧ r.pan = false ∧ r.v = .d (.b true)) :
    Calls P fid args W fun e W' => ∃ v, e = .returned v ∧ s.post enc P f apart fresh handsOn again W args v W' := by
  have hW' := hW
  obtain ⟨p, q, hA, hV, rfl, hfz, hnd⟩ := hW
  obtain ⟨xs, h1, h2, h3⟩ := args_rep (M := M) hts hB 0 hpar (fun j t v ht hv => hval j t v (by simpa using ht) (by simpa using hv)) hA
  obtain ⟨n, q2, hrun, hp, hv⟩ := run xs h1 h3
  have hc := sound_calls hm hT hx hxlo hrun hlook hext h2 (g0_relH M W hgl)
  have ha : args.toList.toArray = args := by simp
  rw [ha] at hc
  refine hc.mono (fun e W' he => ?_)
  cases e with
  | returned v =>
    obtain ⟨_, g', hH, hE, hr⟩ := he
    rw [hv] at hr
    have hvb : v = .bool true := by
      cases hr with
      | s h => cases h with
        | d _ _ h => cases h; rfl
    subst hvb
    exact ⟨_, rfl, law_post hvars hW' hs hres htb hl hread hE.io (g0_evo hE)⟩
  | panicked ch =>
    obtain ⟨h, _⟩ := he
    rw [hp] at h; cases h
  | outgrown => exact he.elim

end
end W

/-
  What arguments read as, kind by kind.
-/
set_option linter.unusedSimpArgs false
set_option linter.unusedVariables false
namespace W
open Go (World Value Addr IntKind Program TypeId FuncId Func DataW MemPlace TypeDesc Lit)

theorem look_id {n a b : Nat} (h : look ((List.range n).map fun i => (i, i)) a = some b) : a = b := by
  have key : ∀ (l : List Nat), look (l.map fun i => (i, i)) a = some b → a = b := by
    intro l
    induction l with
    | nil => intro h; cases h
    | cons x l ih =>
      intro h
      simp only [List.map_cons, look, Bool.cond_eq_ite] at h
      split at h
      · rename_i hb
        cases h
        exact Nat.eq_of_beq_eq_true hb
      · exact ih h
  exact key _ h

variable {P : Program} {t e : TypeId} {x : D}

theorem arg_int {k : IntKind} (hu : P.underlying t = some (.int k)) (h : Arg P t x) : ∃ z, x = .i k z ∧ (Lit.int k z).wf = true := by
  obtain ⟨n, xs, ht, rfl⟩ := h
  cases n with
  | zero => exact ht.elim
  | succ n =>
    simp only [Ty, hu] at ht
    obtain ⟨z, rfl, hw⟩ := ht
    exact ⟨z, by simp [aggT, hu, elD], hw⟩
theorem arg_bool (hu : P.underlying t = some .bool) (h : Arg P t x) : ∃ z, x = .b z := by
  obtain ⟨n, xs, ht, rfl⟩ := h
  cases n with
  | zero => exact ht.elim
  | succ n =>
    simp only [Ty, hu] at ht
    obtain ⟨z, rfl⟩ := ht
    exact ⟨z, by simp [aggT, hu, elD]⟩
theorem arg_str (hu : P.underlying t = some .string) (h : Arg P t x) : ∃ s, x = .s s ∧ s.length ≤ Go.maxLen ∧ ∀ c ∈ s, c < 256 := by
  obtain ⟨n, xs, ht, rfl⟩ := h
  cases n with
  | zero => exact ht.elim
  | succ n =>
    simp only [Ty, hu] at ht
    obtain ⟨z, rfl, hw⟩ := ht
    exact ⟨z, by simp [aggT, hu, elD], hw⟩
theorem arg_slice (hu : P.underlying t = some (.slice e)) (h : Arg P t x) : x = .nil ∨ ∃ l : List D, x = .sl l ∧ l.length ≤ Go.maxLen ∧ ∀ y ∈ l, Arg P e y := by
  obtain ⟨n, xs, ht, rfl⟩ := h
  cases n with
  | zero => exact ht.elim
  | succ n =>
    simp only [Ty, hu] at ht
    rcases ht with rfl | ⟨yss, rfl, hl, hy⟩
    · exact .inl (by simp [aggT, hu, elD])
    · refine .inr ⟨yss.map (elD (aggT P e)), by simp [aggT, hu, elD], by simpa using hl, fun y hm => ?_⟩
      obtain ⟨q, hq, rfl⟩ := List.mem_map.1 hm
      exact ⟨n, q, hy q hq, rfl⟩
theorem map_of {α : Type} {f : α → D} : ∀ {l : List D}, (∀ y ∈ l, ∃ a, y = f a) → ∃ L : List α, l = L.map f
  | [], _ => ⟨[], rfl⟩
  | y :: l, h => by
    obtain ⟨a, ha⟩ := h y (by simp)
    obtain ⟨L, hL⟩ := map_of (l := l) (fun z hz => h z (by simp [hz]))
    exact ⟨a :: L, by simp [ha, hL]⟩

/-- A slice that came in. -/
inductive SlD {α : Type} (e : α → D) : D → List α → Prop
  | nil : SlD e .nil []
  | sl (L : List α) : SlD e (.sl (L.map e)) L
theorem SlD.len {α : Type} {e : α → D} {x : D} {L : List α} (h : SlD e x L) {H : List Obj} : lenV .lenL (.d x) H = some (.d (.i .i64 L.length)) := by
  cases h with
  | nil => rfl
  | sl => simp [lenV]
theorem SlD.ix {α : Type} {e : α → D} {x : D} {L : List α} (h : SlD e x L) {k : IntKind} {n size : Nat} {y : α} (he : (e y).cells.length = size) (hn : L[n]? = some y) : iaV (.d x) (.d (.i k (n : Nat))) size none = some (.cp (e y)) := by
  cases h with
  | nil => simp at hn
  | sl => exact iaV_sl (by omega) (by simp [hn]) (by simp [he])
theorem arg_sl {α : Type} {f : α → D} (hu : P.underlying t = some (.slice e)) (h : Arg P t x) (he : ∀ y, Arg P e y → ∃ a, y = f a) : ∃ L, SlD f x L := by
  rcases arg_slice hu h with rfl | ⟨l, rfl, _, hl⟩
  · exact ⟨[], .nil⟩
  · obtain ⟨L, rfl⟩ := map_of (f := f) (fun y hy => he y (hl y hy))
    exact ⟨L, .sl L⟩

end W

set_option linter.unusedSimpArgs false
set_option linter.unusedVariables false
namespace W
open Go (IntKind BinOp UnOp)
set_option maxRecDepth 20000
def encP (p : Int × Int) : List Nat := p.1.toNat :: (if hasB p.1 then putV (zig p.2) else [])
/-- The bytes of a list of ops. -/
def encL : List (Int × Int) → List Nat
  | [] => []
  | p :: l => encP p ++ encL l
theorem eOp_cells (p : Int × Int) : (eOp p).cells.length = 2 := rfl
theorem right_call' {k x : Int} {H : List Obj} : callL pg 18 [.d (.agg [.i .i64 k, .i .i32 x])] H = some ⟨false, true, .d (.b (rightB (k, x))), H, H.length⟩ := right_call (p := (k, x))
theorem good_call' {k x : Int} {H : List Obj} : callL pg 21 [.d (.agg [.i .i64 k, .i .i32 x])] H = some ⟨false, true, .d (.b (rightB (k, x))), H, H.length⟩ := good_call (p := (k, x))
def w32 (p : Int × Int) : Prop := -2147483648 ≤ p.2 ∧ p.2 ≤ 2147483647
theorem encP_len {p : Int × Int} (h : w32 p) : (encP p).length ≤ 11 := by
  unfold encP
  have := putV_le10 (zig_lt h.1 h.2)
  split <;> simp <;> omega
theorem right_lt {p : Int × Int} (h : rightB p = true) : 0 ≤ p.1 ∧ p.1 < 34 := by
  unfold rightB at h; simp at h; exact h.1
theorem drop_at {α : Type} {L : List α} {i : Nat} {y : α} (h : L[i]? = some y) : L.drop i = y :: L.drop (i + 1) := by
  obtain ⟨hi, rfl⟩ := List.getElem?_eq_some_iff.1 h
  exact List.drop_eq_getElem_cons hi
theorem enc_loop {H : List Obj} {x : D} {L : List (Int × Int)} (hs : SlD eOp x L) (hL : L.length ≤ 1000) (h32 : ∀ p ∈ L, w32 p) : ∀ (n i : Nat) (acc : List Nat), L.length - i = n → i ≤ L.length → acc.length + 11 * n ≤ 50000 →
    ((L.drop i).all rightB = true → blockC 0 [4] (f_code_Encode_l0 pg (slV e8 acc) (.d x) (.d (.i .i64 (L.length : Nat))) (.d (.i .i64 (i : Nat))) H H.length) = some (.nrm, ⟨[(4, slV e8 (acc ++ encL (L.drop i)))], H, H.length⟩)) ∧
    ((L.drop i).all rightB = false → ∃ e, blockC 0 [4] (f_code_Encode_l0 pg (slV e8 acc) (.d x) (.d (.i .i64 (L.length : Nat))) (.d (.i .i64 (i : Nat))) H H.length) = some (.ret, ⟨e, H, H.length⟩) ∧ get 2 e = .d .nil ∧ get 3 e = .d (.i .i64 23))
  | 0, i, acc, hn, hi, ha => by
    have hd : L.drop i = [] := List.drop_eq_nil_of_le (by omega)
    rw [hd]
    refine ⟨fun _ => ?_, fun h => by simp at h⟩
    have hlt : ((i : Int) < (L.length : Int)) = False := by rw [eq_iff_iff]; simp; omega
    rw [f_code_Encode_l0_eq]
    simp only [f_code_Encode_B0, keepV_slV, keepV_d, exL_seq, exL_ops, runOps_n, evalK_bin, isC_t, Bool.or_self, rd_t, Nat.reduceEqDiff, get_ne, get_eq, readV_d, bin_lss, hlt, decide_false, okS_some, opC_ok, put_d, runOps_nil, thenC_nrm, exL_cond, condC_b, Bool.false_eq_true, ↓reduceIte, exL_exit, thenC_exit, blockC_exit, restrict_cons, restrict_nil, encL, List.append_nil]
  | n + 1, i, acc, hn, hi, ha => by
    have hlt : ((i : Int) < (L.length : Int)) = True := by rw [eq_iff_iff]; simp; omega
    obtain ⟨⟨k, y⟩, hy⟩ : ∃ p, L[i]? = some p := ⟨L[i]'(by omega), by simp⟩
    have hd := drop_at hy
    have hx := hs.ix (k := .i64) (eOp_cells _) hy
    have hm : (k, y) ∈ L := List.mem_of_getElem? hy
    obtain ⟨y1, y2⟩ := h32 _ hm
    simp only [] at y1 y2
    have hw : wr .i64 ((i : Int) + 1) = ((i + 1 : Nat) : Int) := by rw [wr_i64 (by omega) (by omega)]; omega
    rw [hd]
    simp only [eOp] at hx
    cases hr : rightB (k, y)
    · refine ⟨fun h => by simp [hr] at h, fun _ => ?_⟩
      rw [f_code_Encode_l0_eq]
      simp only [f_code_Encode_B0, keepV_slV, keepV_d, exL_seq, exL_ops, runOps_n, evalK_bin, isC_t, Bool.or_self, rd_t, Nat.reduceEqDiff, get_ne, get_eq, readV_d, bin_lss, hlt, decide_true, okS_some, opC_ok, put_d, runOps_nil, thenC_nrm, exL_cond, condC_b, ↓reduceIte, exL_skip, exL_block, evalK_indexAddr, hx, put_cp, evalK_load, readV_cp, List.length_cons, List.length_nil, Nat.zero_add, Nat.reduceAdd, loadV_cp_agg, evalK_allocL, List.map_cons, List.map_nil, put_box, killLp_cons, killV_d, killV_cp, killV_slV, killLp_nil, evalK_store, readV_box, spent_t, storeV_lp, cells_agg, ones_cons, vone_d, one_i, ones_nil, Bool.and_self, storeB_box, Nat.reduceLT, setCells_2, List.set_cons_zero, List.set_cons_succ, storeR_some, put_none, loadV_lp, Nat.reduceLeDiff, boxV_A, List.drop_zero, List.take_succ_cons, List.take_zero, copy1_d, mkAgg_eq, allD_d, allD_nil, consD_some, aggV_some, evalK_call, allLeave_cons, leaves_d, allLeave_nil, eCall_f, right_call', hr, callC_some, spentAll_cons, spentAll_nil, Nat.min_self, evalK_un, un_not, Bool.not_false, Option.map_some, evalK_mov, rd_c, spent_c, exL_ret, thenC_ret, blockC_ret]
      exact ⟨_, rfl, rfl, rfl⟩
    · have hk := right_lt hr
      simp only [] at hk
      have hu : wr .u8 k = (k.toNat : Int) := by rw [wr_u8 (by omega) (by omega)]; omega
      have ha1 : appendV 1 1 (slV e8 acc) (.d (.sl [.i .u8 (k.toNat : Int)])) = some (slV e8 (acc ++ [k.toNat])) := app_slV1 (x := k.toNat) e8_cells (roomy_of (by omega) (by omega))
      have hlen := encP_len (p := (k, y)) ⟨y1, y2⟩
      cases hb : hasB k
      · have e : encL ((k, y) :: L.drop (i + 1)) = [k.toNat] ++ encL (L.drop (i + 1)) := by simp [encL, encP, hb]
        have ih := enc_loop hs hL h32 (H := H) n (i + 1) (acc ++ [k.toNat]) (by omega) (by omega) (by simp; omega)
        rw [e, ← List.append_assoc]
        simp only [List.all_cons, hr, Bool.true_and]
        rw [f_code_Encode_l0_eq]
        simp only [f_code_Encode_B0, keepV_slV, keepV_d, exL_seq, exL_ops, runOps_n, evalK_bin, isC_t, Bool.or_self, rd_t, Nat.reduceEqDiff, get_ne, get_eq, readV_d, bin_lss, hlt, decide_true, okS_some, opC_ok, put_d, runOps_nil, thenC_nrm, exL_cond, condC_b, ↓reduceIte, exL_skip, exL_block, evalK_indexAddr, hx, put_cp, evalK_load, readV_cp, List.length_cons, List.length_nil, Nat.zero_add, Nat.reduceAdd, loadV_cp_agg, evalK_allocL, List.map_cons, List.map_nil, put_box, killLp_cons, killV_d, killV_cp, killV_slV, killLp_nil, evalK_store, readV_box, spent_t, storeV_lp, cells_agg, ones_cons, vone_d, one_i, ones_nil, Bool.and_self, storeB_box, Nat.reduceLT, setCells_2, List.set_cons_zero, List.set_cons_succ, storeR_some, put_none, loadV_lp, Nat.reduceLeDiff, boxV_A, List.drop_zero, List.take_succ_cons, List.take_zero, copy1_d, mkAgg_eq, allD_d, allD_nil, consD_some, aggV_some, evalK_call, allLeave_cons, leaves_d, allLeave_nil, eCall_f, right_call', hr, callC_some, spentAll_cons, spentAll_nil, Nat.min_self, evalK_un, un_not, Bool.not_true, Option.map_some, Bool.false_eq_true, evalK_mov, rd_mv, takeV_slV, spent_mv, put_slV, evalK_fieldAddr, faV_lp, Nat.add_zero, put_lp, readV_lp, boxV_1, List.getElem?_cons_zero, evalK_conv, hu, evalK_buildSlice, dcells_i, List.reduceReplicate, fillD_cons, fillD_nil, wfs_cons, wf_one, wfs_nil, slO_some, put_osl, evalK_append, readV_osl, ha1, appO_some, has_call, hb, blockC_nrm, restrict_cons, restrict_nil, isC_c, Bool.or_true, rd_c, bin_add, hw, f_code_Encode_l0_in]
        exact ih
      · have e : encL ((k, y) :: L.drop (i + 1)) = ([k.toNat] ++ putV (zig y)) ++ encL (L.drop (i + 1)) := by simp [encL, encP, hb]
        have e2 : encP (k, y) = [k.toNat] ++ putV (zig y) := by simp [encP, hb]
        rw [e2] at hlen
        simp only [List.length_append] at hlen
        have ih := enc_loop hs hL h32 (H := H) n (i + 1) (acc ++ [k.toNat] ++ putV (zig y)) (by omega) (by omega) (by simp at hlen ⊢; omega)
        have hp := putInt_call (L := acc ++ [k.toNat]) (x := y) (H := H) (by simp; omega) y1 y2
        have h64 : wr .i64 y = y := wr_i64 (by omega) (by omega)
        rw [e, ← List.append_assoc, ← List.append_assoc]
        simp only [List.all_cons, hr, Bool.true_and]
        rw [f_code_Encode_l0_eq]
        simp only [f_code_Encode_B0, keepV_slV, keepV_d, exL_seq, exL_ops, runOps_n, evalK_bin, isC_t, Bool.or_self, rd_t, Nat.reduceEqDiff, get_ne, get_eq, readV_d, bin_lss, hlt, decide_true, okS_some, opC_ok, put_d, runOps_nil, thenC_nrm, exL_cond, condC_b, ↓reduceIte, exL_skip, exL_block, evalK_indexAddr, hx, put_cp, evalK_load, readV_cp, List.length_cons, List.length_nil, Nat.zero_add, Nat.reduceAdd, loadV_cp_agg, evalK_allocL, List.map_cons, List.map_nil, put_box, killLp_cons, killV_d, killV_cp, killV_slV, killLp_nil, evalK_store, readV_box, spent_t, storeV_lp, cells_agg, ones_cons, vone_d, one_i, ones_nil, Bool.and_self, storeB_box, Nat.reduceLT, setCells_2, List.set_cons_zero, List.set_cons_succ, storeR_some, put_none, loadV_lp, Nat.reduceLeDiff, boxV_A, List.drop_zero, List.take_succ_cons, List.take_zero, copy1_d, mkAgg_eq, allD_d, allD_nil, consD_some, aggV_some, evalK_call, allLeave_cons, leaves_d, allLeave_nil, eCall_f, right_call', hr, callC_some, spentAll_cons, spentAll_nil, Nat.min_self, evalK_un, un_not, Bool.not_true, Option.map_some, Bool.false_eq_true, evalK_mov, rd_mv, takeV_slV, spent_mv, put_slV, evalK_fieldAddr, faV_lp, Nat.add_zero, put_lp, readV_lp, boxV_1, List.getElem?_cons_zero, evalK_conv, hu, evalK_buildSlice, dcells_i, List.reduceReplicate, fillD_cons, fillD_nil, wfs_cons, wf_one, wfs_nil, slO_some, put_osl, evalK_append, readV_osl, ha1, appO_some, has_call, hb, List.getElem?_cons_succ, h64, leaves_slV, hp, blockC_nrm, restrict_cons, restrict_nil, isC_c, Bool.or_true, rd_c, bin_add, hw, f_code_Encode_l0_in]
        exact ih
end W

set_option linter.unusedSimpArgs false
set_option linter.unusedVariables false
namespace W
open Go (IntKind BinOp UnOp)
set_option maxRecDepth 20000
theorem encR_loop {H : List Obj} {x : D} {L : List (Int × Int)} (hs : SlD eOp x L) (hL : L.length ≤ 1000) (h32 : ∀ p ∈ L, w32 p) : ∀ (n i : Nat) (acc : List Nat), L.length - i = n → i ≤ L.length → acc.length + 11 * n ≤ 50000 →
    ((L.drop i).all rightB = true → blockC 0 [4] (f_waferref5_EncodeCode_l0 pg (.d x) (slV e8 acc) (.d (.i .i64 (i : Nat))) H H.length) = some (.nrm, ⟨[(4, slV e8 (acc ++ encL (L.drop i)))], H, H.length⟩)) ∧
    ((L.drop i).all rightB = false → ∃ e, blockC 0 [4] (f_waferref5_EncodeCode_l0 pg (.d x) (slV e8 acc) (.d (.i .i64 (i : Nat))) H H.length) = some (.ret, ⟨e, H, H.length⟩) ∧ get 2 e = .d .nil ∧ get 3 e = .d (.b false))
  | 0, i, acc, hn, hi, ha => by
    have hd : L.drop i = [] := List.drop_eq_nil_of_le (by omega)
    rw [hd]
    refine ⟨fun _ => ?_, fun h => by simp at h⟩
    have hlt : ((i : Int) < (L.length : Int)) = False := by rw [eq_iff_iff]; simp; omega
    rw [f_waferref5_EncodeCode_l0_eq]
    simp only [f_waferref5_EncodeCode_B0, keepV_d, keepV_slV, exL_seq, exL_ops, runOps_n, evalK_mov, rd_t, reduceCtorEq, get_ne, Nat.reduceEqDiff, get_eq, readV_d, spent_t, opC_ok, put_d, evalK_lenL, hs.len, okS_some, evalK_bin, isC_t, Bool.or_self, bin_lss, hlt, decide_false, runOps_nil, thenC_nrm, exL_cond, condC_b, Bool.false_eq_true, ↓reduceIte, exL_exit, thenC_exit, blockC_exit, restrict_cons, restrict_nil, encL, List.append_nil]
  | n + 1, i, acc, hn, hi, ha => by
    have hlt : ((i : Int) < (L.length : Int)) = True := by rw [eq_iff_iff]; simp; omega
    obtain ⟨⟨k, y⟩, hy⟩ : ∃ p, L[i]? = some p := ⟨L[i]'(by omega), by simp⟩
    have hd := drop_at hy
    have hx := hs.ix (k := .i64) (eOp_cells _) hy
    have hm : (k, y) ∈ L := List.mem_of_getElem? hy
    obtain ⟨y1, y2⟩ := h32 _ hm
    simp only [] at y1 y2
    have hw : wr .i64 ((i : Int) + 1) = ((i + 1 : Nat) : Int) := by rw [wr_i64 (by omega) (by omega)]; omega
    rw [hd]
    simp only [eOp] at hx
    cases hr : rightB (k, y)
    · refine ⟨fun h => by simp [hr] at h, fun _ => ?_⟩
      rw [f_waferref5_EncodeCode_l0_eq]
      simp only [f_waferref5_EncodeCode_B0, keepV_d, keepV_slV, exL_seq, exL_ops, runOps_n, evalK_mov, rd_t, reduceCtorEq, get_ne, Nat.reduceEqDiff, get_eq, readV_d, spent_t, opC_ok, put_d, evalK_lenL, hs.len, okS_some, evalK_bin, isC_t, Bool.or_self, bin_lss, hlt, decide_true, runOps_nil, thenC_nrm, exL_cond, condC_b, ↓reduceIte, exL_skip, exL_block, evalK_indexAddr, hx, put_cp, evalK_load, readV_cp, List.length_cons, List.length_nil, Nat.zero_add, Nat.reduceAdd, loadV_cp_agg, evalK_call, List.map_cons, List.map_nil, allLeave_cons, leaves_d, allLeave_nil, Bool.and_self, eCall_f, good_call', hr, callC_some, spentAll_cons, spentAll_nil, Nat.min_self, evalK_un, un_not, Bool.not_false, Option.map_some, rd_c, spent_c, exL_ret, thenC_ret, blockC_ret]
      exact ⟨_, rfl, rfl, rfl⟩
    · have hk := right_lt hr
      simp only [] at hk
      have hu : wr .u8 k = (k.toNat : Int) := by rw [wr_u8 (by omega) (by omega)]; omega
      have ha1 : appendV 1 1 (slV e8 acc) (.d (.sl [.i .u8 (k.toNat : Int)])) = some (slV e8 (acc ++ [k.toNat])) := app_slV1 (x := k.toNat) e8_cells (roomy_of (by omega) (by omega))
      have hlen := encP_len (p := (k, y)) ⟨y1, y2⟩
      cases hb : hasB k
      · have e : encL ((k, y) :: L.drop (i + 1)) = [k.toNat] ++ encL (L.drop (i + 1)) := by simp [encL, encP, hb]
        have ih := encR_loop hs hL h32 (H := H) n (i + 1) (acc ++ [k.toNat]) (by omega) (by omega) (by simp; omega)
        rw [e, ← List.append_assoc]
        simp only [List.all_cons, hr, Bool.true_and]
        rw [f_waferref5_EncodeCode_l0_eq]
        simp only [f_waferref5_EncodeCode_B0, keepV_d, keepV_slV, exL_seq, exL_ops, runOps_n, evalK_mov, rd_t, reduceCtorEq, get_ne, Nat.reduceEqDiff, get_eq, readV_d, spent_t, opC_ok, put_d, evalK_lenL, hs.len, okS_some, evalK_bin, isC_t, Bool.or_self, bin_lss, hlt, decide_true, runOps_nil, thenC_nrm, exL_cond, condC_b, ↓reduceIte, exL_skip, exL_block, evalK_indexAddr, hx, put_cp, evalK_load, readV_cp, List.length_cons, List.length_nil, Nat.zero_add, Nat.reduceAdd, loadV_cp_agg, evalK_call, List.map_cons, List.map_nil, allLeave_cons, leaves_d, allLeave_nil, Bool.and_self, eCall_f, good_call', hr, callC_some, spentAll_cons, spentAll_nil, Nat.min_self, evalK_un, un_not, Bool.not_true, Option.map_some, Bool.false_eq_true, rd_mv, takeV_slV, spent_mv, put_slV, evalK_fieldAddr, faV_cpc, List.getElem?_cons_zero, cpV_i, loadV_cp_i, evalK_conv, hu, evalK_buildSlice, dcells_i, List.reduceReplicate, Nat.reduceLT, fillD_cons, List.set_cons_zero, fillD_nil, wfs_cons, one_i, wf_one, wfs_nil, slO_some, put_osl, evalK_append, readV_osl, ha1, appO_some, hasK_call, hb, blockC_nrm, restrict_cons, restrict_nil, isC_c, Bool.or_true, rd_c, bin_add, hw, f_waferref5_EncodeCode_l0_in]
        exact ih
      · have e : encL ((k, y) :: L.drop (i + 1)) = ([k.toNat] ++ putV (zig y)) ++ encL (L.drop (i + 1)) := by simp [encL, encP, hb]
        have e2 : encP (k, y) = [k.toNat] ++ putV (zig y) := by simp [encP, hb]
        rw [e2] at hlen
        simp only [List.length_append] at hlen
        have ih := encR_loop hs hL h32 (H := H) n (i + 1) (acc ++ [k.toNat] ++ putV (zig y)) (by omega) (by omega) (by simp at hlen ⊢; omega)
        have hp := putVar_call (L := acc ++ [k.toNat]) (v := zig y) (H := H) (by simp; omega) (zig_lt y1 y2)
        have hz := zig_call (x := y) (H := H) y1 y2
        have h64 : wr .i64 y = y := wr_i64 (by omega) (by omega)
        rw [e, ← List.append_assoc, ← List.append_assoc]
        simp only [List.all_cons, hr, Bool.true_and]
        rw [f_waferref5_EncodeCode_l0_eq]
        simp only [f_waferref5_EncodeCode_B0, keepV_d, keepV_slV, exL_seq, exL_ops, runOps_n, evalK_mov, rd_t, reduceCtorEq, get_ne, Nat.reduceEqDiff, get_eq, readV_d, spent_t, opC_ok, put_d, evalK_lenL, hs.len, okS_some, evalK_bin, isC_t, Bool.or_self, bin_lss, hlt, decide_true, runOps_nil, thenC_nrm, exL_cond, condC_b, ↓reduceIte, exL_skip, exL_block, evalK_indexAddr, hx, put_cp, evalK_load, readV_cp, List.length_cons, List.length_nil, Nat.zero_add, Nat.reduceAdd, loadV_cp_agg, evalK_call, List.map_cons, List.map_nil, allLeave_cons, leaves_d, allLeave_nil, Bool.and_self, eCall_f, good_call', hr, callC_some, spentAll_cons, spentAll_nil, Nat.min_self, evalK_un, un_not, Bool.not_true, Option.map_some, Bool.false_eq_true, rd_mv, takeV_slV, spent_mv, put_slV, evalK_fieldAddr, faV_cpc, List.getElem?_cons_zero, cpV_i, loadV_cp_i, evalK_conv, hu, evalK_buildSlice, dcells_i, List.reduceReplicate, Nat.reduceLT, fillD_cons, List.set_cons_zero, fillD_nil, wfs_cons, one_i, wf_one, wfs_nil, slO_some, put_osl, evalK_append, readV_osl, ha1, appO_some, hasK_call, hb, List.getElem?_cons_succ, h64, hz, leaves_slV, hp, blockC_nrm, restrict_cons, restrict_nil, isC_c, Bool.or_true, rd_c, bin_add, hw, f_waferref5_EncodeCode_l0_in]
        exact ih

theorem encL_len : ∀ {L : List (Int × Int)}, (∀ p ∈ L, w32 p) → (encL L).length ≤ 11 * L.length
  | [], _ => by simp [encL]
  | p :: l, h => by
    have h1 := encP_len (h p (by simp))
    have h2 := encL_len (L := l) (fun q hq => h q (by simp [hq]))
    simp only [encL, List.length_append, List.length_cons]; omega
/-- What both ways of writing answer. -/
def encode (L : List (Int × Int)) : List Nat := putV L.length ++ encL L
theorem nil_slV : (.d .nil : V) = slV e8 [] := rfl
theorem encode_call {H : List Obj} {x : D} {L : List (Int × Int)} (hs : SlD eOp x L) (hL : L.length ≤ 1000) (h32 : ∀ p ∈ L, w32 p) :
    callL pg 9 [.d x] H = some ⟨false, true, bif L.all rightB then .tup [.d (slD e8 (encode L)), .d (.i .i64 0)] else .tup [.d .nil, .d (.i .i64 23)], H, H.length⟩ := by
  rw [callL_fn (fn := f_code_Encode) rfl rfl]
  have hp := put_call (L := []) (v := L.length) (H := H) (by simp) (by omega)
  rw [← nil_slV, List.nil_append] at hp
  have hw : wr .u64 (L.length : Int) = (L.length : Int) := wr_u64 (by omega) (by omega)
  have hlen := putV_le10 (v := L.length) (by omega)
  have hl := enc_loop hs hL h32 (H := H) L.length 0 (putV L.length) (by omega) (by omega) (by omega)
  rw [List.drop_zero, show ((0 : Nat) : Int) = 0 from rfl] at hl
  cases hr : L.all rightB
  · obtain ⟨e, h1, h2, h3⟩ := hl.2 hr
    simp only [f_code_Encode, argEnv_cons, Nat.zero_add, argEnv_nil, exL_seq, exL_ops, runOps_n, evalK_mov, rd_c, spent_c, opC_ok, put_d, runOps_nil, thenC_nrm, rd_t, reduceCtorEq, get_ne, get_eq, readV_d, spent_t, evalK_lenL, hs.len, okS_some, evalK_conv, hw, evalK_call, List.map_cons, List.map_nil, allLeave_cons, leaves_d, allLeave_nil, Bool.and_self, eCall_f, hp, callC_some, spentAll_cons, spentAll_nil, Nat.min_self, put_slV, rd_mv, takeV_slV, spent_mv, exL_block, f_code_Encode_l0_in, Nat.reduceEqDiff, keepV_slV, keepV_d, h1, thenC_ret, finC_ret, resultVs_cons, resultV_t, h2, ownV_d, h3, resultVs_nil, consO_some, leaveC_2, leaves_tup, oks_cons, ok_d, oks_nil, ref_tup, refs_cons, ref_d, refs_nil, Nat.max_self, settle_tup, leave_pure, cond_false]
  · have h1 := hl.1 hr
    simp only [f_code_Encode, f_code_Encode_R1, argEnv_cons, Nat.zero_add, argEnv_nil, exL_seq, exL_ops, runOps_n, evalK_mov, rd_c, spent_c, opC_ok, put_d, runOps_nil, thenC_nrm, rd_t, reduceCtorEq, get_ne, get_eq, readV_d, spent_t, evalK_lenL, hs.len, okS_some, evalK_conv, hw, evalK_call, List.map_cons, List.map_nil, allLeave_cons, leaves_d, allLeave_nil, Bool.and_self, eCall_f, hp, callC_some, spentAll_cons, spentAll_nil, Nat.min_self, put_slV, rd_mv, takeV_slV, spent_mv, exL_block, f_code_Encode_l0_in, Nat.reduceEqDiff, keepV_slV, keepV_d, h1, readV_slV, exL_ret, finC_ret, resultVs_cons, resultV_t, ownV_d, resultVs_nil, consO_some, leaveC_2, leaves_tup, oks_cons, ok_d, oks_nil, ref_tup, refs_cons, ref_d, refs_nil, Nat.max_self, settle_tup, leave_pure, encode, cond_true]
theorem encodeR_call {H : List Obj} {x : D} {L : List (Int × Int)} (hs : SlD eOp x L) (hL : L.length ≤ 1000) (h32 : ∀ p ∈ L, w32 p) :
    callL pg 10 [.d x] H = some ⟨false, true, bif L.all rightB then .tup [.d (slD e8 (encode L)), .d (.b true)] else .tup [.d .nil, .d (.b false)], H, H.length⟩ := by
  rw [callL_fn (fn := f_waferref5_EncodeCode) rfl rfl]
  have hp := putVar_call (L := []) (v := L.length) (H := H) (by simp) (by omega)
  rw [← nil_slV, List.nil_append] at hp
  have hw : wr .u64 (L.length : Int) = (L.length : Int) := wr_u64 (by omega) (by omega)
  have hlen := putV_le10 (v := L.length) (by omega)
  have hl := encR_loop hs hL h32 (H := H) L.length 0 (putV L.length) (by omega) (by omega) (by omega)
  rw [List.drop_zero, show ((0 : Nat) : Int) = 0 from rfl] at hl
  cases hr : L.all rightB
  · obtain ⟨e, h1, h2, h3⟩ := hl.2 hr
    simp only [f_waferref5_EncodeCode, argEnv_cons, Nat.zero_add, argEnv_nil, exL_seq, exL_ops, runOps_n, evalK_mov, rd_c, spent_c, opC_ok, put_d, runOps_nil, thenC_nrm, rd_t, reduceCtorEq, get_ne, get_eq, readV_d, spent_t, evalK_lenL, hs.len, okS_some, evalK_conv, hw, evalK_call, List.map_cons, List.map_nil, allLeave_cons, leaves_d, allLeave_nil, Bool.and_self, eCall_f, hp, callC_some, spentAll_cons, spentAll_nil, Nat.min_self, put_slV, rd_mv, takeV_slV, spent_mv, exL_block, f_waferref5_EncodeCode_l0_in, keepV_d, Nat.reduceEqDiff, keepV_slV, h1, thenC_ret, finC_ret, resultVs_cons, resultV_t, h2, ownV_d, h3, resultVs_nil, consO_some, leaveC_2, leaves_tup, oks_cons, ok_d, oks_nil, ref_tup, refs_cons, ref_d, refs_nil, Nat.max_self, settle_tup, leave_pure, cond_false]
  · have h1 := hl.1 hr
    simp only [f_waferref5_EncodeCode, f_waferref5_EncodeCode_R1, argEnv_cons, Nat.zero_add, argEnv_nil, exL_seq, exL_ops, runOps_n, evalK_mov, rd_c, spent_c, opC_ok, put_d, runOps_nil, thenC_nrm, rd_t, reduceCtorEq, get_ne, get_eq, readV_d, spent_t, evalK_lenL, hs.len, okS_some, evalK_conv, hw, evalK_call, List.map_cons, List.map_nil, allLeave_cons, leaves_d, allLeave_nil, Bool.and_self, eCall_f, hp, callC_some, spentAll_cons, spentAll_nil, Nat.min_self, put_slV, rd_mv, takeV_slV, spent_mv, exL_block, f_waferref5_EncodeCode_l0_in, keepV_d, Nat.reduceEqDiff, keepV_slV, h1, readV_slV, exL_ret, finC_ret, resultVs_cons, resultV_t, ownV_d, resultVs_nil, consO_some, leaveC_2, leaves_tup, oks_cons, ok_d, oks_nil, ref_tup, refs_cons, ref_d, refs_nil, Nat.max_self, settle_tup, leave_pure, encode, cond_true]
end W

set_option linter.unusedSimpArgs false
set_option linter.unusedVariables false
namespace W
open Go (IntKind BinOp UnOp)
set_option maxRecDepth 20000
theorem SlD.cut {α : Type} {e : α → D} {x : D} {L : List α} {z : Nat} (h : SlD e x L) (he : ∀ a, (e a).cells.length = z) {lo hi : Option Int} {l t : Nat} (h1 : lo.getD 0 = l) (h2 : hi.getD L.length = t) (h3 : l ≤ t) (h4 : t ≤ L.length) :
    ∃ y, sliceD z (.d x) lo hi = some (.d y) ∧ SlD e y ((L.take t).drop l) := by
  cases h with
  | nil =>
    have : t = 0 := by simpa using h4
    subst this
    have : l = 0 := by omega
    subst this
    refine ⟨.nil, ?_, .nil⟩
    have h2 : hi.getD 0 = 0 := h2
    have h1 : lo.getD 0 = 0 := h1
    simp [sliceD, cutD, leI_d, h1, h2]
  | sl =>
    refine ⟨.sl ((((L.map e).take t).drop l)), ?_, ?_⟩
    · simp only [sliceD, headIs_map he, cond_true, List.length_map, cutD, leI_d, h1, h2]
      simp [h3, h4]
    · rw [← List.map_take, ← List.map_drop]; exact .sl _
/-- A number read. -/
def rdB (i acc : Nat) : List Nat → Option (Nat × Nat)
  | [] => none
  | c :: l => if (i = 9 ∧ 1 < c) ∨ (0 < i ∧ c = 0) then none else if c < 128 then some (acc + c % 128 * 2 ^ (7 * i), i + 1) else rdB (i + 1) (acc + c % 128 * 2 ^ (7 * i)) l
def rdV : Option (Nat × Nat) → Int | none => 0 | some p => (p.1 : Int)
def rdN : Option (Nat × Nat) → Int | none => 0 | some p => (p.2 : Int)
theorem and_127 {c : Nat} (h : c < 256) : andI .u8 (c : Int) 127 = ((c % 128 : Nat) : Int) := by
  have key : ∀ m : Fin 256, andI .u8 ((m.val : Nat) : Int) 127 = ((m.val % 128 : Nat) : Int) := by decide +kernel
  exact key ⟨c, h⟩
theorem or_at {acc d i : Nat} (h1 : acc < 2 ^ (7 * i)) (h2 : d < 128) (h3 : i < 9 ∨ (i = 9 ∧ d ≤ 1)) :
    orI .u64 (acc : Int) (wr .u64 ((d : Int) * 2 ^ (min ((7 * i : Nat) : Int).toNat (IntKind.bits .u64)))) = ((acc + d * 2 ^ (7 * i) : Nat) : Int) ∧ acc + d * 2 ^ (7 * i) < 2 ^ 64 ∧ (i < 9 → acc + d * 2 ^ (7 * i) < 2 ^ (7 * (i + 1))) := by
  have e1 : min ((7 * i : Nat) : Int).toNat (IntKind.bits .u64) = 7 * i := by show min _ 64 = _; omega
  have e3 : i < 9 → acc + d * 2 ^ (7 * i) < 2 ^ (7 * (i + 1)) := fun _ => by
    have : 2 ^ (7 * (i + 1)) = 128 * 2 ^ (7 * i) := by rw [show 7 * (i + 1) = 7 + 7 * i by omega, Nat.pow_add]
    rw [this]
    have : d * 2 ^ (7 * i) ≤ 127 * 2 ^ (7 * i) := Nat.mul_le_mul_right _ (by omega)
    omega
  have e2 : acc + d * 2 ^ (7 * i) < 2 ^ 64 := by
    rcases h3 with h | ⟨rfl, hd⟩
    · have := e3 h
      have : 2 ^ (7 * (i + 1)) ≤ 2 ^ 64 := Nat.pow_le_pow_right (by omega) (by omega)
      omega
    · have : d * 2 ^ (7 * 9) ≤ 1 * 2 ^ (7 * 9) := Nat.mul_le_mul_right _ hd
      omega
  refine ⟨?_, e2, e3⟩
  rw [e1]
  have e4 : ((d : Int) * 2 ^ (7 * i)) = ((d * 2 ^ (7 * i) : Nat) : Int) := by push_cast; rfl
  rw [e4, wr_u64 (by omega) (by omega)]
  unfold orI
  show IntKind.wrap .u64 ((BitVec.ofInt 64 (acc : Int) ||| BitVec.ofInt 64 ((d * 2 ^ (7 * i) : Nat) : Int)).toNat : Int) = _
  have e : (BitVec.ofInt 64 (acc : Int) ||| BitVec.ofInt 64 ((d * 2 ^ (7 * i) : Nat) : Int)).toNat = acc + d * 2 ^ (7 * i) := by
    rw [BitVec.toNat_or, BitVec.toNat_ofInt, BitVec.toNat_ofInt]
    have f1 : ((acc : Int) % ((2 ^ 64 : Nat) : Int)).toNat = acc := by omega
    have f2 : (((d * 2 ^ (7 * i) : Nat) : Int) % ((2 ^ 64 : Nat) : Int)).toNat = d * 2 ^ (7 * i) := by omega
    rw [f1, f2, Nat.or_comm]
    have := Nat.two_pow_add_eq_or_of_lt (i := 7 * i) (b := acc) h1 d
    rw [Nat.mul_comm] at this
    omega
  rw [e, wrap_u64 _ (by omega)]
theorem read_loop {H : List Obj} {y : D} {Y : List Nat} (hs : SlD e8 y Y) (hY : Y.length ≤ 10) (hb : ∀ c ∈ Y, c < 256) : ∀ (n i acc : Nat), Y.length - i = n → i ≤ Y.length → acc < 2 ^ (7 * i) → acc < 2 ^ 64 →
    ∃ e, thenC pg (blockC 0 [] (f_varint_Read_l0 pg (.d (.i .u64 (acc : Int))) (.d y) (.d (.i .i64 (Y.length : Nat))) (.d (.i .i64 (i : Nat))) H H.length)) f_varint_Read_R1 = some (.ret, ⟨e, H, H.length⟩) ∧
      get 2 e = .d (.i .u64 (rdV (rdB i acc (Y.drop i)))) ∧ get 3 e = .d (.i .i64 (rdN (rdB i acc (Y.drop i)))) ∧ get 4 e = .d (.b (rdB i acc (Y.drop i)).isSome)
  | 0, i, acc, hn, hi, ha, _ => by
    have hd : Y.drop i = [] := List.drop_eq_nil_of_le (by omega)
    rw [hd]
    have hlt : ((i : Int) < (Y.length : Int)) = False := by rw [eq_iff_iff]; simp; omega
    rw [f_varint_Read_l0_eq]
    simp only [f_varint_Read_B0, keepV_d, exL_seq, exL_ops, runOps_n, evalK_bin, isC_t, Bool.or_self, rd_t, Nat.reduceEqDiff, get_ne, get_eq, readV_d, bin_lss, hlt, decide_false, okS_some, opC_ok, put_d, runOps_nil, thenC_nrm, exL_cond, condC_b, Bool.false_eq_true, ↓reduceIte, exL_exit, thenC_exit, blockC_exit, restrict_nil, f_varint_Read_R1, evalK_mov, rd_c, spent_c, exL_ret, rdV, rdB, rdN]
    exact ⟨_, rfl, rfl, rfl, rfl⟩
  | n + 1, i, acc, hn, hi, ha, ha2 => by
    have hlt : ((i : Int) < (Y.length : Int)) = True := by rw [eq_iff_iff]; simp; omega
    obtain ⟨c, hy⟩ : ∃ p, Y[i]? = some p := ⟨Y[i]'(by omega), by simp⟩
    have hd := drop_at hy
    have hx := hs.ix (k := .i64) (e8_cells _) hy
    have hc := hb c (List.mem_of_getElem? hy)
    simp only [e8] at hx
    have hw : wr .i64 ((i : Int) + 1) = ((i + 1 : Nat) : Int) := by rw [wr_i64 (by omega) (by omega)]; omega
    have h7 : wr .i64 (7 * (i : Int)) = ((7 * i : Nat) : Int) := by rw [wr_i64 (by omega) (by omega)]; omega
    have h8 : wr .u64 ((7 * i : Nat) : Int) = ((7 * i : Nat) : Int) := wr_u64 (by omega) (by omega)
    have h9 : wr .u64 ((c % 128 : Nat) : Int) = ((c % 128 : Nat) : Int) := wr_u64 (by omega) (by omega)
    have ha7 := and_127 hc
    have hge : ((0 : Int) ≤ ((7 * i : Nat) : Int)) = True := eq_true (by omega)
    rw [hd]
    by_cases q1 : (i : Int) = 9
    · have r1 := eq_true q1
      by_cases q2 : (1 : Int) < (c : Int)
      · have r2 := eq_true q2
        rw [show rdB i acc (c :: Y.drop (i + 1)) = none by rw [rdB, if_pos (by omega)]]
        rw [f_varint_Read_l0_eq]
        simp only [f_varint_Read_B0, keepV_d, exL_seq, exL_ops, runOps_n, evalK_bin, isC_t, Bool.or_self, rd_t, Nat.reduceEqDiff, get_ne, get_eq, readV_d, bin_lss, hlt, decide_true, okS_some, opC_ok, put_d, runOps_nil, thenC_nrm, exL_cond, condC_b, ↓reduceIte, exL_skip, exL_block, evalK_mov, spent_t, evalK_indexAddr, hx, put_cp, evalK_load, readV_cp, loadV_cp_i, isC_c, Bool.or_true, rd_c, bin_eql, r1, runOps_g, wantG_bt, wantC_b, bin_gtr, r2, evalK_pick, pickV_b, wantG_bf, Bool.not_true, Bool.false_eq_true, put_tup, wantG_t, readV_tup, pickV_t, spent_c, exL_ret, thenC_ret, blockC_ret, rdV, rdN, Option.isSome_none]
        exact ⟨_, rfl, rfl, rfl, rfl⟩
      · have r2 := eq_false q2
        by_cases q4 : (c : Int) = 0
        · have r4 := eq_true q4
          have q3 : (0 : Int) < (i : Int) := by omega
          have r3 := eq_true q3
          rw [show rdB i acc (c :: Y.drop (i + 1)) = none by rw [rdB, if_pos (by omega)]]
          rw [f_varint_Read_l0_eq]
          simp only [f_varint_Read_B0, keepV_d, exL_seq, exL_ops, runOps_n, evalK_bin, isC_t, Bool.or_self, rd_t, Nat.reduceEqDiff, get_ne, get_eq, readV_d, bin_lss, hlt, decide_true, okS_some, opC_ok, put_d, runOps_nil, thenC_nrm, exL_cond, condC_b, ↓reduceIte, exL_skip, exL_block, evalK_mov, spent_t, evalK_indexAddr, hx, put_cp, evalK_load, readV_cp, loadV_cp_i, isC_c, Bool.or_true, rd_c, bin_eql, r1, runOps_g, wantG_bt, wantC_b, bin_gtr, r2, decide_false, evalK_pick, pickV_b, wantG_bf, Bool.not_false, r3, r4, Bool.false_eq_true, spent_c, exL_ret, thenC_ret, blockC_ret, rdV, rdN, Option.isSome_none]
          exact ⟨_, rfl, rfl, rfl, rfl⟩
        · have r4 := eq_false q4
          have q3 : (0 : Int) < (i : Int) := by omega
          have r3 := eq_true q3
          have q5 : (c : Int) < 128 := by omega
          have r5 := eq_true q5
          obtain ⟨o1, o2, o3⟩ := or_at (acc := acc) (d := c % 128) (i := i) ha (by omega) (by omega)
          rw [show rdB i acc (c :: Y.drop (i + 1)) = some (acc + c % 128 * 2 ^ (7 * i), i + 1) by rw [rdB, if_neg (by omega), if_pos (by omega)]]
          rw [f_varint_Read_l0_eq]
          simp only [f_varint_Read_B0, keepV_d, exL_seq, exL_ops, runOps_n, evalK_bin, isC_t, Bool.or_self, rd_t, Nat.reduceEqDiff, get_ne, get_eq, readV_d, bin_lss, hlt, decide_true, okS_some, opC_ok, put_d, runOps_nil, thenC_nrm, exL_cond, condC_b, ↓reduceIte, exL_skip, exL_block, evalK_mov, spent_t, evalK_indexAddr, hx, put_cp, evalK_load, readV_cp, loadV_cp_i, isC_c, Bool.or_true, rd_c, bin_eql, r1, runOps_g, wantG_bt, wantC_b, bin_gtr, r2, decide_false, evalK_pick, pickV_b, wantG_bf, Bool.not_false, r3, r4, Bool.false_eq_true, bin_and, ha7, evalK_conv, h9, Bool.or_false, bin_mul, h7, h8, hge, bin_shl, bin_or, o1, r5, bin_add, hw, spent_c, exL_ret, blockC_ret, thenC_ret, rdV, rdN, Option.isSome_some]
          exact ⟨_, rfl, rfl, rfl, rfl⟩
    · have r1 := eq_false q1
      by_cases q3 : (0 : Int) < (i : Int)
      · have r3 := eq_true q3
        by_cases q4 : (c : Int) = 0
        · have r4 := eq_true q4
          rw [show rdB i acc (c :: Y.drop (i + 1)) = none by rw [rdB, if_pos (by omega)]]
          rw [f_varint_Read_l0_eq]
          simp only [f_varint_Read_B0, keepV_d, exL_seq, exL_ops, runOps_n, evalK_bin, isC_t, Bool.or_self, rd_t, Nat.reduceEqDiff, get_ne, get_eq, readV_d, bin_lss, hlt, decide_true, okS_some, opC_ok, put_d, runOps_nil, thenC_nrm, exL_cond, condC_b, ↓reduceIte, exL_skip, exL_block, evalK_mov, spent_t, evalK_indexAddr, hx, put_cp, evalK_load, readV_cp, loadV_cp_i, isC_c, Bool.or_true, rd_c, bin_eql, r1, decide_false, runOps_g, wantG_bt, wantC_b, Bool.false_eq_true, put_tup, evalK_pick, readV_tup, pickV_f, wantG_bf, Bool.not_false, bin_gtr, r3, r4, pickV_b, spent_c, exL_ret, thenC_ret, blockC_ret, rdV, rdN, Option.isSome_none]
          exact ⟨_, rfl, rfl, rfl, rfl⟩
        · have r4 := eq_false q4
          by_cases q5 : (c : Int) < 128
          · have r5 := eq_true q5
            obtain ⟨o1, o2, o3⟩ := or_at (acc := acc) (d := c % 128) (i := i) ha (by omega) (by omega)
            rw [show rdB i acc (c :: Y.drop (i + 1)) = some (acc + c % 128 * 2 ^ (7 * i), i + 1) by rw [rdB, if_neg (by omega), if_pos (by omega)]]
            rw [f_varint_Read_l0_eq]
            simp only [f_varint_Read_B0, keepV_d, exL_seq, exL_ops, runOps_n, evalK_bin, isC_t, Bool.or_self, rd_t, Nat.reduceEqDiff, get_ne, get_eq, readV_d, bin_lss, hlt, decide_true, okS_some, opC_ok, put_d, runOps_nil, thenC_nrm, exL_cond, condC_b, ↓reduceIte, exL_skip, exL_block, evalK_mov, spent_t, evalK_indexAddr, hx, put_cp, evalK_load, readV_cp, loadV_cp_i, isC_c, Bool.or_true, rd_c, bin_eql, r1, decide_false, runOps_g, wantG_bt, wantC_b, Bool.false_eq_true, put_tup, evalK_pick, readV_tup, pickV_f, wantG_bf, Bool.not_false, bin_gtr, r3, r4, pickV_b, bin_and, ha7, evalK_conv, h9, Bool.or_false, bin_mul, h7, h8, hge, bin_shl, bin_or, o1, r5, bin_add, hw, spent_c, exL_ret, blockC_ret, thenC_ret, rdV, rdN, Option.isSome_some]
            exact ⟨_, rfl, rfl, rfl, rfl⟩
          · have r5 := eq_false q5
            obtain ⟨o1, o2, o3⟩ := or_at (acc := acc) (d := c % 128) (i := i) ha (by omega) (by omega)
            rw [show rdB i acc (c :: Y.drop (i + 1)) = rdB (i + 1) (acc + c % 128 * 2 ^ (7 * i)) (Y.drop (i + 1)) by rw [rdB, if_neg (by omega), if_neg (by omega)]]
            have ih := read_loop hs hY hb (H := H) n (i + 1) (acc + c % 128 * 2 ^ (7 * i)) (by omega) (by omega) (o3 (by omega)) o2
            rw [f_varint_Read_l0_eq]
            simp only [f_varint_Read_B0, keepV_d, exL_seq, exL_ops, runOps_n, evalK_bin, isC_t, Bool.or_self, rd_t, Nat.reduceEqDiff, get_ne, get_eq, readV_d, bin_lss, hlt, decide_true, okS_some, opC_ok, put_d, runOps_nil, thenC_nrm, exL_cond, condC_b, ↓reduceIte, exL_skip, exL_block, evalK_mov, spent_t, evalK_indexAddr, hx, put_cp, evalK_load, readV_cp, loadV_cp_i, isC_c, Bool.or_true, rd_c, bin_eql, r1, decide_false, runOps_g, wantG_bt, wantC_b, Bool.false_eq_true, put_tup, evalK_pick, readV_tup, pickV_f, wantG_bf, Bool.not_false, bin_gtr, r3, r4, pickV_b, bin_and, ha7, evalK_conv, h9, Bool.or_false, bin_mul, h7, h8, hge, bin_shl, bin_or, o1, r5, blockC_nrm, restrict_cons, restrict_nil, bin_add, hw, f_varint_Read_l0_in]
            exact ih
      · have r3 := eq_false q3
        by_cases q5 : (c : Int) < 128
        · have r5 := eq_true q5
          obtain ⟨o1, o2, o3⟩ := or_at (acc := acc) (d := c % 128) (i := i) ha (by omega) (by omega)
          rw [show rdB i acc (c :: Y.drop (i + 1)) = some (acc + c % 128 * 2 ^ (7 * i), i + 1) by rw [rdB, if_neg (by omega), if_pos (by omega)]]
          rw [f_varint_Read_l0_eq]
          simp only [f_varint_Read_B0, keepV_d, exL_seq, exL_ops, runOps_n, evalK_bin, isC_t, Bool.or_self, rd_t, Nat.reduceEqDiff, get_ne, get_eq, readV_d, bin_lss, hlt, decide_true, okS_some, opC_ok, put_d, runOps_nil, thenC_nrm, exL_cond, condC_b, ↓reduceIte, exL_skip, exL_block, evalK_mov, spent_t, evalK_indexAddr, hx, put_cp, evalK_load, readV_cp, loadV_cp_i, isC_c, Bool.or_true, rd_c, bin_eql, r1, decide_false, runOps_g, wantG_bt, wantC_b, Bool.false_eq_true, put_tup, evalK_pick, readV_tup, pickV_f, wantG_bf, Bool.not_false, bin_gtr, r3, pickV_b, bin_and, ha7, evalK_conv, h9, Bool.or_false, bin_mul, h7, h8, hge, bin_shl, bin_or, o1, r5, bin_add, hw, spent_c, exL_ret, blockC_ret, thenC_ret, rdV, rdN, Option.isSome_some]
          exact ⟨_, rfl, rfl, rfl, rfl⟩
        · have r5 := eq_false q5
          obtain ⟨o1, o2, o3⟩ := or_at (acc := acc) (d := c % 128) (i := i) ha (by omega) (by omega)
          rw [show rdB i acc (c :: Y.drop (i + 1)) = rdB (i + 1) (acc + c % 128 * 2 ^ (7 * i)) (Y.drop (i + 1)) by rw [rdB, if_neg (by omega), if_neg (by omega)]]
          have ih := read_loop hs hY hb (H := H) n (i + 1) (acc + c % 128 * 2 ^ (7 * i)) (by omega) (by omega) (o3 (by omega)) o2
          rw [f_varint_Read_l0_eq]
          simp only [f_varint_Read_B0, keepV_d, exL_seq, exL_ops, runOps_n, evalK_bin, isC_t, Bool.or_self, rd_t, Nat.reduceEqDiff, get_ne, get_eq, readV_d, bin_lss, hlt, decide_true, okS_some, opC_ok, put_d, runOps_nil, thenC_nrm, exL_cond, condC_b, ↓reduceIte, exL_skip, exL_block, evalK_mov, spent_t, evalK_indexAddr, hx, put_cp, evalK_load, readV_cp, loadV_cp_i, isC_c, Bool.or_true, rd_c, bin_eql, r1, decide_false, runOps_g, wantG_bt, wantC_b, Bool.false_eq_true, put_tup, evalK_pick, readV_tup, pickV_f, wantG_bf, Bool.not_false, bin_gtr, r3, pickV_b, bin_and, ha7, evalK_conv, h9, Bool.or_false, bin_mul, h7, h8, hge, bin_shl, bin_or, o1, r5, blockC_nrm, restrict_cons, restrict_nil, bin_add, hw, f_varint_Read_l0_in]
          exact ih
/-- What Read answers. -/
def readOf (B : List Nat) : Option (Nat × Nat) := rdB 0 0 (B.take 10)
theorem read_call {H : List Obj} {x : D} {B : List Nat} (hs : SlD e8 x B) (hb : ∀ c ∈ B, c < 256) : callL pg 23 [.d x] H = some ⟨false, true, .tup [.d (.i .u64 (rdV (readOf B))), .d (.i .i64 (rdN (readOf B))), .d (.b (readOf B).isSome)], H, H.length⟩ := by
  rw [callL_fn (fn := f_varint_Read) rfl rfl]
  obtain ⟨y, hy, hY⟩ := hs.cut (z := 1) e8_cells (lo := none) (hi := some (if (10 : Int) < (B.length : Int) then 10 else (B.length : Int))) (l := 0) (t := min B.length 10) rfl (by simp only [Option.getD_some]; split <;> omega) (by omega) (by omega)
  rw [List.drop_zero, show B.take (min B.length 10) = B.take 10 by rw [Nat.min_comm, ← List.take_take, List.take_length]] at hY
  obtain ⟨e, h1, h2, h3, h4⟩ := read_loop (H := H) hY (by simp; omega) (fun c hc => hb c (List.mem_of_mem_take hc)) _ 0 0 rfl (by omega) (by omega) (by omega)
  rw [show ((0 : Nat) : Int) = 0 from rfl] at h1
  rw [List.drop_zero] at h2 h3 h4
  simp only [f_varint_Read, argEnv_cons, Nat.zero_add, argEnv_nil, exL_seq, exL_ops, runOps_n, evalK_mov, rd_c, spent_c, opC_ok, put_d, runOps_nil, thenC_nrm, rd_t, reduceCtorEq, get_ne, get_eq, readV_d, spent_t, evalK_lenL, hs.len, okS_some, evalK_min, List.map_cons, List.map_nil, minD_2, evalK_sliceL, Nat.reduceEqDiff, optInt_none, optInt_some, oInt_i, cut2_some, hy, hY.len, exL_block, f_varint_Read_l0_in, keepV_d, h1, finC_ret, resultVs_cons, resultV_t, h2, ownV_d, h3, h4, resultVs_nil, consO_some, leaveC_2, leaves_tup, oks_cons, ok_d, oks_nil, Bool.and_self, ref_tup, refs_cons, ref_d, refs_nil, Nat.max_self, settle_tup, leave_pure, readOf]
end W

set_option linter.unusedSimpArgs false
set_option linter.unusedVariables false
namespace W
open Go (IntKind BinOp UnOp)
set_option maxRecDepth 20000
theorem rdB_putV {R : List Nat} : ∀ (f v i acc : Nat), v ≤ f → i ≤ 9 → v < 2 ^ (64 - 7 * i) → (0 < i → v ≠ 0) → rdB i acc ((putV v ++ R).take (10 - i)) = some (acc + v * 2 ^ (7 * i), i + (putV v).length)
  | f, v, i, acc, hf, hi, hv, h0 => by
    obtain ⟨k, hk⟩ : ∃ k, 10 - i = k + 1 := ⟨9 - i, by omega⟩
    by_cases h : v ≤ 127
    · rw [putV_small h, hk, List.cons_append, List.take_succ_cons, rdB, if_neg, if_pos (by omega), Nat.mod_eq_of_lt (by omega)]
      · rfl
      · rintro (⟨rfl, h1⟩ | ⟨h1, h2⟩)
        · simp at hv; omega
        · exact h0 h1 h2
    · match f with
      | 0 => omega
      | f + 1 =>
        have h9 : i ≠ 9 := by rintro rfl; simp at hv; omega
        have e1 : 2 ^ (64 - 7 * i) = 128 * 2 ^ (64 - 7 * (i + 1)) := by
          rw [show 64 - 7 * i = 7 + (64 - 7 * (i + 1)) by omega, Nat.pow_add]
        have ih := rdB_putV (R := R) f (v / 128) (i + 1) (acc + v % 128 * 2 ^ (7 * i)) (by omega) (by omega) (by rw [e1] at hv; exact Nat.div_lt_of_lt_mul hv) (by intro _; omega)
        rw [putV_great h, hk, List.cons_append, List.take_succ_cons, rdB, if_neg (by omega), if_neg (by omega), show (v % 128 + 128) % 128 = v % 128 by omega, show k = 10 - (i + 1) by omega, ih]
        have e2 : 2 ^ (7 * (i + 1)) = 128 * 2 ^ (7 * i) := by rw [show 7 * (i + 1) = 7 + 7 * i by omega, Nat.pow_add]
        rw [e2]
        congr 2
        · have : v * 2 ^ (7 * i) = (v % 128 + 128 * (v / 128)) * 2 ^ (7 * i) := by rw [Nat.mod_add_div]
          rw [this, Nat.add_mul, Nat.add_assoc, ← Nat.mul_assoc, Nat.mul_comm (v / 128) 128]
        · simp; omega
theorem readOf_putV {v : Nat} {R : List Nat} (h : v < 2 ^ 64) : readOf (putV v ++ R) = some (v, (putV v).length) := by
  have := rdB_putV (R := R) v v 0 0 (Nat.le_refl _) (by omega) (by simpa using h) (by intro h; omega)
  simpa [readOf] using this
def zag (u : Nat) : Int := if u % 2 = 0 then ((u / 2 : Nat) : Int) else -((u / 2 : Nat) : Int) - 1
theorem zag_zig (x : Int) : zag (zig x) = x := by unfold zag zig; split <;> split <;> omega
theorem and_1 {u : Nat} (h : u < 2 ^ 64) : andI .u64 (u : Int) 1 = ((u % 2 : Nat) : Int) := by
  unfold andI
  show IntKind.wrap .u64 ((BitVec.ofInt 64 (u : Int) &&& BitVec.ofInt 64 1).toNat : Int) = _
  have e : (BitVec.ofInt 64 (u : Int) &&& BitVec.ofInt 64 1).toNat = u % 2 := by
    rw [BitVec.toNat_and, BitVec.toNat_ofInt, BitVec.toNat_ofInt]
    have f1 : ((u : Int) % ((2 ^ 64 : Nat) : Int)).toNat = u := by omega
    have f2 : ((1 : Int) % ((2 ^ 64 : Nat) : Int)).toNat = 1 := by omega
    rw [f1, f2, Nat.and_one_is_mod]
  rw [e, wrap_u64 _ (by omega)]
theorem wrap_i64 (n : Nat) (h : n < 9223372036854775808) : IntKind.wrap .i64 (n : Int) = (n : Int) := by
  simp [IntKind.wrap, IntKind.bits, IntKind.signed]; omega
theorem wrap_i64' (n : Nat) (h : 9223372036854775808 ≤ n) (h2 : n < 18446744073709551616) : IntKind.wrap .i64 (n : Int) = (n : Int) - 18446744073709551616 := by
  simp [IntKind.wrap, IntKind.bits, IntKind.signed]; omega
theorem xors_0 {a : Nat} (h2 : a < 9223372036854775808) : xorI .i64 (a : Int) 0 = (a : Int) := by
  unfold xorI
  show IntKind.wrap .i64 ((BitVec.ofInt 64 (a : Int) ^^^ BitVec.ofInt 64 0).toNat : Int) = a
  rw [show BitVec.ofInt 64 (0 : Int) = 0#64 from by decide]
  rw [BitVec.xor_zero, BitVec.toNat_ofInt]
  have f1 : ((a : Int) % ((2 ^ 64 : Nat) : Int)).toNat = a := by omega
  rw [f1, wrap_i64 _ (by omega)]
theorem xors_1 {a : Nat} (h2 : a < 9223372036854775808) : xorI .i64 (a : Int) (-1) = -(a : Int) - 1 := by
  unfold xorI
  show IntKind.wrap .i64 ((BitVec.ofInt 64 (a : Int) ^^^ BitVec.ofInt 64 (-1)).toNat : Int) = _
  rw [show BitVec.ofInt 64 (-1 : Int) = BitVec.allOnes 64 from by decide]
  rw [BitVec.xor_allOnes, BitVec.toNat_not, BitVec.toNat_ofInt]
  have f1 : ((a : Int) % ((2 ^ 64 : Nat) : Int)).toNat = a := by omega
  rw [f1, wrap_i64' _ (by omega) (by omega)]
  omega
theorem rdB_lt : ∀ (l : List Nat) (i acc : Nat), acc < 2 ^ (7 * i) → i ≤ 9 → ∀ p, rdB i acc l = some p → p.1 < 2 ^ 64
  | [], i, acc, _, _, p, h => by simp [rdB] at h
  | c :: l, i, acc, ha, hi, p, h => by
    rw [rdB] at h
    by_cases h1 : (i = 9 ∧ 1 < c) ∨ (0 < i ∧ c = 0)
    · rw [if_pos h1] at h; simp at h
    · rw [if_neg h1] at h
      by_cases h2 : c < 128
      · rw [if_pos h2] at h
        obtain ⟨_, o2, _⟩ := or_at (acc := acc) (d := c % 128) (i := i) ha (by omega) (by omega)
        simp only [Option.some.injEq] at h
        rw [← h]; exact o2
      · rw [if_neg h2] at h
        by_cases h9 : i = 9
        · omega
        · obtain ⟨_, _, o3⟩ := or_at (acc := acc) (d := c % 128) (i := i) ha (by omega) (by omega)
          exact rdB_lt l (i + 1) _ (o3 (by omega)) (by omega) p h
theorem readOf_lt {B : List Nat} {p : Nat × Nat} (h : readOf B = some p) : p.1 < 2 ^ 64 := rdB_lt _ 0 0 (by omega) (by omega) p h
theorem rdV_eq (B : List Nat) : ∃ u : Nat, rdV (readOf B) = (u : Int) ∧ u < 2 ^ 64 := by
  cases h : readOf B with
  | none => exact ⟨0, rfl, by omega⟩
  | some p => exact ⟨p.1, rfl, readOf_lt h⟩
def zagV : Option (Nat × Nat) → Int | none => 0 | some p => zag p.1
theorem readInt_call {H : List Obj} {x : D} {B : List Nat} (hs : SlD e8 x B) (hb : ∀ c ∈ B, c < 256) : callL pg 33 [.d x] H = some ⟨false, true, .tup [.d (.i .i64 (zagV (readOf B))), .d (.i .i64 (rdN (readOf B))), .d (.b (readOf B).isSome)], H, H.length⟩ := by
  rw [callL_fn (fn := f_varint_ReadInt) rfl rfl]
  have hr := read_call (H := H) hs hb
  obtain ⟨u, hu, hu2⟩ := rdV_eq B
  have hz : zagV (readOf B) = zag u := by
    cases h : readOf B with
    | none => rw [h] at hu; simp only [rdV] at hu; have : u = 0 := by omega
              rw [this]; rfl
    | some p => rw [h] at hu; simp only [rdV] at hu; have : u = p.1 := by omega
                rw [this]; rfl
  rw [hz]
  rw [hu] at hr
  have e1 : Int.fdiv (u : Int) (2 ^ (min (1 : Int).toNat (IntKind.bits .u64))) = ((u / 2 : Nat) : Int) := by
    show Int.fdiv (u : Int) (2 ^ 1) = _
    rw [Int.fdiv_eq_ediv_of_nonneg _ (by omega)]; omega
  have e2 : wr .i64 ((u / 2 : Nat) : Int) = ((u / 2 : Nat) : Int) := wr_i64 (by omega) (by omega)
  have e3 := and_1 hu2
  by_cases h : u % 2 = 0
  · have e4 : wr .i64 ((u % 2 : Nat) : Int) = 0 := by rw [h]; rfl
    have e5 : wr .i64 (0 - 0) = 0 := rfl
    have e6 : xorI .i64 ((u / 2 : Nat) : Int) 0 = zag u := by rw [xors_0 (by omega), zag, if_pos h]
    simp only [f_varint_ReadInt, argEnv_cons, Nat.zero_add, argEnv_nil, exL_seq, exL_ops, runOps_n, evalK_mov, rd_c, spent_c, opC_ok, put_d, runOps_nil, thenC_nrm, rd_mv, reduceCtorEq, get_ne, get_eq, takeV_d, spent_mv, evalK_call, List.map_cons, List.map_nil, allLeave_cons, leaves_d, allLeave_nil, Bool.and_self, eCall_f, hr, callC_some, spentAll_cons, spentAll_nil, Nat.min_self, put_tup, rd_t, readV_tup, spent_t, evalK_extract, extV_0, copy_d, okS_some, Nat.reduceEqDiff, extV_1, extV_2, readV_d, evalK_bin, isC_t, isC_c, Bool.or_true, Int.reduceLE, bin_shr, e1, evalK_conv, e2, bin_and, e3, e4, evalK_un, un_neg, Int.sub_self, Int.reduceNeg, wr_i64, Option.map_some, Bool.or_self, bin_xor, e6, exL_ret, finC_ret, resultVs_cons, resultV_t, ownV_d, resultVs_nil, consO_some, leaveC_2, leaves_tup, oks_cons, ok_d, oks_nil, ref_tup, refs_cons, ref_d, refs_nil, Nat.max_self, settle_tup, leave_pure]
  · have e4 : wr .i64 ((u % 2 : Nat) : Int) = 1 := by rw [show u % 2 = 1 by omega]; rfl
    have e5 : wr .i64 (0 - 1) = -1 := rfl
    have e5' : wr .i64 (-1) = -1 := rfl
    have e6 : xorI .i64 ((u / 2 : Nat) : Int) (-1) = zag u := by rw [xors_1 (by omega), zag, if_neg h]
    simp only [f_varint_ReadInt, argEnv_cons, Nat.zero_add, argEnv_nil, exL_seq, exL_ops, runOps_n, evalK_mov, rd_c, spent_c, opC_ok, put_d, runOps_nil, thenC_nrm, rd_mv, reduceCtorEq, get_ne, get_eq, takeV_d, spent_mv, evalK_call, List.map_cons, List.map_nil, allLeave_cons, leaves_d, allLeave_nil, Bool.and_self, eCall_f, hr, callC_some, spentAll_cons, spentAll_nil, Nat.min_self, put_tup, rd_t, readV_tup, spent_t, evalK_extract, extV_0, copy_d, okS_some, Nat.reduceEqDiff, extV_1, extV_2, readV_d, evalK_bin, isC_t, isC_c, Bool.or_true, Int.reduceLE, bin_shr, e1, evalK_conv, e2, bin_and, e3, e4, evalK_un, un_neg, Int.reduceSub, e5', Int.reduceNeg, Option.map_some, Bool.or_self, bin_xor, e6, exL_ret, finC_ret, resultVs_cons, resultV_t, ownV_d, resultVs_nil, consO_some, leaveC_2, leaves_tup, oks_cons, ok_d, oks_nil, ref_tup, refs_cons, ref_d, refs_nil, Nat.max_self, settle_tup, leave_pure]
end W

set_option linter.unusedSimpArgs false
set_option linter.unusedVariables false
namespace W
open Go (IntKind BinOp UnOp)
set_option maxRecDepth 20000
def is32 (x : Int) : Bool := decide (-2147483648 ≤ x) && decide (x ≤ 2147483647)
/-- One op read, and its bytes. -/
def oneOf : List Nat → Option ((Int × Int) × Nat)
  | [] => none
  | c :: R => if 34 ≤ c then none else bif hasB c then match readOf R with
      | none => none
      | some (u, n) => bif is32 (zag u) then some (((c : Int), zag u), 1 + n) else none
    else some (((c : Int), 0), 1)
def oneP : Option ((Int × Int) × Nat) → Int × Int | none => (0, 0) | some p => p.1
def oneN : Option ((Int × Int) × Nat) → Int | none => 0 | some p => (p.2 : Int)
theorem wr_32 {x : Int} (h : -9223372036854775808 ≤ x) (h' : x ≤ 9223372036854775807) : (x = wr .i64 (wr .i32 x)) ↔ is32 x = true := by
  have hb : -2147483648 ≤ wr .i32 x ∧ wr .i32 x ≤ 2147483647 := by
    rw [wr_eq]; simp only [IntKind.wrap, IntKind.bits, IntKind.signed]; simp; omega
  rw [wr_i64 (x := wr .i32 x) (by omega) (by omega)]
  constructor
  · intro e; rw [e]; simp [is32]; exact hb
  · intro e; simp [is32] at e; rw [wr_i32 e.1 e.2]
theorem zag_lt {u : Nat} (h : u < 2 ^ 64) : -9223372036854775808 ≤ zag u ∧ zag u ≤ 9223372036854775807 := by unfold zag; split <;> omega
theorem readOf_n {B : List Nat} {p : Nat × Nat} (h : readOf B = some p) : p.2 ≤ 10 := by
  have key : ∀ (l : List Nat) (i acc : Nat) (p : Nat × Nat), rdB i acc l = some p → p.2 ≤ i + l.length := by
    intro l
    induction l with
    | nil => intro i acc p h; simp [rdB] at h
    | cons c l ih =>
      intro i acc p h
      rw [rdB] at h
      split at h
      · simp at h
      · split at h
        · simp only [Option.some.injEq] at h; rw [← h]; simp
        · have := ih _ _ _ h; simp; omega
  have := key _ 0 0 p h
  simp at this; omega
theorem one_call {H : List Obj} {x : D} {B : List Nat} (hs : SlD e8 x B) (hb : ∀ c ∈ B, c < 256) : callL pg 24 [.d x] H = some ⟨false, true, .tup [.d (eOp (oneP (oneOf B))), .d (.i .i64 (oneN (oneOf B)))], H, H.length⟩ := by
  rw [callL_fn (fn := f_code_one) rfl rfl]
  cases B with
  | nil =>
    have hl := hs.len (H := H)
    have e0 : (((([] : List Nat).length : Nat) : Int) = 0) = True := by simp
    simp only [f_code_one, argEnv_cons, Nat.zero_add, argEnv_nil, exL_seq, exL_ops, runOps_n, evalK_allocL, List.map_cons, List.map_nil, opC_ok, put_box, killLp_cons, killV_d, killLp_nil, evalK_mov, rd_c, spent_c, put_d, runOps_nil, thenC_nrm, rd_t, reduceCtorEq, get_ne, get_eq, readV_d, spent_t, evalK_lenL, hs.len, List.length_nil, Int.cast_ofNat_Int, okS_some, evalK_bin, isC_t, isC_c, Bool.or_true, bin_eql, decide_true, runOps_g, wantG_bf, Bool.not_true, wantC_b, Bool.false_eq_true, ↓reduceIte, put_tup, Nat.reduceEqDiff, evalK_pick, readV_tup, pickV_t, exL_cond, condC_b, evalK_build, fillC_nil, aggO_some, mkAgg_eq, allD_d, allD_nil, consD_some, aggV_some, evalK_store, readV_box, storeV_lp, cells_agg, List.length_cons, Nat.reduceAdd, ones_cons, vone_d, one_i, ones_nil, Bool.and_self, storeB_box, Nat.reduceLT, setCells_2, List.set_cons_zero, List.set_cons_succ, storeR_some, put_none, exL_ret, thenC_ret, finC_ret, resultVs_cons, resultV_cell, Nat.reduceLeDiff, boxV_A, List.drop_zero, List.take_succ_cons, List.take_zero, copy1_d, resultV_t, ownV_d, resultVs_nil, consO_some, leaveC_2, leaves_tup, oks_cons, ok_d, oks_nil, ref_tup, refs_cons, ref_d, refs_nil, Nat.max_self, settle_tup, leave_pure, eOp, oneP, oneOf, oneN]
  | cons c R =>
    have e0 : ((((c :: R).length : Nat) : Int) = 0) = False := by simp; omega
    have hc := hb c (by simp)
    have hx := hs.ix (k := .i64) (n := 0) (e8_cells c) (by simp)
    rw [show ((0 : Nat) : Int) = 0 from rfl] at hx
    simp only [e8] at hx
    have hw : wr .i64 (c : Int) = (c : Int) := wr_i64 (by omega) (by omega)
    by_cases h34 : 34 ≤ c
    · have h34' : ((34 : Int) ≤ (c : Int)) = True := eq_true (by omega)
      rw [show oneOf (c :: R) = none by rw [oneOf, if_pos h34]]
      generalize hn : (((c :: R).length : Nat) : Int) = n at *
      have hl : ∀ H, lenV .lenL (.d x) H = some (.d (.i .i64 n)) := fun H => by rw [hs.len, hn]
      simp only [f_code_one, argEnv_cons, Nat.zero_add, argEnv_nil, exL_seq, exL_ops, runOps_n, evalK_allocL, List.map_cons, List.map_nil, opC_ok, put_box, killLp_cons, killV_d, killLp_nil, evalK_mov, rd_c, spent_c, put_d, runOps_nil, thenC_nrm, rd_t, reduceCtorEq, get_ne, get_eq, readV_d, spent_t, evalK_lenL, hl, okS_some, evalK_bin, isC_t, isC_c, Bool.or_true, bin_eql, e0, decide_false, runOps_g, wantG_bf, Bool.not_false, wantC_b, ↓reduceIte, Nat.reduceEqDiff, evalK_indexAddr, hx, put_cp, evalK_load, readV_cp, loadV_cp_i, evalK_conv, hw, bin_geq, h34', decide_true, evalK_pick, pickV_b, Bool.false_eq_true, exL_cond, condC_b, evalK_build, fillC_nil, aggO_some, mkAgg_eq, allD_d, allD_nil, consD_some, aggV_some, evalK_store, readV_box, storeV_lp, cells_agg, List.length_cons, List.length_nil, Nat.reduceAdd, ones_cons, vone_d, one_i, ones_nil, Bool.and_self, storeB_box, Nat.reduceLT, setCells_2, List.set_cons_zero, List.set_cons_succ, storeR_some, put_none, exL_ret, thenC_ret, finC_ret, resultVs_cons, resultV_cell, Nat.reduceLeDiff, boxV_A, List.drop_zero, List.take_succ_cons, List.take_zero, copy1_d, resultV_t, ownV_d, resultVs_nil, consO_some, leaveC_2, leaves_tup, oks_cons, ok_d, oks_nil, ref_tup, refs_cons, ref_d, refs_nil, Nat.max_self, settle_tup, leave_pure, eOp, oneP, oneN]
    · have h34' : ((34 : Int) ≤ (c : Int)) = False := eq_false (by omega)
      have hl : ∀ H, lenV .lenL (.d x) H = some (.d (.i .i64 (((c :: R).length : Nat) : Int))) := fun H => hs.len
      obtain ⟨y, hy, hY⟩ := hs.cut (z := 1) e8_cells (lo := some 1) (hi := none) (l := 1) (t := (c :: R).length) rfl rfl (by simp) (by omega)
      generalize hn : (((c :: R).length : Nat) : Int) = n at *
      rw [List.take_length, List.drop_succ_cons, List.drop_zero] at hY
      cases hh : hasB (c : Int)
      · rw [show oneOf (c :: R) = some (((c : Int), 0), 1) by rw [oneOf, if_neg h34, hh]; rfl]
        simp only [f_code_one, argEnv_cons, Nat.zero_add, argEnv_nil, exL_seq, exL_ops, runOps_n, evalK_allocL, List.map_cons, List.map_nil, opC_ok, put_box, killLp_cons, killV_d, killLp_nil, evalK_mov, rd_c, spent_c, put_d, runOps_nil, thenC_nrm, rd_t, reduceCtorEq, get_ne, get_eq, readV_d, spent_t, evalK_lenL, hl, okS_some, evalK_bin, isC_t, isC_c, Bool.or_true, bin_eql, e0, decide_false, runOps_g, wantG_bf, Bool.not_false, wantC_b, ↓reduceIte, Nat.reduceEqDiff, evalK_indexAddr, hx, put_cp, evalK_load, readV_cp, loadV_cp_i, evalK_conv, hw, bin_geq, h34', evalK_pick, pickV_b, Bool.false_eq_true, exL_cond, condC_b, exL_skip, evalK_build, one_i, cells_d1, vone_d, List.length_cons, List.length_nil, Nat.reduceAdd, Nat.reduceLT, fillC_1, List.set_cons_zero, fillC_nil, aggO_some, mkAgg_eq, allD_d, allD_nil, consD_some, aggV_some, killV_cp, killV_box, evalK_store, readV_box, storeV_lp, cells_agg, ones_cons, ones_nil, Bool.and_self, storeB_box, setCells_2, List.set_cons_succ, storeR_some, put_none, evalK_fieldAddr, faV_lp, Nat.add_zero, put_lp, readV_lp, loadV_lp, boxV_1, List.getElem?_cons_zero, Option.map_some, copy1_d, evalK_call, allLeave_cons, leaves_d, allLeave_nil, eCall_f, has_call, hh, callC_some, spentAll_cons, spentAll_nil, Nat.min_self, evalK_un, un_not, Nat.reduceLeDiff, boxV_A, List.drop_zero, List.take_succ_cons, List.take_zero, exL_ret, thenC_ret, finC_ret, resultVs_cons, resultV_cell, resultV_t, ownV_d, resultVs_nil, consO_some, leaveC_2, leaves_tup, oks_cons, ok_d, oks_nil, ref_tup, refs_cons, ref_d, refs_nil, Nat.max_self, settle_tup, leave_pure, eOp, oneP, oneN, Int.cast_ofNat_Int]
      · have hr := readInt_call (H := H) hY (fun c hc => hb c (by simp [hc]))
        cases hq : readOf R with
        | none =>
          rw [hq] at hr
          rw [show oneOf (c :: R) = none by rw [oneOf, if_neg h34, hh, hq]; rfl]
          simp only [zagV, rdN, Option.isSome_none] at hr
          simp only [f_code_one, argEnv_cons, Nat.zero_add, argEnv_nil, exL_seq, exL_ops, runOps_n, evalK_allocL, List.map_cons, List.map_nil, opC_ok, put_box, killLp_cons, killV_d, killLp_nil, evalK_mov, rd_c, spent_c, put_d, runOps_nil, thenC_nrm, rd_t, reduceCtorEq, get_ne, get_eq, readV_d, spent_t, evalK_lenL, hl, okS_some, evalK_bin, isC_t, isC_c, Bool.or_true, bin_eql, e0, decide_false, runOps_g, wantG_bf, Bool.not_false, wantC_b, ↓reduceIte, Nat.reduceEqDiff, evalK_indexAddr, hx, put_cp, evalK_load, readV_cp, loadV_cp_i, evalK_conv, hw, bin_geq, h34', evalK_pick, pickV_b, Bool.false_eq_true, exL_cond, condC_b, exL_skip, evalK_build, one_i, cells_d1, vone_d, List.length_cons, List.length_nil, Nat.reduceAdd, Nat.reduceLT, fillC_1, List.set_cons_zero, fillC_nil, aggO_some, mkAgg_eq, allD_d, allD_nil, consD_some, aggV_some, killV_cp, killV_box, evalK_store, readV_box, storeV_lp, cells_agg, ones_cons, ones_nil, Bool.and_self, storeB_box, setCells_2, List.set_cons_succ, storeR_some, put_none, evalK_fieldAddr, faV_lp, Nat.add_zero, put_lp, readV_lp, loadV_lp, boxV_1, List.getElem?_cons_zero, Option.map_some, copy1_d, evalK_call, allLeave_cons, leaves_d, allLeave_nil, eCall_f, has_call, hh, callC_some, spentAll_cons, spentAll_nil, Nat.min_self, evalK_un, un_not, Bool.not_true, evalK_sliceL, optInt_some, oInt_i, optInt_none, cut2_some, hy, hr, put_tup, readV_tup, evalK_extract, extV_0, copy_d, extV_1, extV_2, pickV_t, exL_ret, thenC_ret, finC_ret, resultVs_cons, resultV_cell, Nat.reduceLeDiff, boxV_A, List.drop_zero, List.take_succ_cons, List.take_zero, resultV_t, ownV_d, resultVs_nil, consO_some, leaveC_2, leaves_tup, oks_cons, ok_d, oks_nil, ref_tup, refs_cons, ref_d, refs_nil, Nat.max_self, settle_tup, leave_pure, eOp, oneP, oneN]
        | some p =>
          obtain ⟨u, m⟩ := p
          rw [hq] at hr
          simp only [zagV, rdN, Option.isSome_some] at hr
          have hz := zag_lt (readOf_lt hq)
          have hm := readOf_n hq
          simp only [] at hz hm
          have h32 := wr_32 hz.1 hz.2
          cases hk : is32 (zag u)
          · have h32' : (zag u = wr .i64 (wr .i32 (zag u))) = False := by rw [eq_iff_iff, h32, hk]; simp
            rw [show oneOf (c :: R) = none by rw [oneOf, if_neg h34, hh, hq]; simp [hk]]
            simp only [f_code_one, argEnv_cons, Nat.zero_add, argEnv_nil, exL_seq, exL_ops, runOps_n, evalK_allocL, List.map_cons, List.map_nil, opC_ok, put_box, killLp_cons, killV_d, killLp_nil, evalK_mov, rd_c, spent_c, put_d, runOps_nil, thenC_nrm, rd_t, reduceCtorEq, get_ne, get_eq, readV_d, spent_t, evalK_lenL, hl, okS_some, evalK_bin, isC_t, isC_c, Bool.or_true, bin_eql, e0, decide_false, runOps_g, wantG_bf, Bool.not_false, wantC_b, ↓reduceIte, Nat.reduceEqDiff, evalK_indexAddr, hx, put_cp, evalK_load, readV_cp, loadV_cp_i, evalK_conv, hw, bin_geq, h34', evalK_pick, pickV_b, Bool.false_eq_true, exL_cond, condC_b, exL_skip, evalK_build, one_i, cells_d1, vone_d, List.length_cons, List.length_nil, Nat.reduceAdd, Nat.reduceLT, fillC_1, List.set_cons_zero, fillC_nil, aggO_some, mkAgg_eq, allD_d, allD_nil, consD_some, aggV_some, killV_cp, killV_box, evalK_store, readV_box, storeV_lp, cells_agg, ones_cons, ones_nil, Bool.and_self, storeB_box, setCells_2, List.set_cons_succ, storeR_some, put_none, evalK_fieldAddr, faV_lp, Nat.add_zero, put_lp, readV_lp, loadV_lp, boxV_1, List.getElem?_cons_zero, Option.map_some, copy1_d, evalK_call, allLeave_cons, leaves_d, allLeave_nil, eCall_f, has_call, hh, callC_some, spentAll_cons, spentAll_nil, Nat.min_self, evalK_un, un_not, Bool.not_true, evalK_sliceL, optInt_some, oInt_i, optInt_none, cut2_some, hy, hr, put_tup, readV_tup, evalK_extract, extV_0, copy_d, extV_1, extV_2, Bool.or_self, bin_neq, h32', exL_ret, thenC_ret, finC_ret, resultVs_cons, resultV_cell, Nat.reduceLeDiff, boxV_A, List.drop_zero, List.take_succ_cons, List.take_zero, resultV_t, ownV_d, resultVs_nil, consO_some, leaveC_2, leaves_tup, oks_cons, ok_d, oks_nil, ref_tup, refs_cons, ref_d, refs_nil, Nat.max_self, settle_tup, leave_pure, eOp, oneP, oneN]
          · have h32' : (zag u = wr .i64 (wr .i32 (zag u))) = True := eq_true (h32.2 hk)
            have hk' := hk
            simp [is32] at hk'
            have h33 : wr .i32 (zag u) = zag u := wr_i32 hk'.1 hk'.2
            have h35 : wr .i64 (zag u) = zag u := wr_i64 (by omega) (by omega)
            have h36 : wr .i64 (1 + (m : Int)) = ((1 + m : Nat) : Int) := by rw [wr_i64 (by omega) (by omega)]; omega
            rw [show oneOf (c :: R) = some (((c : Int), zag u), 1 + m) by rw [oneOf, if_neg h34, hh, hq]; simp [hk]]
            simp only [f_code_one, argEnv_cons, Nat.zero_add, argEnv_nil, exL_seq, exL_ops, runOps_n, evalK_allocL, List.map_cons, List.map_nil, opC_ok, put_box, killLp_cons, killV_d, killLp_nil, evalK_mov, rd_c, spent_c, put_d, runOps_nil, thenC_nrm, rd_t, reduceCtorEq, get_ne, get_eq, readV_d, spent_t, evalK_lenL, hl, okS_some, evalK_bin, isC_t, isC_c, Bool.or_true, bin_eql, e0, decide_false, runOps_g, wantG_bf, Bool.not_false, wantC_b, ↓reduceIte, Nat.reduceEqDiff, evalK_indexAddr, hx, put_cp, evalK_load, readV_cp, loadV_cp_i, evalK_conv, hw, bin_geq, h34', evalK_pick, pickV_b, Bool.false_eq_true, exL_cond, condC_b, exL_skip, evalK_build, one_i, cells_d1, vone_d, List.length_cons, List.length_nil, Nat.reduceAdd, Nat.reduceLT, fillC_1, List.set_cons_zero, fillC_nil, aggO_some, mkAgg_eq, allD_d, allD_nil, consD_some, aggV_some, killV_cp, killV_box, evalK_store, readV_box, storeV_lp, cells_agg, ones_cons, ones_nil, Bool.and_self, storeB_box, setCells_2, List.set_cons_succ, storeR_some, put_none, evalK_fieldAddr, faV_lp, Nat.add_zero, put_lp, readV_lp, loadV_lp, boxV_1, List.getElem?_cons_zero, Option.map_some, copy1_d, evalK_call, allLeave_cons, leaves_d, allLeave_nil, eCall_f, has_call, hh, callC_some, spentAll_cons, spentAll_nil, Nat.min_self, evalK_un, un_not, Bool.not_true, evalK_sliceL, optInt_some, oInt_i, optInt_none, cut2_some, hy, hr, put_tup, readV_tup, evalK_extract, extV_0, copy_d, extV_1, extV_2, h33, h35, Bool.or_self, bin_neq, decide_true, rd_mv, takeV_d, spent_mv, setCells_1, Nat.reduceLeDiff, boxV_A, List.drop_zero, List.take_succ_cons, List.take_zero, Bool.or_false, bin_add, h36, exL_ret, finC_ret, resultVs_cons, resultV_cell, resultV_t, ownV_d, resultVs_nil, consO_some, leaveC_2, leaves_tup, oks_cons, ok_d, oks_nil, ref_tup, refs_cons, ref_d, refs_nil, Nat.max_self, settle_tup, leave_pure, eOp, oneP, oneN]
end W

