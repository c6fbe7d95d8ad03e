/-
  CodeReads: any bytes are the list that the document reads from them, or are refused: part 3 of what the proof rests on (a value semantics for a part of the language, sound against the model; the walks).
-/
import Derived.Lib.Strings
import Derived.Laws.StructEq
import Derived.Great.BuildSlice
import Derived.DataReads
import Derived.Test.YtmflhlbdfhgbnaaDoorW2
/-
  A frame's slots and the objects, and what they stand for; reading an operand; laying a value into a slot.
-/
open Bool renaming false_eq_true → qvA, and_eq_true → qvB, cond_eq_ite → qvD, or_true → qvK, and_self → qvL, not_true → qvN, or_self → qvR
open Nat renaming le_refl → qvC, zero_add → qvF, beq → qvG, eq_of_beq_eq_true → qvJ
open Option renaming bind_eq_some_iff → qvE, map_some → qvH, bind_eq_bind → qvI, pure_def → qvO
open List renaming map_cons → qvM, length_cons → qvP, length_nil → qvQ, getElem?_cons_zero → qvS, map_nil → qvT
namespace W
open Go (World Value Addr IntKind Program TypeId FuncId Operand)
inductive OwnSl (g : Gh) (w : World) (ℓ : Loc) : List D → Value → Prop
  | mk (xs : List D) (b off cap sz : Nat) (vs : List Value) (arr : Array Value) (T : TypeId) (fz : Nat × Nat) (hne : xs ≠ []) (hsz : ∀ x ∈ xs, x.cells.length = sz)
      (hr : RepDL g.pub w (xs.flatMap D.cells) vs) (hc : ∀ j v, vs[j]? = some v → w.cell? ⟨b, off + j, none⟩ = some v)
      (hp : g.pub b = off + vs.length) (hcap : xs.length ≤ cap) (hone : ∀ u ∈ vs, u.oneCell' = true) (ho : g.own b = some ℓ) (hb : w.heap[b]? = some (.cells arr T fz)) (ha : off + cap * sz ≤ arr.size)
      (hf : ∀ o, off + vs.length ≤ o → o < off + cap * sz → w.frozen? ⟨b, o, none⟩ = false) : OwnSl g w ℓ xs (.slice (some ⟨b, off, none⟩) xs.length cap)
  | full (xs : List D) (ad : Addr) (h : RepD g.pub w (.sl xs) (.slice (some ad) xs.length xs.length)) : OwnSl g w ℓ xs (.slice (some ad) xs.length xs.length)
theorem qrP {g : Gh} {w : World} {ys : List D} {o : Option Addr} {n k : Nat} (h : RepD g.pub w (.sl ys) (.slice o n k)) (hnk : n = k) (ℓ : Loc) : OwnSl g w ℓ ys (.slice o n k) := by
  generalize hc : Value.slice o n k = c at h
  cases h with
  | sl0 a cap =>
    injection hc with h1 h2 h3
    subst h1; subst h2; subst h3
    subst hnk
    exact .full [] a (.sl0 a 0)
  | sl _ b off cap sz vs h1 h2 h3 h4 h5 h6 h7 =>
    injection hc with e1 e2 e3
    subst e1; subst e2; subst e3
    subst hnk
    exact .full ys _ (.sl ys b off _ sz vs h1 h2 h3 h4 h5 h6 h7)
inductive RepC (M : Maps) (g : Gh) (w : World) (ℓ : Loc) : V → Value → Prop
  | s {v : V} {c : Value} (h : RepS M g w v c) : RepC M g w ℓ v c
  | osl {xs : List D} {c : Value} (h : OwnSl g w ℓ xs c) : RepC M g w ℓ (.osl xs) c
inductive RepT (M : Maps) (g : Gh) (w : World) (β : Nat → Nat) (k : Nat) : V → Value → Prop
  | s {v : V} {c : Value} (h : RepS M g w v c) : RepT M g w β k v c
  | osl {xs : List D} {c : Value} (h : OwnSl g w (.slot k) xs c) : RepT M g w β k (.osl xs) c
  | lp (s off : Nat) : RepT M g w β k (.lp s off) (.pointer (some ⟨β s, off, none⟩))
  | cp (x : D) (b off : Nat) (vs : List Value) (hr : RepDL g.pub w x.cells vs) (hc : ∀ j v, vs[j]? = some v → w.cell? ⟨b, off + j, none⟩ = some v)
      (hp : off + vs.length ≤ g.pub b) : RepT M g w β k (.cp x) (.pointer (some ⟨b, off, none⟩))
  | box (cs : List V) (arr : Array Value) (T : TypeId) (hb : w.heap[β k]? = some (.cells arr T (0, 0))) (ho : g.own (β k) = some (.bblk k)) (hp : g.pub (β k) = 0) (hl : cs.length = arr.size)
      (hr : ∀ (i : Nat) x v, cs[i]? = some x → arr[i]? = some v → RepC M g w (.bcell k i) x v) : RepT M g w β k (.box cs) (.pointer (some ⟨β k, 0, none⟩))
inductive RepEs (M : Maps) (g : Gh) (w : World) : List (D × V) → List Go.MapEntry → Prop
  | nil : RepEs M g w [] []
  | cons (k : D) (x : V) (e : Go.MapEntry) (es : List (D × V)) (ents : List Go.MapEntry) (hk : RepD g.pub w k e.key) (hg : ∃ kk, qav kk k = true) (hx : RepS M g w x e.val)
      (hl : RepEs M g w es ents) : RepEs M g w ((k, x) :: es) (e :: ents)
theorem RepEs.mono {M : Maps} {g g' : Gh} {w w' : World} (hg : Grow g w g' w') (hn : g.n ≤ g'.n) (hφ : ∀ id, id < g.n → g'.Φ id = g.Φ id) :
    ∀ {es : List (D × V)} {ents : List Go.MapEntry}, RepEs M g w es ents → RepEs M g' w' es ents
  | _, _, .nil => .nil
  | _, _, .cons k x e es ents hk hgk hx hl => .cons k x e es ents (hk.mono hg.pub hg.cell) hgk (hx.mono hg hn hφ hx.ref) (RepEs.mono hg hn hφ hl)
theorem RepEs.length {M : Maps} {g : Gh} {w : World} : ∀ {es : List (D × V)} {ents : List Go.MapEntry}, RepEs M g w es ents → es.length = ents.length
  | _, _, .nil => rfl
  | _, _, .cons _ _ _ _ _ _ _ _ hl => by simp [RepEs.length hl]
inductive RepO (M : Maps) (g : Gh) (w : World) (id : Nat) : Obj → Prop
  | cells (cs : List V) (arr : Array Value) (T : TypeId) (fz : Nat × Nat) (hb : w.heap[g.φ id]? = some (.cells arr T fz)) (hz : ∀ j, j < cs.length → (decide (fz.1 ≤ j) && decide (j < fz.2)) = false) (ho : g.own (g.φ id) = some (.oblk id)) (hp : g.pub (g.φ id) = 0) (hl : cs.length ≤ arr.size)
      (hr : ∀ (i : Nat) x v, cs[i]? = some x → arr[i]? = some v → RepC M g w (.ocell id i) x v) : RepO M g w id (.cells cs)
  | row (l : L) (cs : List V) (arr : Array Value) (T : TypeId) (hb : w.heap[g.φ id]? = some (.cells arr T (0, 0))) (ho : g.own (g.φ id) = some (.oblk id)) (hp : g.pub (g.φ id) = 0) (hl : cs.length ≤ arr.size) (hζ : g.ζ id ≤ arr.size)
      (hr : ∀ (i : Nat) x v, cs[i]? = some x → arr[i]? = some v → RepS M g w x v) : RepO M g w id (.row l cs)
  | dead : RepO M g w id .dead
  | map (es : List (D × V)) (ents : Array Go.MapEntry) (clock : Nat) (hb : w.heap[g.φ id]? = some (.map ents clock)) (ho : g.own (g.φ id) = some (.oblk id))
      (hr : RepEs M g w es ents.toList) : RepO M g w id (.map es)
theorem RepO.rowCells {M : Maps} {g : Gh} {w : World} {id : Nat} {l : L} {cs : List V} (h : RepO M g w id (.row l cs)) : RepO M g w id (.cells cs) := by
  cases h with
  | row _ _ arr T hb ho hp hl hζ hr => exact .cells cs arr T (0, 0) hb (fun j _ => by simp) ho hp hl (fun i x v hx hv => .s (hr i x v hx hv))
def quq (M : Maps) (g : Gh) (w : World) : Prop := ∀ n x, look M.gl n = some x →
  ∃ vs, RepDL g.pub w x.cells vs ∧ (∀ (j : Nat) v, vs[j]? = some v → w.cell? ⟨n, 0 + j, none⟩ = some v) ∧ 0 + vs.length ≤ g.pub n
def qsQ (M : Maps) (g : Gh) (w : World) : Prop := ∀ n, n ∈ M.gi → (∃ ev, w.cell? ⟨n, 0, none⟩ = some ev ∧ (ev = .nilIface ∨ ∃ te pe, ev = .iface te pe)) ∧ 0 < g.pub n
def GlOk (M : Maps) (g : Gh) (w : World) : Prop := quq M g w ∧ qsQ M g w
theorem GlOk.mono {M : Maps} {g g' : Gh} {w w' : World} (h : GlOk M g w) (hg : Grow g w g' w') : GlOk M g' w' := ⟨fun n x hn => by
  obtain ⟨vs, h1, h2, h3⟩ := h.1 n x hn
  refine ⟨vs, h1.mono hg.pub hg.cell, fun j v hj => ?_, Nat.le_trans h3 (hg.pub n)⟩
  have hlt : j < vs.length := (List.getElem?_eq_some_iff.1 hj).1
  rw [hg.cell n (0 + j) (by omega)]
  exact h2 j v hj, fun n hn => by
  obtain ⟨⟨ev, h1, h2⟩, h3⟩ := h.2 n hn
  refine ⟨⟨ev, ?_, h2⟩, Nat.lt_of_lt_of_le h3 (hg.pub n)⟩
  rw [hg.cell n 0 h3]
  exact h1⟩
structure Rel (M : Maps) (g : Gh) (w : World) (β : Nat → Nat) (st : St) (tmps : Array Value) : Prop where
  n : g.n = st.H.length
  e : ∀ k, RepT M g w β k (get k st.env) (tmps.getD k Go.undef)
  h : ∀ id o, st.H[id]? = some o → RepO M g w id o
  fresh : ∀ b, w.heap.size ≤ b → g.own b = none ∧ g.pub b = 0
  gl : GlOk M g w
structure Evo (g : Gh) (w : World) (g' : Gh) (w' : World) : Prop extends Grow g w g' w' where
  n : g.n ≤ g'.n
  φ : ∀ id, id < g.n → g'.Φ id = g.Φ id
  keep : ∀ b, b < w.heap.size → g.own b = none ∨ g.own b = some .out → g'.own b = g.own b ∧ w'.heap[b]? = w.heap[b]? ∧ g'.pub b = g.pub b
  io : w'.os = w.os ∧ w'.output = w.output
theorem Evo.refl (g : Gh) (w : World) : Evo g w g w := ⟨Grow.refl g w, qvC _, fun _ _ => rfl, fun _ _ _ => ⟨rfl, rfl, rfl⟩, ⟨rfl, rfl⟩⟩
theorem Evo.trans {g g' g'' : Gh} {w w' w'' : World} (h : Evo g w g' w') (h' : Evo g' w' g'' w'') : Evo g w g'' w'' :=
  ⟨h.toGrow.trans h'.toGrow, Nat.le_trans h.n h'.n, fun id hi => (h'.φ id (Nat.lt_of_lt_of_le hi h.n)).trans (h.φ id hi), fun b hb ho => by
    obtain ⟨h1, h2, h3⟩ := h.keep b hb ho
    obtain ⟨k1, k2, k3⟩ := h'.keep b (Nat.lt_of_lt_of_le hb h.size) (h1 ▸ ho)
    exact ⟨k1.trans h1, k2.trans h2, k3.trans h3⟩, h'.io.1.trans h.io.1, h'.io.2.trans h.io.2⟩
structure Kept (g : Gh) (w : World) (g' : Gh) (w' : World) (ℓ : Loc) : Prop where
  k : ∀ b, g.own b = some ℓ → g'.own b = some ℓ ∧ w'.heap[b]? = w.heap[b]? ∧ g'.pub b = g.pub b
theorem Kept.refl (g : Gh) (w : World) (ℓ : Loc) : Kept g w g w ℓ := ⟨fun _ h => ⟨h, rfl, rfl⟩⟩
theorem qjE {w w' : World} {b : Nat} (h : w'.heap[b]? = w.heap[b]?) (o : Nat) : w'.frozen? ⟨b, o, none⟩ = w.frozen? ⟨b, o, none⟩ := by
  simp only [World.frozen?, h]
theorem yk {w w' : World} {b : Nat} (h : w'.heap[b]? = w.heap[b]?) (o : Nat) : w'.cell? ⟨b, o, none⟩ = w.cell? ⟨b, o, none⟩ := by
  simp only [World.cell?, h]
theorem OwnSl.mono {g g' : Gh} {w w' : World} (hg : Grow g w g' w') {ℓ : Loc} (hk : Kept g w g' w' ℓ) {xs : List D} {c : Value} (h : OwnSl g w ℓ xs c) : OwnSl g' w' ℓ xs c := by
  cases h with
  | mk b off cap sz vs arr T fz hne hsz hr hc hp hcap hone ho hb ha hf =>
    obtain ⟨h1, h2, h3⟩ := hk.k b ho
    exact .mk xs b off cap sz vs arr T fz hne hsz (hr.mono hg.pub hg.cell) (fun j v hj => by rw [yk h2]; exact hc j v hj) (h3.trans hp) hcap hone h1 (h2.trans hb) ha
      (fun o h0 h1 => by rw [qjE h2]; exact hf o h0 h1)
  | full ad h => exact .full xs ad (h.mono hg.pub hg.cell)
theorem OwnSl.rep {g : Gh} {w : World} {ℓ : Loc} {xs : List D} {c : Value} (h : OwnSl g w ℓ xs c) : RepD g.pub w (.sl xs) c := by
  cases h with
  | mk b off cap sz vs arr T fz hne hsz hr hc hp hcap hone ho hb ha hf => exact .sl xs b off cap sz vs hne hsz hr hc (by omega) hcap hone
  | full ad h => exact h
theorem RepC.mono {M : Maps} {g g' : Gh} {w w' : World} (hg : Grow g w g' w') (hn : g.n ≤ g'.n) (hφ : ∀ id, id < g.n → g'.Φ id = g.Φ id) {ℓ : Loc} (hk : Kept g w g' w' ℓ) {v : V} {c : Value}
    (h : RepC M g w ℓ v c) : RepC M g' w' ℓ v c := by
  cases h with
  | s h => exact .s (h.mono hg hn hφ h.ref)
  | osl h => exact .osl (h.mono hg hk)
theorem RepT.mono {M : Maps} {g g' : Gh} {w w' : World} (hg : Grow g w g' w') (hn : g.n ≤ g'.n) (hφ : ∀ id, id < g.n → g'.Φ id = g.Φ id) {β : Nat → Nat} {k : Nat}
    (h1 : Kept g w g' w' (.slot k)) (h2 : Kept g w g' w' (.bblk k)) (h3 : ∀ i, Kept g w g' w' (.bcell k i)) {v : V} {c : Value} (h : RepT M g w β k v c) : RepT M g' w' β k v c := by
  cases h with
  | s h => exact .s (h.mono hg hn hφ h.ref)
  | osl h => exact .osl (h.mono hg h1)
  | lp s off => exact .lp s off
  | cp x b off vs hr hc hp =>
    refine .cp x b off vs (hr.mono hg.pub hg.cell) (fun j v hj => ?_) (Nat.le_trans hp (hg.pub b))
    have hlt : j < vs.length := (List.getElem?_eq_some_iff.1 hj).1
    rw [hg.cell b (off + j) (by omega)]
    exact hc j v hj
  | box cs arr T hb ho hp hl hr =>
    obtain ⟨k1, k2, k3⟩ := h2.k _ ho
    exact .box cs arr T (k2.trans hb) k1 (k3.trans hp) hl (fun i x v hx hv => (hr i x v hx hv).mono hg hn hφ (h3 i))
theorem RepO.mono {M : Maps} {g g' : Gh} {w w' : World} (hg : Grow g w g' w') (hn : g.n ≤ g'.n) (hφ : ∀ id, id < g.n → g'.Φ id = g.Φ id) {id : Nat} (hid : id < g.n)
    (h1 : Kept g w g' w' (.oblk id)) (h3 : ∀ i, Kept g w g' w' (.ocell id i)) {o : Obj} (h : RepO M g w id o) : RepO M g' w' id o := by
  have e := Gh.φ_eq (hφ id hid)
  cases h with
  | cells cs arr T fz hb hz ho hp hl hr =>
    obtain ⟨k1, k2, k3⟩ := h1.k _ ho
    exact .cells cs arr T fz (by rw [e]; exact k2.trans hb) hz (by rw [e]; exact k1) (by rw [e]; exact k3.trans hp) hl (fun i x v hx hv => (hr i x v hx hv).mono hg hn hφ (h3 i))
  | row l cs arr T hb ho hp hl hζ hr =>
    obtain ⟨k1, k2, k3⟩ := h1.k _ ho
    exact .row l cs arr T (by rw [e]; exact k2.trans hb) (by rw [e]; exact k1) (by rw [e]; exact k3.trans hp) hl (by rw [Gh.ζ_eq (hφ id hid)]; exact hζ) (fun i x v hx hv => (hr i x v hx hv).mono hg hn hφ (hr i x v hx hv).ref)
  | dead => exact .dead
  | map es ents clock hb ho hr =>
    obtain ⟨k1, k2, k3⟩ := h1.k _ ho
    exact .map es ents clock (by rw [e]; exact k2.trans hb) (by rw [e]; exact k1) (hr.mono hg hn hφ)
theorem kD (k n : Nat) (v : V) (e : Env) : get k ((n, v) :: e) = if k = n then v else get k e := by
  simp only [get]
  by_cases h : k = n
  · subst h; simp
  · have : qvG k n = false := by rw [Bool.eq_false_iff]; intro hb; exact h (qvJ hb)
    simp [this, h]
theorem qmR (tmps : Array Value) (n k : Nat) (c : Value) (hn : n < tmps.size) : (tmps.setIfInBounds n c).getD k Go.undef = if k = n then c else tmps.getD k Go.undef := by
  by_cases h : k = n
  · subst h; simp [hn]
  · have h' : n ≠ k := fun e => h e.symm
    simp [Array.getD_eq_getD_getElem?, Array.getElem?_setIfInBounds_ne h', h]
theorem Rel.lay {M : Maps} {g : Gh} {w : World} {β : Nat → Nat} {st : St} {tmps : Array Value} (h : Rel M g w β st tmps) {n : Nat} (hn : n < tmps.size) {v : V} {c : Value} (hv : RepT M g w β n v c) :
    Rel M g w β { st with env := (n, v) :: st.env } (tmps.setIfInBounds n c) :=
  ⟨h.n, fun k => by
    show RepT M g w β k (get k ((n, v) :: st.env)) _
    rw [kD, qmR _ _ _ _ hn]
    split
    · rename_i e; subst e; exact hv
    · exact h.e k, h.h, h.fresh, h.gl⟩
theorem Rel.drop {M : Maps} {g : Gh} {w : World} {β : Nat → Nat} {st : St} {tmps : Array Value} (h : Rel M g w β st tmps) (n : Nat) :
    Rel M g w β { st with env := (n, .undef) :: st.env } tmps :=
  ⟨h.n, fun k => by
    show RepT M g w β k (get k ((n, .undef) :: st.env)) _
    rw [kD]
    split
    · exact .s (.undef _)
    · exact h.e k, h.h, h.fresh, h.gl⟩
theorem Rel.spent {M : Maps} {g : Gh} {w : World} {β : Nat → Nat} {st : St} {tmps : Array Value} (h : Rel M g w β st tmps) (o : O) :
    Rel M g w β { st with env := W.spent o st.env } tmps := by
  cases o <;> first | exact h | exact h.drop _
theorem Rel.spentAll {M : Maps} {g : Gh} {w : World} {β : Nat → Nat} {tmps : Array Value} : ∀ (os : List O) {st : St}, Rel M g w β st tmps →
    Rel M g w β { st with env := W.spentAll os st.env } tmps
  | [], _, h => h
  | o :: l, _, h => Rel.spentAll l (h.spent o)
structure SameMem (w w' : World) : Prop where
  heap : w'.heap = w.heap
  io : w'.os = w.os ∧ w'.output = w.output
theorem SameMem.refl (w : World) : SameMem w w := ⟨rfl, rfl, rfl⟩
theorem SameMem.grow {w w' : World} (h : SameMem w w') (g : Gh) : Grow g w g w' :=
  ⟨by rw [h.heap]; exact qvC _, fun _ => qvC _, fun b o _ => by simp only [World.cell?, h.heap]⟩
theorem SameMem.kept {w w' : World} (h : SameMem w w') (g : Gh) (ℓ : Loc) : Kept g w g w' ℓ := ⟨fun b hb => ⟨hb, by rw [h.heap], rfl⟩⟩
theorem SameMem.evo {w w' : World} (h : SameMem w w') (g : Gh) : Evo g w g w' := ⟨h.grow g, qvC _, fun _ _ => rfl, fun b _ _ => ⟨rfl, by rw [h.heap], rfl⟩, h.io⟩
theorem Rel.sameMem {M : Maps} {g : Gh} {w w' : World} {β : Nat → Nat} {st : St} {tmps : Array Value} (hs : SameMem w w') (h : Rel M g w β st tmps) : Rel M g w' β st tmps :=
  ⟨h.n, fun k => (h.e k).mono (hs.grow g) (qvC _) (fun _ _ => rfl) (hs.kept g _) (hs.kept g _) (fun _ => hs.kept g _),
    fun id o ho => (h.h id o ho).mono (hs.grow g) (qvC _) (fun _ _ => rfl) (by rw [h.n]; exact (List.getElem?_eq_some_iff.1 ho).1) (hs.kept g _) (fun _ => hs.kept g _),
    fun b hb => h.fresh b (by rw [← hs.heap]; exact hb), h.gl.mono (hs.grow g)⟩
end W

/-
  Operands: what is read stands for what the model reads.
-/
namespace W
open Go (World Value Addr IntKind Program TypeId FuncId Operand Act)
mutual
theorem qau (pub : Nat → Nat) (w : World) : ∀ (v : Value) (x : D), toD v = some x → RepD pub w x v
  | .bool z, x, h => by simp only [toD, Option.some.injEq] at h; subst h; exact .b z
  | .int k n, x, h => by simp only [toD, Option.some.injEq] at h; subst h; exact .i k n
  | .string s, x, h => by simp only [toD, Option.some.injEq] at h; subst h; exact .s _ s rfl
  | .pointer none, x, h => by simp only [toD, Option.some.injEq] at h; subst h; exact .np
  | .pointer (some _), x, h => by simp [toD] at h
  | .slice none 0 0, x, h => by simp only [toD, Option.some.injEq] at h; subst h; exact .nil
  | .slice none (n + 1) c, x, h => by simp [toD] at h
  | .slice none 0 (c + 1), x, h => by simp [toD] at h
  | .slice (some _) n c, x, h => by simp [toD] at h
  | .map none, x, h => by simp only [toD, Option.some.injEq] at h; subst h; exact .nm
  | .map (some _), x, h => by simp [toD] at h
  | .nilFunc, x, h => by simp only [toD, Option.some.injEq] at h; subst h; exact .nf
  | .nilIface, x, h => by simp only [toD, Option.some.injEq] at h; subst h; exact .ni
  | .agg cs, x, h => by
      simp only [toD] at h
      cases hl : qmX cs.toList with
      | none => simp [hl] at h
      | some l =>
        simp only [hl, Option.some.injEq] at h
        subst h
        exact .agg l cs (ql5 pub w cs.toList l hl)
  | .float _ _, x, h => by simp [toD] at h
  | .complex _ _ _, x, h => by simp [toD] at h
  | .chan _, x, h => by simp [toD] at h
  | .func _ _ _, x, h => by simp [toD] at h
  | .iface _ _, x, h => by simp [toD] at h
  | .tuple _, x, h => by simp [toD] at h
theorem ql5 (pub : Nat → Nat) (w : World) : ∀ (l : List Value) (xs : List D), qmX l = some xs → RepDL pub w xs l
  | [], xs, h => by simp only [qmX, Option.some.injEq] at h; subst h; exact .nil
  | v :: l, xs, h => by
      simp only [qmX] at h
      cases h1 : toD v with
      | none => simp [h1] at h
      | some x => cases h2 : qmX l with
        | none => simp [h1, h2] at h
        | some r =>
          simp only [h1, h2, Option.some.injEq] at h
          subst h
          exact .cons x v r l (qau pub w v x h1) (ql5 pub w l r h2)
end
theorem qiV {M : Maps} {g : Gh} {w : World} : ∀ {cs : List V} {vs : List Value} {ds : List D}, RepSL M g w cs vs → qaA cs = some ds → RepDL g.pub w ds vs
  | _, _, ds, .nil, h => by simp only [qaA, Option.some.injEq] at h; subst h; exact .nil
  | _, _, ds, .cons x v l vs hx hl, h => by
      cases hx with
      | d y c hy =>
        simp only [qaA] at h
        cases h2 : qaA l with
        | none => simp [h2] at h
        | some r =>
          simp only [h2, Option.some.injEq] at h
          subst h
          exact .cons y v r vs hy (qiV hl h2)
      | fsl ys ad hy =>
        simp only [qaA] at h
        cases h2 : qaA l with
        | none => simp [h2] at h
        | some r =>
          simp only [h2, Option.some.injEq] at h
          subst h
          exact .cons (.sl ys) _ r vs hy (qiV hl h2)
      | ptr | rs | row | map | fn | ifc | agg | tup | undef => simp [qaA] at h
theorem qht {M : Maps} {g : Gh} {w : World} : ∀ {cs : List V} {vs : List Value}, RepSL M g w cs vs → cs.map yS = cs
  | _, _, .nil => rfl
  | _, _, .cons x v l vs hx hl => by
      have h1 : yS x = x := by cases hx <;> rfl
      simp [h1, qht hl]
theorem qfD {M : Maps} {g : Gh} {w : World} {cs : List V} {vs : Array Value} (h : RepSL M g w cs vs.toList) : RepS M g w (qc4 cs) (.agg vs) := by
  unfold qc4
  cases hd : qaA cs with
  | some ds => exact .d _ _ (.agg ds vs (qiV h hd))
  | none => exact .agg cs vs h
theorem qgG {M : Maps} {g : Gh} {w : World} {x : V} {v : Value} (h : RepS M g w x v) : RepS M g w (copy x) v := by
  cases h with
  | agg cs vs h => simp only [copy]; rw [qht h]; exact qfD h
  | d x _ h => exact .d x _ h
  | fsl xs ad h => exact .fsl xs ad h
  | ptr id off h => exact .ptr id off h
  | rs id off len cap cap2 h hc hc2 => exact .rs id off len cap cap2 h hc hc2
  | row id sz len cap h hc hz => exact .row id sz len cap h hc hz
  | map id h => exact .map id h
  | fn f f' first cap fv cv h h1 h2 => exact .fn f f' first cap fv cv h h1 h2
  | ifc t t' x c h hx => exact .ifc t t' x c h hx
  | tup cs vs h => exact .tup cs vs h
  | undef => exact .undef _
inductive RepV (M : Maps) (g : Gh) (w : World) (β : Nat → Nat) : V → Value → Prop
  | s {v : V} {c : Value} (h : RepS M g w v c) : RepV M g w β v c
  | lp (s off : Nat) : RepV M g w β (.lp s off) (.pointer (some ⟨β s, off, none⟩))
  | cp (x : D) (b off : Nat) (vs : List Value) (hr : RepDL g.pub w x.cells vs) (hc : ∀ j v, vs[j]? = some v → w.cell? ⟨b, off + j, none⟩ = some v)
      (hp : off + vs.length ≤ g.pub b) : RepV M g w β (.cp x) (.pointer (some ⟨b, off, none⟩))
theorem RepV.at {M : Maps} {g : Gh} {w : World} {β : Nat → Nat} {v : V} {c : Value} (h : RepV M g w β v c) (k : Nat) : RepT M g w β k v c := by
  cases h with
  | s h => exact .s h
  | lp s off => exact .lp s off
  | cp x b off vs hr hc hp => exact .cp x b off vs hr hc hp
theorem RepT.read {M : Maps} {g : Gh} {w : World} {β : Nat → Nat} {k : Nat} {v : V} {c : Value} (h : RepT M g w β k v c) :
    RepV M g w β (qcJ k v) c := by
  cases h with
  | s h => 
    cases h with
    | d x _ h => exact .s (.d x _ h)
    | fsl xs ad h => exact .s (.fsl xs ad h)
    | ptr id off h => exact .s (.ptr id off h)
    | rs id off len cap cap2 h hc hc2 => exact .s (.rs id off len cap cap2 h hc hc2)
    | row id sz len cap h hc hz => exact .s (.row id sz len cap h hc hz)
    | map id h => exact .s (.map id h)
    | fn f f' first cap fv cv h h1 h2 => exact .s (.fn f f' first cap fv cv h h1 h2)
    | ifc t t' x c h hx => exact .s (.ifc t t' x c h hx)
    | agg cs vs h => exact .s (qgG (.agg cs vs h))
    | tup cs vs h => exact .s (.tup cs vs h)
    | undef => exact .s (.undef _)
  | osl h => exact .s (.d _ _ h.rep)
  | lp s off => exact .lp s off
  | cp x b off vs hr hc hp => exact .cp x b off vs hr hc hp
  | box cs arr T hb ho hp hl hr => exact .lp k 0
theorem kr {M : Maps} {g : Gh} {w : World} {β : Nat → Nat} {st : St} {a : Act} (hR : Rel M g w β st a.tmps) {x : Operand} {o : O} (h : opnd M false x = some o) :
    RepV M g w β (rd st.env o) (a.eval x) := by
  cases x with
  | tmp t =>
    simp only [opnd, qvA, if_false, Option.some.injEq] at h
    subst h
    have := (hR.e t).read
    exact this
  | const v =>
    simp only [opnd] at h
    cases hd : toD v with
    | none => simp [hd] at h
    | some y =>
      simp only [hd, qvH, Option.some.injEq] at h
      subst h
      exact .s (.d y v (qau g.pub w v y hd))
  | func f =>
    simp only [opnd] at h
    cases hd : look M.fm f with
    | none => simp [hd] at h
    | some y =>
      simp only [hd, qvH, Option.some.injEq] at h
      subst h
      exact .s (.fn y f [] [] #[] #[] hd .nil .nil)
  | global n =>
    simp only [opnd] at h
    cases hd : look M.gl n with
    | none => simp [hd] at h
    | some y =>
      simp only [hd, qvH, Option.some.injEq] at h
      subst h
      obtain ⟨vs, h1, h2, h3⟩ := hR.gl.1 n y hd
      exact .cp y n 0 vs h1 h2 h3
inductive RepO' (M : Maps) (g : Gh) (w : World) (β : Nat → Nat) : O → V → Value → Prop
  | v {o : O} {v : V} {c : Value} (h : RepV M g w β v c) : RepO' M g w β o v c
  | own {n : Nat} {xs : List D} {c : Value} (h : OwnSl g w (.slot n) xs c) : RepO' M g w β (.mv n) (.osl xs) c
theorem qfv {M : Maps} {g : Gh} {w : World} {β : Nat → Nat} {st : St} {a : Act} (hR : Rel M g w β st a.tmps) {m : Bool} {x : Operand} {o : O} (h : opnd M m x = some o) :
    RepO' M g w β o (rd st.env o) (a.eval x) := by
  cases m with
  | false => exact .v (kr hR h)
  | true =>
    cases x with
    | tmp t =>
      simp only [opnd, if_true, Option.some.injEq] at h
      subst h
      have := hR.e t
      show RepO' M g w β (.mv t) (qeL (get t st.env)) (a.tmps.getD t Go.undef)
      generalize get t st.env = v at this
      generalize a.tmps.getD t Go.undef = c at this
      cases this with
      | s h => cases h <;> exact .v (.s (by constructor <;> assumption))
      | osl h => exact .own h
      | lp s off => exact .v (.lp s off)
      | cp x b off vs hr hc hp => exact .v (.cp x b off vs hr hc hp)
      | box cs arr T hb ho hp hl hr => exact .v (.s (.undef _))
    | const v => exact .v (kr (x := .const v) hR (by simpa [opnd] using h))
    | func f => exact .v (kr (x := .func f) hR (by simpa [opnd] using h))
    | global n => exact .v (kr (x := .global n) hR (by simpa [opnd] using h))
end W

/-
  Operations that change no object, one by one: what the model does is what the small semantics does.
-/
namespace W
open Go (World Value Addr IntKind Program TypeId FuncId Operand Act Oper Next Result Sem)
def Gh.setOwn (g : Gh) (b : Nat) (ℓ : Option Loc) : Gh := { g with own := fun x => if x = b then ℓ else g.own x }
theorem qbt (g : Gh) (w : World) (b : Nat) (ℓ : Option Loc) : Grow g w (g.setOwn b ℓ) w := ⟨qvC _, fun _ => qvC _, fun _ _ _ => rfl⟩
theorem jO {g : Gh} {w : World} {b : Nat} {ℓ₀ : Loc} (ℓ : Option Loc) (hb : g.own b = some ℓ₀) {ℓ₁ : Loc} (hne : ℓ₁ ≠ ℓ₀) : Kept g w (g.setOwn b ℓ) w ℓ₁ :=
  ⟨fun x hx => ⟨by
    have : x ≠ b := fun e => by subst e; rw [hb] at hx; exact hne (Option.some.inj hx).symm
    simp [Gh.setOwn, this, hx], rfl, rfl⟩⟩
theorem qdf {g : Gh} {w : World} {b : Nat} {ℓ₀ : Loc} (ℓ : Option Loc) (hb : g.own b = some ℓ₀) (h0 : ℓ₀ ≠ .out) : Evo g w (g.setOwn b ℓ) w :=
  ⟨qbt g w b ℓ, qvC _, fun _ _ => rfl, fun x _ ho => ⟨by
    have : x ≠ b := fun e => by
      subst e; rw [hb] at ho
      rcases ho with h | h
      · cases h
      · exact h0 (Option.some.inj h)
    simp [Gh.setOwn, this], rfl, rfl⟩, ⟨rfl, rfl⟩⟩
theorem Rel.reown {M : Maps} {g : Gh} {w : World} {β : Nat → Nat} {st : St} {tmps : Array Value} (h : Rel M g w β st tmps) {n b : Nat} (hn : get n st.env = .undef) (hb : g.own b = some (.slot n)) (hlt : b < w.heap.size)
    (ℓ : Option Loc) : Rel M (g.setOwn b ℓ) w β st tmps := by
  have hg := qbt g w b ℓ
  refine ⟨h.n, fun k => ?_, fun id o ho => ?_, fun x hx => ?_, h.gl.mono hg⟩
  · by_cases hk : k = n
    · subst hk; rw [hn]; exact .s (.undef _)
    · exact (h.e k).mono hg (qvC _) (fun _ _ => rfl) (jO ℓ hb (by simp [hk])) (jO ℓ hb (by simp)) (fun i => jO ℓ hb (by simp))
  · exact (h.h id o ho).mono hg (qvC _) (fun _ _ => rfl) (by rw [h.n]; exact (List.getElem?_eq_some_iff.1 ho).1) (jO ℓ hb (by simp)) (fun i => jO ℓ hb (by simp))
  · have : x ≠ b := by omega
    simpa [Gh.setOwn, this] using h.fresh x hx
theorem OwnSl.setOwn {g : Gh} {w : World} {ℓ : Loc} {xs : List D} {c : Value} (h : OwnSl g w ℓ xs c) :
    (∃ b, g.own b = some ℓ ∧ b < w.heap.size ∧ ∀ ℓ', OwnSl (g.setOwn b (some ℓ')) w ℓ' xs c) ∨ ∀ ℓ', OwnSl g w ℓ' xs c := by
  cases h with
  | full ad h => exact .inr fun ℓ' => .full xs ad h
  | mk b off cap sz vs arr T fz hne hsz hr hc hp hcap hone ho hb ha hf =>
    exact .inl ⟨b, ho, (Array.getElem?_eq_some_iff.1 hb).1, fun ℓ' => .mk xs b off cap sz vs arr T fz hne hsz hr hc hp hcap hone (by simp [Gh.setOwn]) hb ha hf⟩
inductive Yields (P : Program) (o : Oper) (a : Act) (w : World) : Value → World → Prop
  | value {c : Value} {w' : World} (h : (Go.execOp a.eval o).run P w = .ok (.value c) w') : Yields P o a w c w'
  | skip {w' : World} (h : (Go.execOp a.eval o).run P w = .ok .skip w') : Yields P o a w Go.undef w'
theorem Yields.wp {P : Program} {o : Oper} {a : Act} {w : World} {c : Value} {w' : World} (h : Yields P o a w c w') {next : Act → World → Prop} {Q : Go.Exit → Act → World → Prop} (hn : next (a.put o.dst c) w') :
    o.wp P a w next Q := by
  unfold Oper.wp
  cases h with
  | value h => rw [h]; exact hn
  | skip h => rw [h]; exact hn
def Left1 (P : Program) (M : Maps) (g : Gh) (w : World) (o : Oper) (a : Act) (r : Or) : Prop :=
  ∃ c w' g' β', Yields P o a w c w' ∧ Rel M g' w' β' (put o.dst r.v r.st) (a.put o.dst c).tmps ∧ Evo g w g' w'
def kp (o : Oper) (a : Act) : Prop := ∀ n, o.dst = some n → n < a.tmps.size
theorem yb {v : V} (hv : ∀ cs, v ≠ .box cs) (dst : Option Nat) (st : St) : put dst v st = match dst with | some n => { st with env := (n, v) :: st.env } | none => st := by
  cases dst with
  | none => rfl
  | some n => cases v <;> first | rfl | (exact absurd rfl (hv _))
theorem RepV.notBox {M : Maps} {g : Gh} {w : World} {β : Nat → Nat} {v : V} {c : Value} (h : RepV M g w β v c) : ∀ cs, v ≠ .box cs := by
  intro cs e; subst e
  cases h with
  | s h => cases h
theorem Act.put_tmps (a : Act) (dst : Option Nat) (c : Value) : (a.put dst c).tmps = match dst with | some n => a.tmps.setIfInBounds n c | none => a.tmps := by
  cases dst <;> rfl
theorem Rel.putV {M : Maps} {g : Gh} {w : World} {β : Nat → Nat} {st : St} {a : Act} {o : Oper} (hd : kp o a) (h : Rel M g w β st a.tmps) {v : V} {c : Value} (hv : RepV M g w β v c) :
    Rel M g w β (put o.dst v st) (a.put o.dst c).tmps := by
  rw [yb hv.notBox, Act.put_tmps]
  cases hdst : o.dst with
  | none => exact h
  | some n => exact h.lay (hd n hdst) (hv.at n)
theorem Rel.putOwn {M : Maps} {g : Gh} {w : World} {β : Nat → Nat} {st : St} {a : Act} {o : Oper} (hd : kp o a) (h : Rel M g w β st a.tmps) {n : Nat} (hn : get n st.env = .undef) {xs : List D} {c : Value}
    (hv : OwnSl g w (.slot n) xs c) : ∃ g', Rel M g' w β (put o.dst (.osl xs) st) (a.put o.dst c).tmps ∧ Evo g w g' w := by
  rw [yb (by intro cs e; cases e), Act.put_tmps]
  cases hdst : o.dst with
  | none => exact ⟨g, h, Evo.refl g w⟩
  | some d =>
    rcases hv.setOwn with ⟨b, hb, hlt, hv'⟩ | hv'
    case inr => exact ⟨g, h.lay (hd d hdst) (.osl (hv' _)), Evo.refl g w⟩
    exact ⟨g.setOwn b (some (.slot d)), (h.reown hn hb hlt (some (.slot d))).lay (hd d hdst) (.osl (hv' _)), qdf _ hb (by simp)⟩
theorem Rel.putFull {M : Maps} {g : Gh} {w : World} {β : Nat → Nat} {st : St} {a : Act} {o : Oper} (hd : kp o a) (h : Rel M g w β st a.tmps) {xs : List D} {c : Value}
    (hv : ∀ ℓ, OwnSl g w ℓ xs c) : Rel M g w β (put o.dst (.osl xs) st) (a.put o.dst c).tmps := by
  rw [yb (by intro cs e; cases e), Act.put_tmps]
  cases hdst : o.dst with
  | none => exact h
  | some d => exact h.lay (hd d hdst) (.osl (hv _))
theorem qo8 {P : Program} {M : Maps} {g : Gh} {w : World} {β : Nat → Nat} {st : St} {o : Oper} {a : Act} (hd : kp o a) (hR : Rel M g w β st a.tmps) {xs : List D} {c : Value} (hv : ∀ ℓ, OwnSl g w ℓ xs c)
    (hrun : (Go.execOp a.eval o).run P w = .ok (.value c) w) {r : Or} (hr : ok (.osl xs) st = some r) : Left1 P M g w o a r := by
  simp only [ok, Option.some.injEq] at hr
  subst hr
  exact ⟨c, w, g, β, .value hrun, hR.putFull hd hv, Evo.refl g w⟩
theorem qt {P : Program} {M : Maps} {g : Gh} {w : World} {β : Nat → Nat} {st : St} {o : Oper} {a : Act} (hd : kp o a) (hR : Rel M g w β st a.tmps) {v : V} {c : Value} (hv : RepV M g w β v c)
    (hrun : (Go.execOp a.eval o).run P w = .ok (.value c) w) {r : Or} (hr : ok v st = some r) : Left1 P M g w o a r := by
  simp only [ok, Option.some.injEq] at hr
  subst hr
  exact ⟨c, w, g, β, .value hrun, hR.putV hd hv, Evo.refl g w⟩
theorem Rel.putRead {M : Maps} {g : Gh} {w : World} {β : Nat → Nat} {st : St} {a : Act} {o : Oper} (hd : kp o a) (h : Rel M g w β st a.tmps) {x : O} {v : V} {c : Value} (hv : RepO' M g w β x v c) :
    ∃ g', Rel M g' w β (put o.dst v { st with env := W.spent x st.env }) (a.put o.dst c).tmps ∧ Evo g w g' w := by
  cases hv with
  | v hv => exact ⟨g, (h.spent x).putV hd hv, Evo.refl g w⟩
  | own hv =>
    rename_i n xs
    exact (h.drop n).putOwn hd (by simp [kD]) hv
theorem qkB {P : Program} {M : Maps} {g : Gh} {w : World} {β : Nat → Nat} {st : St} {o : Oper} {a : Act} (hd : kp o a) (hR : Rel M g w β st a.tmps) {m : Bool} {x : Operand} {y : O} (hy : opnd M m x = some y)
    (ho : o.op = .move x ∨ o.op = .assign x) {r : Or} (hr : qks y st = some r) : Left1 P M g w o a r := by
  simp only [qks, ok, Option.some.injEq] at hr
  subst hr
  obtain ⟨g', h1, h2⟩ := hR.putRead hd (qfv hR hy)
  refine ⟨a.eval x, w, g', β, .value ?_, h1, h2⟩
  rcases ho with ho | ho <;> simp only [Go.execOp, ho] <;> rfl
end W

/-
  Operations on numbers, texts, bools, nil.
-/
namespace W
open Go (World Value Addr IntKind Program TypeId FuncId Operand Act Oper Next Result Sem BinOp UnOp)
theorem qgj (a b : Int) : eqI a b = (a == b) := by
  cases a <;> cases b <;> simp only [eqI]
  · rename_i a b
    rw [Bool.eq_iff_iff, Nat.beq_eq, beq_iff_eq]; simp only [Int.ofNat_eq_natCast]; omega
  · rfl
  · rfl
  · rename_i a b
    rw [Bool.eq_iff_iff, Nat.beq_eq, beq_iff_eq]; simp
theorem qgn (a b : Int) : leI a b = decide (a ≤ b) := by
  cases a <;> cases b <;> simp only [leI]
  · rename_i a b
    rw [Bool.eq_iff_iff, Nat.ble_eq, decide_eq_true_iff]; simp
  · rename_i a b
    rw [eq_comm, decide_eq_false_iff_not]
    have := Int.negSucc_lt_zero b; simp only [Int.ofNat_eq_natCast]; omega
  · rename_i a b
    rw [eq_comm, decide_eq_true_iff]
    have := Int.negSucc_lt_zero a; simp only [Int.ofNat_eq_natCast]; omega
  · rename_i a b
    rw [Bool.eq_iff_iff, Nat.ble_eq, decide_eq_true_iff]
    simp only [Int.negSucc_eq]; omega
theorem qtl (a b : IntKind) : eqK a b = (a == b) := by cases a <;> cases b <;> rfl
theorem qhn {a b : IntKind} (h : eqK a b = true) : a = b := by rw [qtl] at h; exact beq_iff_eq.1 h
theorem qjw : ∀ (a b : List Nat), eqT a b = (a == b)
  | [], [] => rfl
  | [], _ :: _ => rfl
  | _ :: _, [] => rfl
  | a :: x, b :: y => by
    simp only [eqT, qjw x y]
    rw [List.cons_beq_cons]
    congr 1
    rw [Bool.eq_iff_iff, Nat.beq_eq, beq_iff_eq]
theorem qic (k : IntKind) (n : Int) : wr k n = k.wrap n := by
  unfold wr
  cases n with
  | ofNat a =>
    simp only
    cases h : Nat.ble a (qfY k) with
    | false => rfl
    | true =>
      simp only [cond_true]
      have ha := Nat.le_of_ble_eq_true h
      cases k <;> simp only [qfY] at ha <;> simp only [IntKind.wrap, IntKind.bits, IntKind.signed] <;> simp <;> omega
  | negSucc a =>
    simp only
    cases h : qj9 k a with
    | false => rfl
    | true =>
      simp only [cond_true]
      cases k <;> simp only [qj9, qvA] at h <;> (have ha := Nat.le_of_ble_eq_true h) <;> simp only [IntKind.wrap, IntKind.bits, IntKind.signed, Int.negSucc_eq] <;> simp <;> omega
theorem qgm (a b : ByteArray) : (a.data.toList.map (·.toNat) == b.data.toList.map (·.toNat)) = (a.toList == b.toList) := by
  rw [Go.Lib.toList_data, Go.Lib.toList_data]
  have inj : ∀ (x y : List UInt8), x.map (·.toNat) = y.map (·.toNat) → x = y := by
    intro x
    induction x with
    | nil => intro y h; cases y <;> simp_all
    | cons a x ih =>
      intro y h
      cases y with
      | nil => simp at h
      | cons b y =>
        simp only [qvM, List.cons.injEq] at h
        rw [UInt8.toNat_inj.1 h.1, ih y h.2]
  rw [Bool.eq_iff_iff, beq_iff_eq, beq_iff_eq]
  exact ⟨inj _ _, fun h => by rw [h]⟩
theorem qh3 : ∀ (a b : List UInt8), qbd (a.map (·.toNat)) (b.map (·.toNat)) = Go.Op.bytesLess a b
  | _, [] => by simp [qbd, Go.Op.bytesLess]
  | [], _ :: _ => by simp [qbd, Go.Op.bytesLess]
  | a :: x, b :: y => by
    simp only [qvM, qbd, Go.Op.bytesLess, qh3 x y]
    congr 1
    · rw [Bool.eq_iff_iff, Nat.blt_eq, decide_eq_true_iff, UInt8.lt_iff_toNat_lt]
    · congr 1
      rw [Bool.eq_iff_iff, Nat.beq_eq, beq_iff_eq, UInt8.toNat_inj]
theorem RepV.inv_d {M : Maps} {g : Gh} {w : World} {β : Nat → Nat} {x : D} {c : Value} (h : RepV M g w β (.d x) c) : RepD g.pub w x c := by
  cases h with
  | s h => cases h with | d _ _ h => exact h
theorem RepV.inv_ptr {M : Maps} {g : Gh} {w : World} {β : Nat → Nat} {id off : Nat} {c : Value} (h : RepV M g w β (.ptr id off) c) : c = .pointer (some ⟨g.φ id, off, none⟩) ∧ id < g.n := by
  cases h with
  | s h => cases h with | ptr _ _ h => exact ⟨rfl, h⟩
theorem RepV.inv_lp {M : Maps} {g : Gh} {w : World} {β : Nat → Nat} {s off : Nat} {c : Value} (h : RepV M g w β (.lp s off) c) : c = .pointer (some ⟨β s, off, none⟩) := by
  cases h with
  | s h => cases h
  | lp _ _ => rfl
theorem RepV.inv_cp {M : Maps} {g : Gh} {w : World} {β : Nat → Nat} {x : D} {c : Value} (h : RepV M g w β (.cp x) c) :
    ∃ b off vs, c = .pointer (some ⟨b, off, none⟩) ∧ RepDL g.pub w x.cells vs ∧ (∀ j v, vs[j]? = some v → w.cell? ⟨b, off + j, none⟩ = some v) ∧ off + vs.length ≤ g.pub b := by
  cases h with
  | s h => cases h
  | cp _ b off vs hr hc hp => exact ⟨b, off, vs, rfl, hr, hc, hp⟩
theorem qe3 {pub : Nat → Nat} {w : World} {z : Bool} {c : Value} (h : RepD pub w (.b z) c) : c = .bool z := by cases h; rfl
theorem y5 {pub : Nat → Nat} {w : World} {k : IntKind} {n : Int} {c : Value} (h : RepD pub w (.i k n) c) : c = .int k n := by cases h; rfl
theorem qb8 {pub : Nat → Nat} {w : World} {t : List Nat} {c : Value} (h : RepD pub w (.s t) c) : ∃ x : ByteArray, c = .string x ∧ x.data.toList.map (·.toNat) = t := by
  cases h with | s _ x h => exact ⟨x, rfl, h⟩
section
variable {P : Program} {M : Maps} {g : Gh} {w : World} {β : Nat → Nat} {st : St} {o : Oper} {a : Act}
theorem qq8 (hd : kp o a) (hR : Rel M g w β st a.tmps) {c x y : Operand} {c' x' y' : O} (hc : opnd M false c = some c') (hx : opnd M false x = some x') (hy : opnd M false y = some y')
    (ho : o.op = .pick c x y) {r : Or} (hr : qeM c' x' y' st = some r) : Left1 P M g w o a r := by
  have h1 := kr hR hc
  unfold qeM at hr
  split at hr
  · rename_i z hz
    rw [hz] at h1
    have e1 := qe3 h1.inv_d
    cases z
    · exact qt hd hR (kr hR hy) (by simp [Go.execOp, ho, e1, Go.asBool]) (by simpa using hr)
    · exact qt hd hR (kr hR hx) (by simp [Go.execOp, ho, e1, Go.asBool]) (by simpa using hr)
  · cases hr
theorem qkG (hd : kp o a) (hR : Rel M g w β st a.tmps) {x : Operand} {x' : O} (hx : opnd M false x = some x')
    (ho : o.op = .nilCheck x) {r : Or} (hr : ya x' st = some r) : Left1 P M g w o a r := by
  have h1 := kr hR hx
  unfold ya at hr
  split at hr
  · rename_i id off hz
    rw [hz] at h1
    exact qt hd hR h1 (by simp [Go.execOp, ho, h1.inv_ptr.1]) hr
  · rename_i s off hz
    rw [hz] at h1
    exact qt hd hR h1 (by simp [Go.execOp, ho, h1.inv_lp]) hr
  · rename_i y hz
    rw [hz] at h1
    obtain ⟨b, off, vs, e, _⟩ := h1.inv_cp
    exact qt hd hR h1 (by simp [Go.execOp, ho, e]) hr
  · cases hr
theorem qt0 (hd : kp o a) (hR : Rel M g w β st a.tmps) {op : UnOp} {t : TypeId} {x : Operand} {x' : O} (hx : opnd M false x = some x')
    (ho : o.op = .unOp op t x) {r : Or} (hr : eUn op x' st = some r) : Left1 P M g w o a r := by
  have h1 := kr hR hx
  unfold eUn at hr
  split at hr
  · rename_i y hz
    rw [hz] at h1
    split at hr
    · rename_i z hz2
      have h3 := h1.inv_d
      unfold unD at hz2
      split at hz2
      · rename_i k n
        have e1 := y5 h3
        split at hz2
        · simp only [Option.some.injEq] at hz2
          subst hz2
          exact qt hd hR (.s (.d _ _ (.i k _))) (by simp [Go.execOp, ho, e1, Go.Op.unary, Go.Op.intArith, qic]) hr
        · simp only [qcK, qvH, Option.some.injEq] at hz2
          subst hz2
          exact qt hd hR (.s (.d _ _ (.i k _))) (by simp [Go.execOp, ho, e1, Go.Op.unary, Go.Op.intBits]) hr
        · cases hz2
      · rename_i z
        have e1 := qe3 h3
        split at hz2
        · simp only [Option.some.injEq] at hz2
          subst hz2
          exact qt hd hR (.s (.d _ _ (.b _))) (by simp [Go.execOp, ho, e1, Go.Op.unary]) hr
        · cases hz2
      · cases hz2
    · cases hr
  · cases hr
theorem qp7 (hd : kp o a) (hR : Rel M g w β st a.tmps) {s t : TypeId} {ks k : IntKind} {x : Operand} {x' : O} (hx : opnd M false x = some x') (hs : P.underlying s = some (.int ks)) (ht : P.underlying t = some (.int k))
    (ho : o.op = .convert s t x) {r : Or} (hr : qeP k x' st = some r) : Left1 P M g w o a r := by
  have h1 := kr hR hx
  unfold qeP at hr
  split at hr
  · rename_i k' n hz
    rw [hz] at h1
    have e1 := y5 h1.inv_d
    exact qt hd hR (.s (.d _ _ (.i k _))) (by simp [Go.execOp, ho, e1, Go.convert, Go.run_underlying hs, Go.run_underlying ht, Go.Conv.intToInt, qic]) hr
  · cases hr
theorem qoO (hd : kp o a) (hR : Rel M g w β st a.tmps) {s t : TypeId} {x : Operand} {x' : O} (hx : opnd M false x = some x') (hs : P.underlying s = some .string) (ht : P.underlying t = some .string)
    (ho : o.op = .convert s t x) {r : Or} (hr : qhj x' st = some r) : Left1 P M g w o a r := by
  have h1 := kr hR hx
  unfold qhj at hr
  split at hr
  · rename_i y hz
    rw [hz] at h1
    obtain ⟨z, e1, _⟩ := qb8 h1.inv_d
    exact qt hd hR h1 (by simp [Go.execOp, ho, e1, Go.convert, Go.run_underlying hs, Go.run_underlying ht]) hr
  · cases hr
end
end W

set_option linter.unusedSimpArgs false
set_option linter.unusedVariables false
namespace W
open Go (IntKind BinOp UnOp)
set_option maxRecDepth 20000
def zig (x : Int) : Nat := if 0 ≤ x then (2 * x).toNat else (-2 * x - 1).toNat
theorem qiW (n : Nat) (h : n < 18446744073709551616) : IntKind.wrap .u64 (n : Int) = (n : Int) := by
  simp [IntKind.wrap, IntKind.bits, IntKind.signed]; omega
theorem qvh {a : Int} (h1 : 0 ≤ a) (h2 : 2 * a < 18446744073709551616) : orI .u64 (2 * a) 1 = 2 * a + 1 := by
  obtain ⟨n, rfl⟩ := Int.eq_ofNat_of_zero_le h1
  unfold orI
  show IntKind.wrap .u64 ((BitVec.ofInt 64 (2 * (n : Int)) ||| BitVec.ofInt 64 1).toNat : Int) = _
  have hn : n < 9223372036854775808 := by omega
  have e : (BitVec.ofInt 64 (2 * (n : Int)) ||| BitVec.ofInt 64 1).toNat = 2 * n + 1 := by
    rw [BitVec.toNat_or, BitVec.toNat_ofInt, BitVec.toNat_ofInt]
    have e1 : ((2 * (n : Int)) % ((2 ^ 64 : Nat) : Int)).toNat = 2 * n := by omega
    have e2 : ((1 : Int) % ((2 ^ 64 : Nat) : Int)).toNat = 1 := by omega
    rw [e1, e2]
    have := Nat.two_pow_add_eq_or_of_lt (i := 1) (b := 1) (by omega) n
    rw [Nat.pow_one] at this
    omega
  rw [e, qiW _ (by omega)]
  omega
end W

set_option linter.unusedSimpArgs false
set_option linter.unusedVariables false
namespace W
open Go (IntKind BinOp UnOp)
set_option maxRecDepth 20000
theorem qrB {x : Int} (h1 : -2147483648 ≤ x) (h2 : x ≤ 2147483647) : zig x < 2 ^ 64 := by unfold zig; split <;> omega
theorem qqE {x : Int} {H : List Obj} (h1 : -2147483648 ≤ x) (h2 : x ≤ 2147483647) : kK pg 22 [.d (.i .i64 x)] H = some ⟨false, true, .d (.i .u64 (zig x : Int)), H, H.length⟩ := by
  rw [jE (fn := y9) rfl rfl]
  by_cases h : 0 ≤ x
  · have e1 : wr .u64 x = x := qcD h (by omega)
    have e2 : wr .u64 (x * 2 ^ (min (1 : Int).toNat (IntKind.bits .u64))) = (zig x : Int) := by
      show wr .u64 (x * 2 ^ 1) = _
      rw [qcD (by omega) (by omega), zig, if_pos h]; omega
    simp only [y9, qi, qvF, qp, ql, qk, qf, qc, kH, qA, qD, qT, qa, qb, kC, reduceCtorEq, qs, qr, qm, qn, qe, kf, kx, qvK, ym, h, decide_true, qh, qj, qw, ↓reduceIte, qE, e1, Int.reduceLE, qaM, e2, qJ, qL, qM, qd, qx, kq, qg, qo, ko, qK, zk, kN, qF]
  · have e0 : wr .i64 (x + 1) = x + 1 := jt (by omega) (by omega)
    have e1 : wr .i64 (0 - (x + 1)) = -x - 1 := by rw [jt (by omega) (by omega)]; omega
    have e2 : wr .u64 (-x - 1) = -x - 1 := qcD (by omega) (by omega)
    have e3 : wr .u64 ((-x - 1) * 2 ^ (min (1 : Int).toNat (IntKind.bits .u64))) = 2 * (-x - 1) := by
      show wr .u64 ((-x - 1) * 2 ^ 1) = _
      rw [qcD (by omega) (by omega)]; omega
    have e4 : orI .u64 (2 * (-x - 1)) 1 = (zig x : Int) := by
      rw [qvh (by omega) (by omega), zig, if_neg h]; omega
    simp only [y9, qi, qvF, qp, ql, qk, qf, qc, kH, qA, qD, qT, qa, qb, kC, reduceCtorEq, qs, qr, qm, qn, qe, kf, kx, qvK, ym, h, decide_false, qh, qj, qw, qvA, ↓reduceIte, qI, jF, e0, kL, qkq, e1, qvH, qE, e2, Int.reduceLE, qaM, e3, qbJ, e4, qJ, qM, qd, qx, kq, qg, qo, ko, qK, zk, kN, qF]
end W

/-
  Two operands: numbers, texts, equality.
-/
set_option linter.unusedSimpArgs false
set_option linter.unusedVariables false
namespace W
open Go (World Value Addr IntKind Program TypeId FuncId Operand Act Oper Next Result Sem BinOp UnOp)
theorem qeN {P : Program} {w : World} (op : BinOp) (t : TypeId) (x y : Operand) (k k' : IntKind) (a b : Int) : (Go.eqGuard op t x y (.int k a) (.int k' b)).run P w = .ok () w := by
  cases op <;> simp [Go.eqGuard]
theorem qiv {P : Program} {w : World} (op : BinOp) (t : TypeId) (x y : Operand) (a b : ByteArray) : (Go.eqGuard op t x y (.string a) (.string b)).run P w = .ok () w := by
  cases op <;> simp [Go.eqGuard]
theorem qhK {P : Program} {w : World} (op : BinOp) (t : TypeId) (x y : Operand) (a b : Bool) : (Go.eqGuard op t x y (.bool a) (.bool b)).run P w = .ok () w := by
  cases op <;> simp [Go.eqGuard]
theorem qna {P : Program} {w : World} {op : BinOp} {t : TypeId} {k : IntKind} {a b : Int} {z : D} (hs : qbP op = false) (h : qdD op k a b = some z) {pub : Nat → Nat} :
    ∃ c, (Go.binOp op t (.int k a) (.int k b)).run P w = .ok c w ∧ RepD pub w z c := by
  have nz : eqI b 0 = false → b ≠ 0 := fun hb => by rw [qgj, beq_eq_false_iff_ne] at hb; exact hb
  have lt1 : (!leI b a) = decide (a < b) := by rw [qgn, ← decide_not]; congr 1; exact propext Int.not_le
  have lt2 : (!leI a b) = decide (a > b) := by rw [qgn, ← decide_not]; congr 1; exact propext Int.not_le
  cases op <;> simp only [qbP, Bool.true_eq_false, reduceCtorEq] at hs <;> simp only [qdD, qcK, Option.some.injEq, qvH, reduceCtorEq, Option.map_none] at h
  case add => subst h; exact ⟨.int k (k.wrap (a + b)), by simp [Go.binOp, Go.Op.intArith], by rw [qic]; exact .i _ _⟩
  case sub => subst h; exact ⟨.int k (k.wrap (a - b)), by simp [Go.binOp, Go.Op.intArith], by rw [qic]; exact .i _ _⟩
  case mul => subst h; exact ⟨.int k (k.wrap (a * b)), by simp [Go.binOp, Go.Op.intArith], by rw [qic]; exact .i _ _⟩
  case quo =>
    cases hb : eqI b 0 with
    | true => simp [hb] at h
    | false =>
      simp only [hb, cond_false, Option.some.injEq] at h
      subst h
      exact ⟨.int k (k.wrap (a.tdiv b)), by simp [Go.binOp, Go.Op.intDiv, nz hb], by rw [qic]; exact .i _ _⟩
  case rem =>
    cases hb : eqI b 0 with
    | true => simp [hb] at h
    | false =>
      simp only [hb, cond_false, Option.some.injEq] at h
      subst h
      exact ⟨.int k (a.tmod b), by simp [Go.binOp, Go.Op.intDiv, nz hb], .i _ _⟩
  case and => subst h; exact ⟨_, by simp only [Go.binOp, ne_eq, not_true_eq_false, if_false, Go.Op.intBits]; rfl, .i _ _⟩
  case or => subst h; exact ⟨_, by simp only [Go.binOp, ne_eq, not_true_eq_false, if_false, Go.Op.intBits]; rfl, .i _ _⟩
  case xor => subst h; exact ⟨_, by simp only [Go.binOp, ne_eq, not_true_eq_false, if_false, Go.Op.intBits]; rfl, .i _ _⟩
  case andNot => subst h; exact ⟨_, by simp only [Go.binOp, ne_eq, not_true_eq_false, if_false, Go.Op.intBits]; rfl, .i _ _⟩
  case eql => subst h; exact ⟨.bool (a == b), by simp [Go.binOp, Go.Op.intCmp], by rw [qgj]; exact .b _⟩
  case neq => subst h; exact ⟨.bool (a != b), by simp [Go.binOp, Go.Op.intCmp], by rw [qgj]; exact .b _⟩
  case lss => subst h; exact ⟨.bool (decide (a < b)), by simp [Go.binOp, Go.Op.intCmp], by rw [lt1]; exact .b _⟩
  case leq => subst h; exact ⟨.bool (decide (a ≤ b)), by simp [Go.binOp, Go.Op.intCmp], by rw [qgn]; exact .b _⟩
  case gtr => subst h; exact ⟨.bool (decide (a > b)), by simp [Go.binOp, Go.Op.intCmp], by rw [lt2]; exact .b _⟩
  case geq => subst h; exact ⟨.bool (decide (a ≥ b)), by simp [Go.binOp, Go.Op.intCmp], by rw [qgn]; exact .b _⟩
theorem qoB {P : Program} {w : World} {op : BinOp} {t : TypeId} {k k' : IntKind} {a b : Int} {z : D} (hs : qbP op = true) (h : qdV op k a b = some z) {pub : Nat → Nat} :
    ∃ c, (Go.binOp op t (.int k a) (.int k' b)).run P w = .ok c w ∧ RepD pub w z c := by
  unfold qdV at h
  cases hb : leI 0 b with
  | false => simp [hb] at h
  | true =>
    have h0 : ¬ b < 0 := by rw [qgn, decide_eq_true_iff] at hb; omega
    simp only [hb, qvN, cond_false] at h
    cases op <;> simp only [qbP, qvA] at hs <;> simp only [Option.some.injEq] at h <;> subst h
    · exact ⟨.int k (k.wrap (a * 2 ^ (min b.toNat k.bits))), by simp [Go.binOp, Go.Op.shift, h0], by rw [qic]; exact .i _ _⟩
    · exact ⟨.int k (a.fdiv (2 ^ (min b.toNat k.bits))), by simp [Go.binOp, Go.Op.shift, h0], .i _ _⟩
theorem ql3 {P : Program} {w : World} {op : BinOp} {t : TypeId} {x y : ByteArray} {z : D} (h : qix op (x.data.toList.map (·.toNat)) (y.data.toList.map (·.toNat)) = some z) {pub : Nat → Nat} :
    ∃ c, (Go.binOp op t (.string x) (.string y)).run P w = .ok c w ∧ RepD pub w z c := by
  have e1 : ∀ a b : ByteArray, eqT (a.data.toList.map (·.toNat)) (b.data.toList.map (·.toNat)) = (a.toList == b.toList) := fun a b => by rw [qjw, qgm]
  have e2 : ∀ a b : ByteArray, qbd (a.data.toList.map (·.toNat)) (b.data.toList.map (·.toNat)) = Go.Op.bytesLess a.toList b.toList := fun a b => by
    rw [qh3, Go.Lib.toList_data, Go.Lib.toList_data]
  cases op <;> simp only [qix, reduceCtorEq, Option.some.injEq, e1, e2] at h
  case add =>
    split at h
    · rename_i hl
      simp only [Option.some.injEq] at h
      subst h
      simp only [List.length_map] at hl
      have hsz : ¬ ((((x.size + y.size : Nat) : Int)) > IntKind.i64.max) := by
        have e : IntKind.i64.max = 9223372036854775807 := rfl
        rw [e]
        have a1 : x.data.toList.length = x.size := by rw [Array.length_toList]; rfl
        have a2 : y.data.toList.length = y.size := by rw [Array.length_toList]; rfl
        omega
      refine ⟨.string (x ++ y), ?_, .s _ _ ?_⟩
      · simp only [Go.binOp, Go.Op.stringOp, if_neg hsz, Sem.run_pure]
      · simp
    · cases h
  case eql => subst h; exact ⟨.bool (x.toList == y.toList), by simp [Go.binOp, Go.Op.stringOp], .b _⟩
  case neq => subst h; exact ⟨.bool (!(x.toList == y.toList)), by simp [Go.binOp, Go.Op.stringOp], .b _⟩
  case lss => subst h; exact ⟨.bool (Go.Op.bytesLess x.toList y.toList), by simp [Go.binOp, Go.Op.stringOp], .b _⟩
  case leq => subst h; exact ⟨.bool (Go.Op.bytesLess x.toList y.toList || x.toList == y.toList), by simp [Go.binOp, Go.Op.stringOp], .b _⟩
  case gtr => subst h; exact ⟨.bool (!(Go.Op.bytesLess x.toList y.toList || x.toList == y.toList)), by simp [Go.binOp, Go.Op.stringOp], .b _⟩
  case geq => subst h; exact ⟨.bool (!Go.Op.bytesLess x.toList y.toList), by simp [Go.binOp, Go.Op.stringOp], .b _⟩
theorem qcf {P : Program} {t : TypeId} {d : Go.TypeDesc} (h : P.underlying t = some d) (w : World) : (Go.isAgg t).run P w = .ok (qgh d) w := by
  unfold Go.isAgg
  rw [Sem.run_bind, Go.run_underlying h]
  cases d <;> rfl
theorem qcS {P : Program} {w : World} {d : Nat} : ∀ {fs : List Go.Field} {i : Nat} {ks : List Nat} {l r : List D} {xs ys : Array Value} {z : Bool} {pub : Nat → Nat},
    qdl P i fs = some ks → RepDL pub w l (xs.toList.drop i) → RepDL pub w r (ys.toList.drop i) → D.scalarSame ks l r = some z →
    (Go.Op.eqFields (d + 1) xs ys fs).run P w = .ok z w
  | [], i, ks, l, r, xs, ys, z, pub, hk, hl, hr, hz => by
    simp only [qdl, Option.some.injEq] at hk
    subst hk
    cases l <;> cases r <;> simp [D.scalarSame] at hz
    subst hz
    simp [Go.Op.eqFields]
  | f :: fs, i, ks, l, r, xs, ys, z, pub, hk, hl, hr, hz => by
    simp only [qdl] at hk
    split at hk
    · rename_i hf
      simp only [qvB, bne_iff_ne, ne_eq, beq_iff_eq] at hf
      obtain ⟨hn, hoff⟩ := hf
      -- the two cells
      have cell : ∀ {m : List D} {vs : Array Value}, RepDL pub w m (vs.toList.drop i) → ∀ {x : D} {m' : List D}, m = x :: m' → ∃ c, vs[i]? = some c ∧ RepD pub w x c ∧ RepDL pub w m' (vs.toList.drop (i + 1)) := by
        intro m vs hm x m' e
        subst e
        generalize hdr : vs.toList.drop i = dv at hm
        cases hm with
        | cons _ c _ vs' hx hl' =>
          have h0 : (vs.toList.drop i)[0]? = some c := by rw [hdr]; rfl
          refine ⟨c, by simpa using h0, hx, ?_⟩
          have : vs.toList.drop (i + 1) = vs' := by
            have := congrArg List.tail hdr
            rw [List.tail_drop] at this
            simpa using this
          rw [this]; exact hl'
      have part1 : ∀ {vs : Array Value} {c : Value}, vs[i]? = some c → ∀ {dd : Go.TypeDesc}, P.underlying f.type = some dd → qgh dd = false → (Go.part f.type vs f.offset).run P w = .ok c w := by
        intro vs c hc dd hu hd
        rw [hoff]
        simp only [Go.part, Sem.run_bind, qcf hu w, hd, Result.andThen_ok, qvA, if_false, hc, Sem.run_pure]
      split at hk
      · rename_i rest hu hl' hrest
        simp only [Option.some.injEq] at hk
        subst hk
        match l, r, hz with
        | .b x :: l, .b y :: r, hz =>
          simp only [D.scalarSame] at hz
          split at hz
          · rename_i z' hz'
            simp only [Option.some.injEq] at hz
            subst hz
            obtain ⟨c1, h1, r1, t1⟩ := cell hl rfl
            obtain ⟨c2, h2, r2, t2⟩ := cell hr rfl
            have e1 := qe3 r1; have e2 := qe3 r2
            subst e1; subst e2
            simp only [Go.Op.eqFields, ne_eq, hn, not_false_eq_true, if_true, Sem.run_bind, part1 h1 hu rfl, part1 h2 hu rfl, Result.andThen_ok, Go.run_equalIn_bool' w d f.type x y hu]
            cases hxy : (x == y)
            · simp
            · simpa using qcS hrest t1 t2 hz'
          · cases hz
      · rename_i rest kk hu hl' hrest
        simp only [Option.some.injEq] at hk
        subst hk
        match l, r, hz with
        | .i k x :: l, .i k' y :: r, hz =>
          simp only [D.scalarSame] at hz
          cases hkk : eqK k k' with
          | false => simp [hkk] at hz
          | true =>
            have := qhn hkk
            subst this
            simp only [hkk, cond_true] at hz
            split at hz
            · rename_i z' hz'
              simp only [Option.some.injEq] at hz
              subst hz
              obtain ⟨c1, h1, r1, t1⟩ := cell hl rfl
              obtain ⟨c2, h2, r2, t2⟩ := cell hr rfl
              have e1 := y5 r1; have e2 := y5 r2
              subst e1; subst e2
              simp only [Go.Op.eqFields, ne_eq, hn, not_false_eq_true, if_true, Sem.run_bind, part1 h1 hu rfl, part1 h2 hu rfl, Result.andThen_ok, Go.run_equalIn_int w d f.type k rest x y hu, qgj]
              cases hxy : (x == y)
              · simp
              · simpa using qcS hrest t1 t2 hz'
            · cases hz
      · rename_i rest hu hl' hrest
        simp only [Option.some.injEq] at hk
        subst hk
        match l, r, hz with
        | .s x :: l, .s y :: r, hz =>
          simp only [D.scalarSame] at hz
          split at hz
          · rename_i z' hz'
            simp only [Option.some.injEq] at hz
            subst hz
            obtain ⟨c1, h1, r1, t1⟩ := cell hl rfl
            obtain ⟨c2, h2, r2, t2⟩ := cell hr rfl
            obtain ⟨s1, e1, f1⟩ := qb8 r1
            obtain ⟨s2, e2, f2⟩ := qb8 r2
            subst e1; subst e2; subst f1; subst f2
            simp only [Go.Op.eqFields, ne_eq, hn, not_false_eq_true, if_true, Sem.run_bind, part1 h1 hu rfl, part1 h2 hu rfl, Result.andThen_ok, Go.run_equalIn_string w d f.type s1 s2 hu, qjw, qgm]
            cases hxy : (s1.toList == s2.toList)
            · simp
            · simpa using qcS hrest t1 t2 hz'
          · cases hz
      · cases hk
    · cases hk
section
variable {P : Program} {M : Maps} {g : Gh} {w : World} {β : Nat → Nat} {st : St} {o : Oper} {a : Act}
inductive NilIs : Go.TypeDesc → Value → Bool → Prop
  | p0 (el : TypeId) : NilIs (.pointer el) (.pointer none) true
  | p1 (el : TypeId) (ad : Addr) : NilIs (.pointer el) (.pointer (some ad)) false
  | s0 (el : TypeId) : NilIs (.slice el) (.slice none 0 0) true
  | s1 (el : TypeId) (ad : Addr) (n m : Nat) : NilIs (.slice el) (.slice (some ad) n m) false
  | m0 (k e : TypeId) : NilIs (.map k e) (.map none) true
  | m1 (k e : TypeId) (r : Nat) : NilIs (.map k e) (.map (some r)) false
  | f0 (p r : Array TypeId) (q : Bool) : NilIs (.func p r q) .nilFunc true
  | f1 (p r : Array TypeId) (q : Bool) (f : Go.Fn) (x y : Array Value) : NilIs (.func p r q) (.func f x y) false
  | i0 (m : Array (String × TypeId)) : NilIs (.interface m) .nilIface true
  | i1 (m : Array (String × TypeId)) (t : TypeId) (x : Value) : NilIs (.interface m) (.iface t x) false
theorem qjB {kd : Kd} {t : TypeId} (ht : qin P t = some kd) {v : V} {e : Value} {b : Bool} (hv : RepV M g w β v e) (hb : V.isNil kd v = some b) :
    ∃ dd, P.underlying t = some dd ∧ NilIs dd e b := by
  have hk : (kd = .ptr → ∃ el, P.underlying t = some (.pointer el)) ∧ (kd = .slice → ∃ el, P.underlying t = some (.slice el)) ∧ (kd = .map → ∃ k el, P.underlying t = some (.map k el)) ∧
      (kd = .func → ∃ p r q, P.underlying t = some (.func p r q)) ∧ (kd = .iface → ∃ m, P.underlying t = some (.interface m)) := by
    unfold qin at ht
    refine ⟨?_, ?_, ?_, ?_, ?_⟩ <;> rintro rfl <;> split at ht <;> (try simp only [Option.some.injEq, reduceCtorEq] at ht) <;> first
      | exact ⟨_, by assumption⟩
      | exact ⟨_, _, by assumption⟩
      | exact ⟨_, _, _, by assumption⟩
      | (split at ht <;> first | (cases ht; done) | (rename_i fs _ _; cases hq : qdl P 0 fs.toList <;> simp [hq] at ht))
  obtain ⟨k1, k2, k3, k4, k5⟩ := hk
  unfold V.isNil at hb
  split at hb <;> simp only [Option.some.injEq, reduceCtorEq] at hb <;> try subst hb
  · obtain ⟨el, hu⟩ := k1 rfl; cases hv.inv_d; exact ⟨_, hu, .p0 el⟩
  · obtain ⟨el, hu⟩ := k1 rfl; obtain ⟨rfl, _⟩ := hv.inv_ptr; exact ⟨_, hu, .p1 el _⟩
  · obtain ⟨el, hu⟩ := k2 rfl; cases hv.inv_d; exact ⟨_, hu, .s0 el⟩
  · obtain ⟨el, hu⟩ := k2 rfl; cases hv.inv_d <;> exact ⟨_, hu, .s1 el _ _ _⟩
  · obtain ⟨el, hu⟩ := k2 rfl; cases hv with | s h => cases h; exact ⟨_, hu, .s1 el _ _ _⟩
  · obtain ⟨el, hu⟩ := k2 rfl; cases hv with | s h => cases h; exact ⟨_, hu, .s1 el _ _ _⟩
  · obtain ⟨k, el, hu⟩ := k3 rfl; cases hv.inv_d; exact ⟨_, hu, .m0 k el⟩
  · obtain ⟨k, el, hu⟩ := k3 rfl; cases hv with | s h => cases h; exact ⟨_, hu, .m1 k el _⟩
  · obtain ⟨p, r, q, hu⟩ := k4 rfl; cases hv.inv_d; exact ⟨_, hu, .f0 p r q⟩
  · obtain ⟨p, r, q, hu⟩ := k4 rfl; cases hv with | s h => cases h; exact ⟨_, hu, .f1 p r q _ _ _⟩
  · obtain ⟨m, hu⟩ := k5 rfl; cases hv.inv_d; exact ⟨_, hu, .i0 m⟩
  · obtain ⟨m, hu⟩ := k5 rfl; cases hv with | s h => cases h; exact ⟨_, hu, .i1 m _ _⟩
theorem qoH {t : TypeId} {dd : Go.TypeDesc} (hu : P.underlying t = some dd) {c d : Value} {b1 b2 : Bool} (h1 : NilIs dd c b1) (h2 : NilIs dd d b2) (hb : b1 = true ∨ b2 = true) (n : Nat) :
    (Go.Op.equalIn (n + 1) t c d).run P w = .ok (b1 && b2) w := by
  cases h1 <;> cases h2 <;> (try (simp at hb; done)) <;> simp only [Go.Op.equalIn, Sem.run_bind, Go.run_underlying hu, Result.andThen_ok] <;> rfl
theorem qpq {t : TypeId} {dd : Go.TypeDesc} {c d : Value} {b1 b2 : Bool} (h1 : NilIs dd c b1) (h2 : NilIs dd d b2) {xo yo : Operand} (hcst : (∃ v, xo = .const v) ∨ (∃ v, yo = .const v)) (op : BinOp) :
    (Go.eqGuard op t xo yo c d).run P w = .ok () w := by
  cases h1 <;> cases h2 <;> cases op <;> first
    | (simp only [Go.eqGuard]; rfl)
    | (simp only [Go.eqGuard]; rcases hcst with ⟨v, rfl⟩ | ⟨v, rfl⟩ <;> simp)
theorem qo4 {t : TypeId} {dd : Go.TypeDesc} {c d : Value} {b1 b2 : Bool} (h1 : NilIs dd c b1) (h2 : NilIs dd d b2) {op : BinOp} (hop : op = .eql ∨ op = .neq) :
    Go.binOp op t c d = (do let r ← Go.Op.equal t c d; pure (.bool (if op = .eql then r else !r))) := by
  rcases hop with rfl | rfl <;> cases h1 <;> cases h2 <;> simp [Go.binOp]
theorem qpA {kd : Kd} {t : TypeId} (ht : qin P t = some kd) {x y : V} {c d : Value} (hx : RepV M g w β x c) (hy : RepV M g w β y d) {z : Bool} (xo yo : Operand)
    (hcst : (∃ v, xo = .const v) ∨ (∃ v, yo = .const v))
    (h : (match V.isNil kd x, V.isNil kd y with
      | some true, some b => some b
      | some false, some true => some false
      | _, _ => none) = some z) :
    (Go.Op.equal t c d).run P w = .ok z w ∧ (∀ op, (Go.eqGuard op t xo yo c d).run P w = .ok () w) ∧ ∀ op, op = .eql ∨ op = .neq → Go.binOp op t c d = (do let r ← Go.Op.equal t c d; pure (.bool (if op = .eql then r else !r))) := by
  cases h1 : V.isNil kd x with
  | none => simp [h1] at h
  | some b1 => cases h2 : V.isNil kd y with
    | none => cases b1 <;> simp [h1, h2] at h
    | some b2 =>
      obtain ⟨dd, hu, n1⟩ := qjB ht hx h1
      obtain ⟨dd', hu', n2⟩ := qjB ht hy h2
      rw [hu] at hu'
      simp only [Option.some.injEq] at hu'
      subst hu'
      rw [h1, h2] at h
      refine ⟨?_, qpq n1 n2 hcst, fun op => qo4 n1 n2⟩
      have hm : Go.Op.equal t c d = Go.Op.equalIn (9999 + 1) t c d := rfl
      rw [hm]
      cases b1 <;> cases b2 <;> simp only [Option.some.injEq, reduceCtorEq] at h <;> subst h <;> exact qoH hu n1 n2 (by simp) _
theorem qrJ (hd : kp o a) (hR : Rel M g w β st a.tmps) {op : BinOp} {t yt : TypeId} {kd : Kd} {x y : Operand} {x' y' : O} (hx : opnd M false x = some x') (hy : opnd M false y = some y') (ht : qin P t = some kd)
    (ho : o.op = .binOp op t x y yt) {r : Or} (hr : qiw op kd x' y' st = some r) : Left1 P M g w o a r := by
  have h1 := kr hR hx
  have h2 := kr hR hy
  have cst : ∀ {q : Operand} {q' : O}, opnd M false q = some q' → isC q' = true → ∃ v, q = .const v := by
    intro q q' h hc
    cases q <;> simp only [opnd] at h
    · simp only [qvA, if_false, Option.some.injEq] at h; subst h; simp [isC] at hc
    · exact ⟨_, rfl⟩
    · rename_i f
      cases hl : look M.gl f with
      | none => rw [hl] at h; cases h
      | some z => rw [hl] at h; simp only [qvH, Option.some.injEq] at h; subst h; simp [isC] at hc
    · rename_i f
      cases hl : look M.fm f with
      | none => rw [hl] at h; cases h
      | some z => rw [hl] at h; simp only [qvH, Option.some.injEq] at h; subst h; simp [isC] at hc
  unfold qiw at hr
  split at hr
  · rename_i v hv
    -- what is to be shown
    suffices hs : ∃ c, (do Go.eqGuard op t x y (a.eval x) (a.eval y); Go.binOp op t (a.eval x) (a.eval y) : Sem Value).run P w = .ok c w ∧ RepV M g w β v c by
      obtain ⟨c, hc, hv'⟩ := hs
      refine qt hd hR hv' ?_ hr
      simp only [Go.execOp, ho]
      rw [Sem.run_bind, hc]
      rfl
    unfold qb2 at hv
    split at hv
    · split at hv
      · rename_i k p k' q e1 e2
        rw [e1] at h1; rw [e2] at h2
        have f1 := y5 h1.inv_d; have f2 := y5 h2.inv_d
        rw [f1, f2]
        cases hs : qbP op with
        | true =>
          simp only [hs, cond_true] at hv
          cases hz : qdV op k p q with
          | none => simp [hz] at hv
          | some z =>
            simp only [hz, qvH, Option.some.injEq] at hv
            subst hv
            obtain ⟨c, hc, hrep⟩ := qoB (P := P) (w := w) (t := t) (k' := k') hs hz (pub := g.pub)
            exact ⟨c, by rw [Sem.run_bind, qeN]; exact hc, .s (.d _ _ hrep)⟩
        | false =>
          simp only [hs, cond_false] at hv
          cases hkk : eqK k k' with
          | false => simp [hkk] at hv
          | true =>
            have := qhn hkk
            subst this
            simp only [hkk, cond_true] at hv
            cases hz : qdD op k p q with
            | none => simp [hz] at hv
            | some z =>
              simp only [hz, qvH, Option.some.injEq] at hv
              subst hv
              obtain ⟨c, hc, hrep⟩ := qna (P := P) (w := w) (t := t) hs hz (pub := g.pub)
              exact ⟨c, by rw [Sem.run_bind, qeN]; exact hc, .s (.d _ _ hrep)⟩
      · rename_i p q e1 e2
        rw [e1] at h1; rw [e2] at h2
        obtain ⟨s1, f1, g1⟩ := qb8 h1.inv_d
        obtain ⟨s2, f2, g2⟩ := qb8 h2.inv_d
        rw [f1, f2]
        cases hz : qix op p q with
        | none => simp [hz] at hv
        | some z =>
          simp only [hz, qvH, Option.some.injEq] at hv
          subst hv
          rw [← g1, ← g2] at hz
          obtain ⟨c, hc, hrep⟩ := ql3 (P := P) (w := w) (t := t) hz (pub := g.pub)
          exact ⟨c, by rw [Sem.run_bind, qiv]; exact hc, .s (.d _ _ hrep)⟩
      · cases hv
    · -- equality
      have key : ∀ {z : Bool}, qjG kd (isC x' || isC y') (rd st.env x') (rd st.env y') = some z →
          (Go.Op.equal t (a.eval x) (a.eval y)).run P w = .ok z w ∧ (∀ op, (Go.eqGuard op t x y (a.eval x) (a.eval y)).run P w = .ok () w) ∧
          ∀ op, op = .eql ∨ op = .neq → Go.binOp op t (a.eval x) (a.eval y) = (do let r ← Go.Op.equal t (a.eval x) (a.eval y); pure (.bool (if op = .eql then r else !r))) := by
        intro z hz
        unfold qjG at hz
        split at hz
        · split at hz
          · rename_i p q e1 e2
            rw [e1] at h1; rw [e2] at h2
            have f1 := qe3 h1.inv_d; have f2 := qe3 h2.inv_d
            simp only [Option.some.injEq] at hz
            subst hz
            rw [f1, f2]
            have hu : P.underlying t = some .bool := by
              unfold qin at ht
              split at ht <;> simp_all
            refine ⟨?_, fun op => qhK op t x y p q, ?_⟩
            · have hm : Go.Op.equal t (.bool p) (.bool q) = Go.Op.equalIn (9999 + 1) t (.bool p) (.bool q) := rfl
              rw [hm]
              exact Go.run_equalIn_bool' w 9999 t p q hu
            · rintro op (rfl | rfl) <;> simp [Go.binOp]
          · cases hz
        · rename_i ks
          split at hz
          · rename_i p q e1 e2
            rw [e1] at h1; rw [e2] at h2
            have r1 := h1.inv_d; have r2 := h2.inv_d
            generalize a.eval x = cx at r1 ⊢
            generalize a.eval y = cy at r2 ⊢
            cases r1 with
            | agg _ vs1 l1 => cases r2 with
              | agg _ vs2 l2 =>
                unfold qin at ht
                split at ht <;> (try simp only [Option.some.injEq, reduceCtorEq] at ht)
                rename_i fs hu
                split at ht
                · rename_i hcond
                  simp only [qvB, Bool.not_eq_true'] at hcond
                  cases hk : qdl P 0 fs.toList with
                  | none => simp [hk] at ht
                  | some ks' =>
                    simp only [hk, qvH, Option.some.injEq, Kd.agg.injEq] at ht
                    subst ht
                    have hfs : P.fieldsOf t = fs := by simp [Go.Program.fieldsOf, hu]
                    refine ⟨?_, fun op => Go.run_eqGuard_agg w op t x y vs1 vs2 hcond.1, ?_⟩
                    · have hm : Go.Op.equal t (.agg vs1) (.agg vs2) = Go.Op.equalIn (9998 + 1 + 1) t (.agg vs1) (.agg vs2) := rfl
                      rw [hm]
                      rw [Go.run_equalIn_struct w _ t vs1 vs2 (by rw [hfs]; exact hu) hcond.2, hfs]
                      exact qcS hk (by simpa using l1) (by simpa using l2) hz
                    · rintro op (rfl | rfl) <;> simp [Go.binOp]
                · cases ht
          · cases hz
        · cases hc : (isC x' || isC y') with
          | false => simp [hc] at hz
          | true =>
            simp only [hc, cond_true] at hz
            refine qpA ht h1 h2 x y ?_ hz
            simp only [Bool.or_eq_true] at hc
            exact hc.imp (fun h => cst hx h) (fun h => cst hy h)
      split at hv
      · cases hz : qjG kd (isC x' || isC y') (rd st.env x') (rd st.env y') with
        | none => simp [hz] at hv
        | some z =>
          simp only [hz, qvH, Option.some.injEq] at hv
          subst hv
          obtain ⟨k1, k2, k3⟩ := key hz
          exact ⟨.bool z, by rw [Sem.run_bind, k2, k3 _ (.inl rfl)]; simp [k1], .s (.d _ _ (.b z))⟩
      · cases hz : qjG kd (isC x' || isC y') (rd st.env x') (rd st.env y') with
        | none => simp [hz] at hv
        | some z =>
          simp only [hz, qvH, Option.some.injEq] at hv
          subst hv
          obtain ⟨k1, k2, k3⟩ := key hz
          exact ⟨.bool !z, by rw [Sem.run_bind, k2, k3 _ (.inr rfl)]; simp [k1], .s (.d _ _ (.b _))⟩
      · cases hv
  · cases hr
end
end W

/-
  Reads: of boxes, of objects, of what never changes.
-/
set_option linter.unusedSimpArgs false
set_option linter.unusedVariables false
namespace W
open Go (World Value Addr IntKind Program TypeId FuncId Operand Act Oper Next Result Sem BinOp UnOp)
theorem y3 {P : Program} {t : TypeId} {l : L} (h : lay P t = some l) : ∃ i d, P.info? t = some i ∧ P.underlying t = some d ∧ l = ⟨i.size, qgh d⟩ := by
  unfold lay at h
  split at h
  · rename_i i d h1 h2
    simp only [Option.some.injEq] at h
    exact ⟨i, d, h1, h2, h.symm⟩
  · cases h
theorem jp (b off i : Nat) : (⟨b, off, none⟩ : Addr).add i = ⟨b, off + i, none⟩ := by
  unfold Addr.add
  split
  · rename_i h; simp [h]
  · rfl
theorem jR {P : Program} {t : TypeId} {i : Go.TypeInfo} (h : P.info? t = some i) (w : World) : (Go.sizeOf t).run P w = .ok i.size w := by
  simp [Go.sizeOf, Go.typeInfo, h]
theorem yG {P : Program} {w : World} {t : TypeId} {l : L} (hl : lay P t = some l) {b off : Nat} {vs : List Value} (hc : ∀ j v, vs[j]? = some v → w.cell? ⟨b, off + j, none⟩ = some v) :
    (l.agg = true → vs.length = l.n → (Go.loadVar t ⟨b, off, none⟩).run P w = .ok (.agg vs.toArray) w) ∧
    (l.agg = false → ∀ v, vs[0]? = some v → (Go.loadVar t ⟨b, off, none⟩).run P w = .ok v w) := by
  obtain ⟨i, d, hi, hu, rfl⟩ := y3 hl
  refine ⟨fun ha hn => ?_, fun ha v hv => ?_⟩
  · simp only at ha hn
    have h1 := Go.run_loadCells_list (P := P) w ⟨b, off, none⟩ vs (fun j v hj => by rw [jp]; exact hc j v hj)
    unfold Go.loadVar
    rw [Sem.run_bind, qcf hu, ha]
    simp only [Result.andThen_ok, if_true, Sem.run_bind, jR hi, ← hn, h1, Sem.run_pure]
  · simp only at ha
    unfold Go.loadVar
    rw [Sem.run_bind, qcf hu, ha]
    have := hc 0 v hv
    simp only [Nat.add_zero] at this
    simp [this]
theorem RepC.read {M : Maps} {g : Gh} {w : World} {ℓ : Loc} {v : V} {c : Value} (h : RepC M g w ℓ v c) : RepS M g w (yS v) c := by
  cases h with
  | s h =>
    have : yS v = v := by cases h <;> rfl
    rw [this]; exact h
  | osl h => exact .d _ _ h.rep
theorem qj0 {M : Maps} {g : Gh} {w : World} {f : Nat → Loc} : ∀ {cs : List V} {vs : List Value} (k : Nat), cs.length = vs.length → (∀ i x v, cs[i]? = some x → vs[i]? = some v → RepC M g w (f (k + i)) x v) →
    RepSL M g w (cs.map yS) vs
  | [], [], _, _, _ => .nil
  | [], _ :: _, _, h, _ => by simp at h
  | _ :: _, [], _, h, _ => by simp at h
  | x :: cs, v :: vs, k, h, hr => by
    refine .cons _ _ _ _ ((hr 0 x v rfl rfl).read) (qj0 (f := f) (k + 1) (by simpa using h) (fun i y u hy hu => ?_))
    have := hr (i + 1) y u (by simpa using hy) (by simpa using hu)
    rwa [show k + (i + 1) = k + 1 + i by omega] at this
theorem qhi {P : Program} {M : Maps} {g : Gh} {w : World} {f : Nat → Loc} {t : TypeId} {l : L} (hl : lay P t = some l) {b off : Nat} {cs : List V} {arr : Array Value} {T : TypeId} {fz : Nat × Nat}
    (hb : w.heap[b]? = some (.cells arr T fz)) (hlen : cs.length ≤ arr.size) (hr : ∀ (i : Nat) x v, cs[i]? = some x → arr[i]? = some v → RepC M g w (f i) x v) {v : V} (h : V.part off l cs = some v) :
    ∃ c, (Go.loadVar t ⟨b, off, none⟩).run P w = .ok c w ∧ RepS M g w v c := by
  have hcell : ∀ o, w.cell? ⟨b, o, none⟩ = arr[o]? := fun o => by simp [World.cell?, hb]
  unfold V.part at h
  cases ha : l.agg with
  | true =>
    simp only [ha, if_true] at h
    split at h
    · rename_i hle
      simp only [Option.some.injEq] at h
      subst h
      let vs := (arr.toList.drop off).take l.n
      have hvl : vs.length = l.n := by simp [vs]; omega
      have hvs : ∀ j u, vs[j]? = some u → arr[off + j]? = some u := fun j u hj => by
        have hj' : j < l.n := by rw [← hvl]; exact (List.getElem?_eq_some_iff.1 hj).1
        simp only [vs, List.getElem?_take, hj', if_true, List.getElem?_drop] at hj
        simpa using hj
      have h1 := (yG (P := P) hl (fun j u hj => by rw [hcell]; exact hvs j u hj)).1 ha hvl
      refine ⟨_, h1, ?_⟩
      have hcs : ((cs.drop off).take l.n).length = vs.length := by rw [hvl]; simp; omega
      have h2 : RepSL M g w (((cs.drop off).take l.n).map yS) vs := qj0 (f := f) off hcs (fun i x u hx hu => by
        have hi : i < l.n := by rw [← hvl]; exact (List.getElem?_eq_some_iff.1 hu).1
        have hx' : cs[off + i]? = some x := by simpa [List.getElem?_take, hi, List.getElem?_drop] using hx
        exact hr (off + i) x u hx' (hvs i u hu))
      exact qfD (by simpa using h2)
    · cases h
  | false =>
    simp only [ha, qvA, if_false] at h
    cases hx : cs[off]? with
    | none => simp [hx] at h
    | some x =>
      simp only [hx, qvH, Option.some.injEq] at h
      subst h
      have hlt : off < arr.size := Nat.lt_of_lt_of_le (List.getElem?_eq_some_iff.1 hx).1 hlen
      have hv : arr[off]? = some arr[off] := by simp [hlt]
      refine ⟨arr[off], ?_, (hr off x _ hx hv).read⟩
      exact (yG (P := P) (vs := [arr[off]]) hl (fun j u hj => by
        rw [hcell]
        cases j with
        | zero => simp at hj; subst hj; simp
        | succ j => simp at hj)).2 ha _ rfl
section
variable {P : Program} {M : Maps} {g : Gh} {w : World} {β : Nat → Nat} {st : St} {o : Oper} {a : Act}
theorem qiL {l : L} {t : TypeId} (hl : lay P t = some l) (hR : Rel M g w β st a.tmps) {p : V} {pc : Value} (hp : RepV M g w β p pc) {v : V} (h : zE l st p = some v) :
    ∃ c, (Go.Instr.loadAt t pc).run P w = .ok c w ∧ RepS M g w v c := by
  unfold zE at h
  split at h
  · rename_i s off
    have e := hp.inv_lp
    subst e
    split at h
    · rename_i cs hbox
      have hs := hR.e s
      rw [hbox] at hs
      generalize a.tmps.getD s Go.undef = cc at hs
      cases hs with
      | s h => cases h
      | box _ arr T hb ho hp0 hlen hr =>
        obtain ⟨c, hc, hrep⟩ := qhi (P := P) hl hb (Nat.le_of_eq hlen) hr h
        exact ⟨c, by simpa [Go.Instr.loadAt, Go.Instr.sureAddr] using hc, hrep⟩
    · cases h
  · rename_i x
    obtain ⟨b, off, vs, e, hr, hc, hpub⟩ := hp.inv_cp
    subst e
    have hlen := hr.length
    cases ha : l.agg with
    | true =>
      simp only [ha, if_true] at h
      split at h
      · rename_i cs
        split at h
        · rename_i hn
          simp only [Option.some.injEq] at h
          subst h
          have hr' : RepDL g.pub w cs vs := hr
          refine ⟨.agg vs.toArray, ?_, .d _ _ (.agg cs _ (by simpa using hr'))⟩
          have := (yG (P := P) hl hc).1 ha (by rw [← hlen]; exact hn)
          simpa [Go.Instr.loadAt, Go.Instr.sureAddr] using this
        · cases h
      · cases h
    | false =>
      simp only [ha, qvA, if_false] at h
      split at h
      · cases h
      · rename_i hne
        simp only [Option.some.injEq] at h
        subst h
        have hx : x.cells = [x] := by cases x <;> first | rfl | exact absurd rfl (hne _)
        rw [hx] at hr
        cases hr with
        | cons _ c _ vs' h1 h2 =>
          cases h2
          refine ⟨c, ?_, .d _ _ h1⟩
          have := (yG (P := P) hl hc).2 ha c rfl
          simpa [Go.Instr.loadAt, Go.Instr.sureAddr] using this
  · rename_i id off
    obtain ⟨e, hid⟩ := hp.inv_ptr
    subst e
    split at h
    · rename_i cs hH
      have ho := hR.h id _ hH
      cases ho with
      | cells _ arr T fz hb hz ho hp0 hlen hr =>
        obtain ⟨c, hc, hrep⟩ := qhi (P := P) hl hb hlen hr h
        exact ⟨c, by simpa [Go.Instr.loadAt, Go.Instr.sureAddr] using hc, hrep⟩
    · rename_i k cs hH
      have ho := (hR.h id _ hH).rowCells
      cases ho with
      | cells _ arr T fz hb hz ho hp0 hlen hr =>
        obtain ⟨c, hc, hrep⟩ := qhi (P := P) hl hb hlen hr h
        exact ⟨c, by simpa [Go.Instr.loadAt, Go.Instr.sureAddr] using hc, hrep⟩
    · cases h
  · cases h
theorem qlX (hd : kp o a) (hR : Rel M g w β st a.tmps) {t : TypeId} {l : L} (hl : lay P t = some l) {sl : Option Nat} {x : Operand} {x' : O} (hx : opnd M false x = some x')
    (ho : o.op = .load t x) {r : Or} (hr : qaZ false sl l x' st = some r) : Left1 P M g w o a r := by
  have h1 := kr hR hx
  unfold qaZ at hr
  cases hs : zf sl (rd st.env x') with
  | false => simp [hs] at hr
  | true =>
    simp only [hs, qvN, cond_false] at hr
    split at hr
    · rename_i v hv
      obtain ⟨c, hc, hrep⟩ := qiL hl hR h1 hv
      exact qt hd hR (.s hrep) (by simp only [Go.execOp, ho]; rw [Sem.run_bind, hc]; rfl) hr
    · cases hr
theorem qpw {pub : Nat → Nat} {f : Go.Field} {off : Nat} {l : L} (hl : lay P f.type = some l) {cs : List D} {vs : Array Value} (h : RepDL pub w cs vs.toList) {y : D} (hy : D.part off l cs = some y) :
    ∃ c, (Go.part f.type vs off).run P w = .ok c w ∧ RepD pub w y c := by
  obtain ⟨i, d, hi, hu, rfl⟩ := y3 hl
  have hlen := h.length
  unfold D.part at hy
  cases ha : qgh d with
  | true =>
    simp only [ha, if_true] at hy
    split at hy
    · rename_i hle
      simp only [Option.some.injEq] at hy
      subst hy
      refine ⟨.agg (vs.extract off (off + i.size)), ?_, ?_⟩
      · simp only [Go.part, Sem.run_bind, qcf hu w, ha, Result.andThen_ok, if_true, jR hi, Sem.run_pure]
      · refine .agg _ _ ?_
        have := (h.drop off).take i.size
        simpa [Array.toList_extract, List.drop_take, Nat.add_sub_cancel_left] using this
    · cases hy
  | false =>
    simp only [ha, qvA, if_false] at hy
    obtain ⟨c, hc, hrep⟩ := h.get off y hy
    exact ⟨c, by simp only [Go.part, Sem.run_bind, qcf hu w, ha, Result.andThen_ok, qvA, if_false]; simp at hc; simp [hc], hrep⟩
theorem qoF (hd : kp o a) (hR : Rel M g w β st a.tmps) {t : TypeId} {fs : Array Go.Field} (ht : P.underlying t = some (.struct fs)) {f : Nat} {fd : Go.Field} (hf : fs[f]? = some fd) {l : L} (hl : lay P fd.type = some l)
    {x : Operand} {x' : O} (hx : opnd M false x = some x') (ho : o.op = .field t x f) {r : Or} (hr : qdG x' fd.offset l st = some r) : Left1 P M g w o a r := by
  have h1 := kr hR hx
  have run : ∀ {vs : Array Value} {c : Value}, a.eval x = .agg vs → (Go.part fd.type vs fd.offset).run P w = .ok c w → (Go.execOp a.eval o).run P w = .ok (.value c) w := by
    intro vs c he hp
    simp only [Go.execOp, ho, Go.Instr.field, Sem.run_bind, Go.run_underlying ht, Result.andThen_ok, hf, he, Go.asAgg, Sem.run_pure, hp]
  unfold qdG at hr
  split at hr
  · rename_i cs hz
    rw [hz] at h1
    have h2 := h1.inv_d
    split at hr
    · rename_i y hy
      generalize hc : a.eval x = cc at h2
      cases h2 with
      | agg _ vs hvs =>
        obtain ⟨c, hc', hrep⟩ := qpw hl hvs hy
        exact qt hd hR (.s (.d _ _ hrep)) (run hc hc') hr
    · cases hr
  · rename_i cs hz
    rw [hz] at h1
    split at hr
    · rename_i y hy
      generalize hc : a.eval x = cc at h1
      cases h1 with
      | s h1 => cases h1 with
        | agg _ vs hvs =>
          obtain ⟨i, d, hi, hu, rfl⟩ := y3 hl
          have hlen := hvs.length
          unfold V.part at hy
          cases ha : qgh d with
          | true =>
            simp only [ha, if_true] at hy
            split at hy
            · rename_i hle
              simp only [Option.some.injEq] at hy
              subst hy
              refine qt hd hR (.s ?_) (run hc (c := .agg (vs.extract fd.offset (fd.offset + i.size))) ?_) hr
              · rw [qht (vs := ((vs.toList.drop fd.offset).take i.size))]
                · refine qfD ?_
                  have : RepSL M g w ((cs.drop fd.offset).take i.size) ((vs.toList.drop fd.offset).take i.size) := by
                    clear hle hlen
                    generalize fd.offset = off
                    generalize vs.toList = vl at hvs
                    have dr : ∀ {cs : List V} {vl : List Value} (n : Nat), RepSL M g w cs vl → RepSL M g w (cs.drop n) (vl.drop n) := by
                      intro cs vl n
                      induction n generalizing cs vl with
                      | zero => exact fun h => h
                      | succ n ih => intro h; cases h with | nil => simpa using RepSL.nil | cons _ _ _ _ _ hl => exact ih hl
                    have tk : ∀ {cs : List V} {vl : List Value} (n : Nat), RepSL M g w cs vl → RepSL M g w (cs.take n) (vl.take n) := by
                      intro cs vl n
                      induction n generalizing cs vl with
                      | zero => exact fun _ => .nil
                      | succ n ih => intro h; cases h with | nil => simpa using RepSL.nil | cons _ _ _ _ hx hl => exact .cons _ _ _ _ hx (ih hl)
                    exact tk _ (dr _ hvs)
                  simpa [Array.toList_extract, List.drop_take, Nat.add_sub_cancel_left] using this
                · have dr : ∀ {cs : List V} {vl : List Value} (n : Nat), RepSL M g w cs vl → RepSL M g w (cs.drop n) (vl.drop n) := by
                    intro cs vl n
                    induction n generalizing cs vl with
                    | zero => exact fun h => h
                    | succ n ih => intro h; cases h with | nil => simpa using RepSL.nil | cons _ _ _ _ _ hl => exact ih hl
                  have tk : ∀ {cs : List V} {vl : List Value} (n : Nat), RepSL M g w cs vl → RepSL M g w (cs.take n) (vl.take n) := by
                    intro cs vl n
                    induction n generalizing cs vl with
                    | zero => exact fun _ => .nil
                    | succ n ih => intro h; cases h with | nil => simpa using RepSL.nil | cons _ _ _ _ hx hl => exact .cons _ _ _ _ hx (ih hl)
                  exact tk _ (dr _ hvs)
              · simp only [Go.part, Sem.run_bind, qcf hu w, ha, Result.andThen_ok, if_true, jR hi, Sem.run_pure]
            · cases hy
          | false =>
            simp only [ha, qvA, if_false] at hy
            cases hq : cs[fd.offset]? with
            | none => simp [hq] at hy
            | some q =>
              simp only [hq, qvH, Option.some.injEq] at hy
              subst hy
              obtain ⟨c, hc', hrep⟩ := hvs.get _ q hq
              have e : yS q = q := by cases hrep <;> rfl
              rw [e] at hr
              refine qt hd hR (.s hrep) (run hc (c := c) ?_) hr
              simp only [Go.part, Sem.run_bind, qcf hu w, ha, Result.andThen_ok, qvA, if_false]; simp at hc'; simp [hc']
    · cases hr
  · cases hr
end
end W

/-
  Places, pieces of slices and texts, lengths, look-ups.
-/
set_option linter.unusedSimpArgs false
set_option linter.unusedVariables false
namespace W
open Go (World Value Addr IntKind Program TypeId FuncId Operand Act Oper Next Result Sem BinOp UnOp)
theorem RepV.ok {M : Maps} {g : Gh} {w : World} {β : Nat → Nat} {v : V} {c : Value} (h : RepV M g w β v c) (hv : v.ok = true) : RepS M g w v c := by
  cases h with
  | s h => exact h
  | lp s off => simp [V.ok] at hv
  | cp x b off vs hr hc hp => simp [V.ok] at hv
theorem qd5 {x : D} (h : x.one = true) : x.cells = [x] := by cases x <;> first | rfl | (simp [D.one] at h)
theorem qlU : ∀ (xs : List D) (sz n : Nat) (y : D), (∀ x ∈ xs, x.cells.length = sz) → xs[n]? = some y →
    ((xs.flatMap D.cells).drop (n * sz)).take sz = y.cells
  | [], _, _, _, _, h => by simp at h
  | x :: xs, sz, 0, y, hs, h => by
    simp only [qvS, Option.some.injEq] at h
    subst h
    have := hs x (by simp)
    simp only [Nat.zero_mul, List.drop_zero, List.flatMap_cons]
    rw [← this, List.take_left']
    rfl
  | x :: xs, sz, n + 1, y, hs, h => by
    have h0 := hs x (by simp)
    simp only [List.flatMap_cons]
    rw [show (n + 1) * sz = x.cells.length + n * sz by rw [h0, Nat.succ_mul]; omega, ← List.drop_drop, List.drop_left' rfl]
    exact qlU xs sz n y (fun z hz => hs z (by simp [hz])) (by simpa using h)
theorem z8 : ∀ (xs : List D) (sz : Nat), (∀ x ∈ xs, x.cells.length = sz) → (xs.flatMap D.cells).length = xs.length * sz
  | [], _, _ => by simp
  | x :: xs, sz, h => by
    simp only [List.flatMap_cons, List.length_append, qvP, z8 xs sz (fun z hz => h z (by simp [hz])), h x (by simp), Nat.succ_mul]
    omega
theorem qhC : ∀ (xs : List D) (sz n : Nat), (∀ x ∈ xs, x.cells.length = sz) → n ≤ xs.length → (xs.drop n).flatMap D.cells = (xs.flatMap D.cells).drop (n * sz)
  | xs, sz, 0, _, _ => by simp
  | [], sz, n + 1, _, h => by simp at h
  | x :: xs, sz, n + 1, hs, h => by
    have h0 := hs x (by simp)
    simp only [List.drop_succ_cons, List.flatMap_cons]
    rw [qhC xs sz n (fun z hz => hs z (by simp [hz])) (by simpa using h), show (n + 1) * sz = x.cells.length + n * sz by rw [h0, Nat.succ_mul]; omega, ← List.drop_drop, List.drop_left' rfl]
theorem qhq : ∀ (xs : List D) (sz n : Nat), (∀ x ∈ xs, x.cells.length = sz) → (xs.take n).flatMap D.cells = (xs.flatMap D.cells).take (n * sz)
  | xs, sz, 0, _ => by simp
  | [], sz, n + 1, _ => by simp
  | x :: xs, sz, n + 1, hs => by
    have h0 := hs x (by simp)
    simp only [List.take_succ_cons, List.flatMap_cons]
    rw [qhq xs sz n (fun z hz => hs z (by simp [hz])), show (n + 1) * sz = x.cells.length + n * sz by rw [h0, Nat.succ_mul]; omega, List.take_length_add_append]
theorem qdp {P : Program} {w : World} (k : IntKind) (n : Int) : (Go.asIntOf (.int k n)).run P w = .ok (k, n) w := rfl
section
variable {P : Program} {M : Maps} {g : Gh} {w : World} {β : Nat → Nat} {st : St} {o : Oper} {a : Act}
theorem qjy {t : TypeId} {l : L} (hl : lay P t = some l) (h0 : l.n ≠ 0) {fd : Go.Field} (hfd : fd.type = t) (b off : Nat) : (Go.fieldPlace ⟨b, off, none⟩ fd).run P w = .ok ⟨b, off + fd.offset, none⟩ w := by
  obtain ⟨i, d, hi, hu, rfl⟩ := y3 hl
  subst hfd
  simp only at h0
  simp only [Go.fieldPlace, Sem.run_bind, jR hi, Result.andThen_ok, h0, if_false, Sem.run_pure, jp]
theorem qjL (hd : kp o a) (hR : Rel M g w β st a.tmps) {t : TypeId} {fs : Array Go.Field} (ht : P.underlying t = some (.struct fs)) {f : Nat} {fd : Go.Field} (hf : fs[f]? = some fd) {l : L} (hl : lay P fd.type = some l)
    (h0 : l.n ≠ 0) {x : Operand} {x' : O} (hx : opnd M false x = some x') (ho : o.op = .fieldAddr t x f) {r : Or} (hr : zL x' fd.offset l st = some r) : Left1 P M g w o a r := by
  have h1 := kr hR hx
  have run : ∀ {b off : Nat}, a.eval x = .pointer (some ⟨b, off, none⟩) → (Go.execOp a.eval o).run P w = .ok (.value (.pointer (some ⟨b, off + fd.offset, none⟩))) w := by
    intro b off he
    simp only [Go.execOp, ho, Go.Instr.fieldAt, Sem.run_bind, Go.run_underlying ht, Result.andThen_ok, hf, he, Go.Instr.sureAddr, Sem.run_pure, qjy hl h0 rfl]
  unfold zL at hr
  split at hr
  · rename_i id off hz
    rw [hz] at h1
    obtain ⟨e, hid⟩ := h1.inv_ptr
    exact qt hd hR (.s (.ptr id (off + fd.offset) hid)) (run e) hr
  · rename_i s off hz
    rw [hz] at h1
    exact qt hd hR (.lp s (off + fd.offset)) (run h1.inv_lp) hr
  · rename_i cs hz
    rw [hz] at h1
    obtain ⟨b, off, vs, e, hrep, hc, hpub⟩ := h1.inv_cp
    have hrep' : RepDL g.pub w cs vs := hrep
    have hlen := hrep'.length
    split at hr
    · rename_i y hy
      split at hr
      · rename_i hone
        unfold D.part at hy
        cases ha : l.agg with
        | true =>
          simp only [ha, if_true] at hy
          split at hy
          · rename_i hle
            simp only [Option.some.injEq] at hy
            subst hy
            refine qt hd hR (.cp _ b (off + fd.offset) ((vs.drop fd.offset).take l.n) ?_ ?_ ?_) (run e) hr
            · exact (hrep'.drop fd.offset).take l.n
            · intro j v hj
              have hj' : j < l.n := by
                have := (List.getElem?_eq_some_iff.1 hj).1
                simp at this; omega
              rw [show off + fd.offset + j = off + (fd.offset + j) by omega]
              exact hc _ _ (by simpa [List.getElem?_take, hj', List.getElem?_drop] using hj)
            · simp; omega
          · cases hy
        | false =>
          simp only [ha, qvA, if_false, Bool.false_or] at hy hone
          obtain ⟨c, hc', hrep1⟩ := hrep'.get _ y hy
          have hlt : fd.offset < vs.length := (List.getElem?_eq_some_iff.1 hc').1
          refine qt hd hR (.cp _ b (off + fd.offset) [c] ?_ ?_ ?_) (run e) hr
          · rw [qd5 hone]; exact .cons _ _ _ _ hrep1 .nil
          · intro j v hj
            cases j with
            | zero => simp at hj; subst hj; exact hc _ _ hc'
            | succ j => simp at hj
          · simp; omega
      · cases hr
    · cases hr
  · cases hr
theorem qep {t e : TypeId} {i : Go.TypeInfo} (ht : P.underlying t = some (.slice e)) (hi : P.info? e = some i) (b off len cap : Nat) (k : IntKind) (n : Int) (h0 : 0 ≤ n) (h1 : n < len) :
    (Go.Instr.indexAt t (.slice (some ⟨b, off, none⟩) len cap) (.int k n)).run P w = .ok (.pointer (some ⟨b, off + n.toNat * i.size, none⟩)) w := by
  simp only [Go.Instr.indexAt, Sem.run_bind, qdp, Result.andThen_ok, Go.run_underlying ht, Sem.run_pure, h0, h1, and_self, if_true, jR hi, jp]
theorem qeB {t e : TypeId} {len : Nat} {i : Go.TypeInfo} (ht : P.underlying t = some (.array len e)) (hi : P.info? e = some i) (b off : Nat) (k : IntKind) (n : Int) (h0 : 0 ≤ n) (h1 : n < len) :
    (Go.Instr.indexAt t (.pointer (some ⟨b, off, none⟩)) (.int k n)).run P w = .ok (.pointer (some ⟨b, off + n.toNat * i.size, none⟩)) w := by
  simp only [Go.Instr.indexAt, Sem.run_bind, qdp, Result.andThen_ok, Go.run_underlying ht, Go.Instr.sureAddr, Sem.run_pure, h0, h1, and_self, if_true, jR hi, jp]
theorem qe8 {a b : Int} (h : leI a b = true) : a ≤ b := by rw [qgn, decide_eq_true_iff] at h; exact h
theorem qqr {a b : Int} (h : leI a b = false) : b < a := by rw [qgn, decide_eq_false_iff_not] at h; omega
theorem qjx (hd : kp o a) (hR : Rel M g w β st a.tmps) {t e : TypeId} (ht : P.underlying t = some (.slice e)) {l : L} (hl : lay P e = some l) {x i : Operand} {x' i' : O} (hx : opnd M false x = some x') (hi : opnd M false i = some i')
    (ho : o.op = .indexAddr t x i) {r : Or} (hr : zI x' i' l.n none st = some r) : Left1 P M g w o a r := by
  have h1 := kr hR hx
  have h2 := kr hR hi
  obtain ⟨inf, d, hinf, hu, rfl⟩ := y3 hl
  unfold zI at hr
  split at hr
  · rename_i k n hz
    rw [hz] at h2
    have e2 := y5 h2.inv_d
    simp only [yU] at hr
    cases hb : leI 0 n with
    | false => simp [hb] at hr
    | true =>
      have h0 := qe8 hb
      simp only [hb, cond_true] at hr
      split at hr
      · rename_i xs hz1
        rw [hz1] at h1
        have h3 := h1.inv_d
        split at hr
        · rename_i y hy
          cases hsz : qvG y.cells.length inf.size with
          | false => simp [hsz] at hr
          | true =>
            have hsz' := qvJ hsz
            simp only [hsz, cond_true] at hr
            have hlt : n.toNat < xs.length := (List.getElem?_eq_some_iff.1 hy).1
            generalize hc : a.eval x = c at h3
            cases h3 with
            | sl0 => simp at hy
            | sl _ b off cap sz vs hne hs hrep hcell hpub hcap hone =>
              have hmem : y ∈ xs := List.mem_of_getElem? hy
              have hsz2 : sz = inf.size := by rw [← hs y hmem]; exact hsz'
              subst hsz2
              have hfl := z8 xs inf.size hs
              have hvl := hrep.length
              have hle : (n.toNat + 1) * inf.size ≤ xs.length * inf.size := Nat.mul_le_mul_right _ hlt
              rw [Nat.succ_mul] at hle
              refine qt hd hR (.cp y b (off + n.toNat * inf.size) ((vs.drop (n.toNat * inf.size)).take inf.size) ?_ ?_ ?_) ?_ hr
              · have := (hrep.drop (n.toNat * inf.size)).take inf.size
                rwa [qlU xs inf.size n.toNat y hs hy] at this
              · intro j v hj
                have hj' : j < inf.size := by
                  have := (List.getElem?_eq_some_iff.1 hj).1
                  simp at this; omega
                rw [show off + n.toNat * inf.size + j = off + (n.toNat * inf.size + j) by omega]
                exact hcell _ _ (by simpa [List.getElem?_take, hj', List.getElem?_drop] using hj)
              · simp; omega
              · simp only [Go.execOp, ho, hc, e2]
                rw [Sem.run_bind, qep ht hinf b off xs.length cap k n h0 (by omega)]
                rfl
        · cases hr
      · rename_i id off len cap hz1
        rw [hz1] at h1
        cases hsz : (!leI (len : Int) n && qvG inf.size 1) with
        | false => simp [hsz] at hr
        | true =>
          simp only [hsz, cond_true] at hr
          simp only [qvB, Bool.not_eq_true'] at hsz
          have hs1 := qvJ hsz.2
          have hlt := qqr hsz.1
          generalize hc : a.eval x = c at h1
          cases h1 with
          | s h1 => cases h1 with
            | rs _ _ _ _ c2 hid hcap hcap2 =>
              refine qt hd hR (.s (.ptr id (off + n.toNat) hid)) ?_ hr
              simp only [Go.execOp, ho, hc, e2]
              rw [Sem.run_bind, qep ht hinf _ off len c2 k n h0 hlt, hs1]
              simp
      · rename_i id sz len hz1
        rw [hz1] at h1
        cases hsz : (!leI (len : Int) n && qvG inf.size sz) with
        | false => simp [hsz] at hr
        | true =>
          simp only [hsz, cond_true] at hr
          simp only [qvB, Bool.not_eq_true'] at hsz
          have hs1 := qvJ hsz.2
          have hlt := qqr hsz.1
          generalize hc : a.eval x = c at h1
          cases h1 with
          | s h1 => cases h1 with
            | row _ _ _ c2 hid hcap hcap2 =>
              refine qt hd hR (.s (.ptr id (n.toNat * sz) hid)) ?_ hr
              simp only [Go.execOp, ho, hc, e2]
              rw [Sem.run_bind, qep ht hinf _ 0 len c2 k n h0 hlt, hs1]
              simp
      · cases hr
  · cases hr
theorem qiR (hd : kp o a) (hR : Rel M g w β st a.tmps) {t e : TypeId} {len : Nat} (ht : P.underlying t = some (.array len e)) {l : L} (hl : lay P e = some l) {x i : Operand} {x' i' : O} (hx : opnd M false x = some x') (hi : opnd M false i = some i')
    (ho : o.op = .indexAddr t x i) {r : Or} (hr : zI x' i' l.n (some len) st = some r) : Left1 P M g w o a r := by
  have h1 := kr hR hx
  have h2 := kr hR hi
  obtain ⟨inf, d, hinf, hu, rfl⟩ := y3 hl
  unfold zI at hr
  split at hr
  · rename_i k n hz
    rw [hz] at h2
    have e2 := y5 h2.inv_d
    simp only [qaz] at hr
    cases hb : (leI 0 n && !leI (len : Int) n) with
    | false => simp [hb] at hr
    | true =>
      simp only [hb, cond_true] at hr
      simp only [qvB, Bool.not_eq_true'] at hb
      have h0 := qe8 hb.1
      have hlt := qqr hb.2
      split at hr
      · rename_i id off hz1
        rw [hz1] at h1
        obtain ⟨e1, hid⟩ := h1.inv_ptr
        refine qt hd hR (.s (.ptr id _ hid)) ?_ hr
        simp only [Go.execOp, ho, e1, e2]
        rw [Sem.run_bind, qeB ht hinf _ off k n h0 hlt]
        rfl
      · rename_i s off hz1
        rw [hz1] at h1
        refine qt hd hR (.lp s _) ?_ hr
        simp only [Go.execOp, ho, h1.inv_lp, e2]
        rw [Sem.run_bind, qeB ht hinf _ off k n h0 hlt]
        rfl
      · rename_i cs hz1
        rw [hz1] at h1
        rw [qvD] at hr
        split at hr
        · rename_i hsz
          have hs1 := qvJ hsz
          split at hr
          · rename_i y hy
            split at hr
            · rename_i hone
              generalize hc : a.eval x = c at h1
              cases h1 with
              | s h1 => cases h1
              | cp _ b off vs hrep hcell hpub =>
                have hrep' : RepDL g.pub w cs vs := hrep
                obtain ⟨c, hc', hrep1⟩ := hrep'.get _ y hy
                have hlt' : n.toNat < vs.length := (List.getElem?_eq_some_iff.1 hc').1
                refine qt hd hR (.cp _ b (off + n.toNat) [c] ?_ ?_ ?_) ?_ hr
                · rw [qd5 hone]; exact .cons _ _ _ _ hrep1 .nil
                · intro j v hj
                  cases j with
                  | zero => simp at hj; subst hj; exact hcell _ _ hc'
                  | succ j => simp at hj
                · simp; omega
                · simp only [Go.execOp, ho, hc, e2]
                  rw [Sem.run_bind, qeB ht hinf _ off k n h0 hlt, hs1, Nat.mul_one]
                  rfl
            · cases hr
          · cases hr
        · cases hr
      · cases hr
  · cases hr
theorem qoP (hd : kp o a) (hR : Rel M g w β st a.tmps) {t : TypeId} (ht : P.underlying t = some .string) {x i : Operand} {x' i' : O} (hx : opnd M false x = some x') (hi : opnd M false i = some i')
    (ho : o.op = .index t x i) {r : Or} (hr : qdC x' i' st = some r) : Left1 P M g w o a r := by
  have h1 := kr hR hx
  have h2 := kr hR hi
  unfold qdC at hr
  split at hr
  · rename_i s k n hz1 hz2
    rw [hz1] at h1; rw [hz2] at h2
    obtain ⟨z, e1, f1⟩ := qb8 h1.inv_d
    have e2 := y5 h2.inv_d
    cases hb : leI 0 n with
    | false => simp [hb] at hr
    | true =>
      have h0 := qe8 hb
      simp only [hb, cond_true] at hr
      split at hr
      · rename_i y hy
        subst f1
        have hlt : n.toNat < z.size := by
          have := (List.getElem?_eq_some_iff.1 hy).1
          simp only [List.length_map, Array.length_toList] at this
          exact this
        have hg : z[n.toNat]? = some z[n.toNat] := Go.ByteArray.getElem?_lt' z n.toNat hlt
        have hy' : y = z[n.toNat].toNat := by
          have hlt' : n.toNat < z.data.size := hlt
          have h3 : (z.data.toList.map (·.toNat))[n.toNat]? = some z.data[n.toNat].toNat := by
            rw [List.getElem?_map, Array.getElem?_toList, Array.getElem?_eq_getElem hlt']
            rfl
          rw [h3] at hy
          simp only [Option.some.injEq] at hy
          exact hy.symm
        subst hy'
        refine qt hd hR (.s (.d _ _ (.i .u8 _))) ?_ hr
        simp only [Go.execOp, ho, e1, e2, Go.Instr.index, Sem.run_bind, qdp, Result.andThen_ok, Go.run_underlying ht, h0, if_true, hg, Sem.run_pure]
      · cases hr
  · cases hr
theorem qlh (hd : kp o a) (hR : Rel M g w β st a.tmps) {t i : Nat} (ho : o.op = .extract (.tmp t) i) {r : Or} (hr : qae (.t t) i st = some r) : Left1 P M g w o a r := by
  unfold qae at hr
  simp only at hr
  split at hr
  · rename_i vs hz
    split at hr
    · rename_i v hv
      have h1 := hR.e t
      rw [hz] at h1
      have he : a.eval (.tmp t) = a.tmps.getD t Go.undef := rfl
      generalize hc : a.tmps.getD t Go.undef = c at h1
      cases h1 with
      | s h1 => cases h1 with
        | tup _ cs hcs =>
          obtain ⟨c', hc', hrep⟩ := hcs.get i v hv
          refine qt hd hR (.s (qgG hrep)) ?_ hr
          simp at hc'
          simp [Go.execOp, ho, he, hc, Go.Instr.extract, hc']
    · cases hr
  · cases hr
theorem qo1 (hd : kp o a) (hR : Rel M g w β st a.tmps) {t : TypeId} {t' : Nat} (hm : look M.tm t = some t') {dd : Go.TypeDesc} (hu : P.underlying t = some dd) (hni : ∀ m, dd ≠ .interface m) {x : Operand} {x' : O} (hx : opnd M false x = some x')
    (ho : o.op = .makeInterface t x) {r : Or} (hr : qes t' x' st = some r) : Left1 P M g w o a r := by
  have h1 := kr hR hx
  unfold qes at hr
  split at hr
  · rename_i hok
    refine qt hd hR (.s (.ifc t' t _ _ hm (h1.ok hok))) ?_ hr
    simp only [Go.execOp, ho, Go.Instr.makeInterface, Sem.run_bind, Go.run_underlying hu, Result.andThen_ok]
    cases dd <;> first | rfl | exact absurd rfl (hni _)
  · cases hr
theorem qfE (hR : Rel M g w β st a.tmps) : ∀ {k : Nat} {xs : List Operand} {ys : List O}, opnds M (fun _ => false) k xs = some ys → V.ok.oks (ys.map (rd st.env)) = true →
    RepSL M g w (ys.map (rd st.env)) (xs.map a.eval)
  | _, [], ys, h, _ => by simp only [opnds, Option.some.injEq] at h; subst h; exact .nil
  | k, x :: xs, ys, h, hk => by
    simp only [opnds] at h
    split at h
    · rename_i y r hy hr
      simp only [Option.some.injEq] at h
      subst h
      simp only [qvM, V.ok.oks, qvB] at hk
      exact .cons _ _ _ _ ((kr hR hy).ok hk.1) (qfE hR hr hk.2)
    · cases h
theorem qru (hd : kp o a) (hR : Rel M g w β st a.tmps) {f : FuncId} {f' : Nat} (hm : look M.fm f = some f') {xs ys : Array Operand} {xs' ys' : List O} (hx : opnds M (fun _ => false) 0 xs.toList = some xs')
    (hy : opnds M (fun _ => false) 0 ys.toList = some ys') (ho : o.op = .makeFunc (.func f) xs ys) {r : Or} (hr : qf2 f' xs' ys' st = some r) : Left1 P M g w o a r := by
  unfold qf2 at hr
  split at hr
  · rename_i hok
    simp only [qvB] at hok
    refine qt hd hR (.s (.fn f' f _ _ (xs.map a.eval) (ys.map a.eval) hm ?_ ?_)) ?_ hr
    · simpa using qfE hR hx hok.1
    · simpa using qfE hR hy hok.2
    · simp [Go.execOp, ho, Go.Instr.makeFunc]
  · cases hr
end
end W

/-
  Pieces, lengths, look-ups.
-/
set_option linter.unusedSimpArgs false
set_option linter.unusedVariables false
namespace W
open Go (World Value Addr IntKind Program TypeId FuncId Operand Act Oper Next Result Sem BinOp UnOp)
theorem z3 {P : Program} {w : World} {k : IntKind} {n : Int} {y : Nat} (code : Go.BoundsCode) (h0 : 0 ≤ n) (h1 : n ≤ y) : (Go.Instr.sliceBound (.int k n) y code).run P w = .ok n.toNat w := by
  simp only [Go.Instr.sliceBound, Sem.run_bind, qdp, Result.andThen_ok, h0, h1, and_self, if_true, Sem.run_pure]
def qow : Option Value → Option Int → Prop
  | none, none => True
  | some v, some n => ∃ k, v = .int k n
  | _, _ => False
theorem z7 {P : Program} {w : World} (isSlice : Bool) {len cap : Nat} (hlc : len ≤ cap) {lo hi : Option Value} {a b : Option Int} (ha : qow lo a)
    (hb : qow hi b) {l h : Nat} (hcut : qgv len a b = some (l, h)) :
    (Go.Instr.sliceBounds isSlice len cap lo hi none).run P w = .ok (l, h, cap) w ∧ l ≤ h ∧ h ≤ len := by
  unfold qgv at hcut
  cases hc : (leI 0 (a.getD 0) && leI (a.getD 0) (b.getD ↑len) && leI (b.getD ↑len) ↑len) with
  | false => simp [hc] at hcut
  | true =>
    simp only [hc, cond_true, Option.some.injEq, Prod.mk.injEq] at hcut
    simp only [qvB] at hc
    have c1 := qe8 hc.1.1
    have c2 := qe8 hc.1.2
    have c3 := qe8 hc.2
    obtain ⟨rfl, rfl⟩ := hcut
    refine ⟨?_, by omega, by omega⟩
    match lo, a, ha, hi, b, hb with
    | none, none, _, none, none, _ => simp [Go.Instr.sliceBounds]
    | none, none, _, some v, some n, ⟨k, hv⟩ =>
      subst hv
      simp only [Option.getD_some, Option.getD_none] at c1 c2 c3 ⊢
      simp only [Go.Instr.sliceBounds, Sem.run_bind, Sem.run_pure, Result.andThen_ok, z3 _ (by omega : (0:Int) ≤ n) (by omega : n ≤ (cap : Int))]
      rfl
    | some v, some n, ⟨k, hv⟩, none, none, _ =>
      subst hv
      simp only [Option.getD_some, Option.getD_none] at c1 c2 c3 ⊢
      simp only [Go.Instr.sliceBounds, Sem.run_bind, Sem.run_pure, Result.andThen_ok, z3 _ c1 c2]
      rfl
    | some v, some n, ⟨k, hv⟩, some v', some n', ⟨k', hv'⟩ =>
      subst hv; subst hv'
      simp only [Option.getD_some, Option.getD_none] at c1 c2 c3 ⊢
      simp only [Go.Instr.sliceBounds, Sem.run_bind, Sem.run_pure, Result.andThen_ok, z3 _ (by omega : (0:Int) ≤ n') (by omega : n' ≤ (cap : Int)), z3 _ c1 (show n ≤ ((n'.toNat : Nat) : Int) by omega)]
section
variable {P : Program} {M : Maps} {g : Gh} {w : World} {β : Nat → Nat} {st : St} {o : Oper} {a : Act}
theorem qbn (hR : Rel M g w β st a.tmps) {x : Option Operand} {y : Option O} (h : qfm M x = some y) {n : Option Int} (hn : zw st.env y = some n) :
    qow (x.map a.eval) n := by
  cases x with
  | none =>
    simp only [qfm, Option.some.injEq] at h
    subst h
    simp only [zw, Option.some.injEq] at hn
    subst hn
    trivial
  | some x =>
    simp only [qfm] at h
    cases hx : opnd M false x with
    | none => simp [hx] at h
    | some x' =>
      simp only [hx, qvH, Option.some.injEq] at h
      subst h
      have h1 := kr hR hx
      simp only [zw] at hn
      split at hn
      · rename_i k m hz
        simp only [Option.some.injEq] at hn
        subst hn
        rw [hz] at h1
        exact ⟨k, y5 h1.inv_d⟩
      · cases hn
theorem qf5 {t : TypeId} {d : Go.TypeDesc} (hu : P.underlying t = some d) (hna : ∀ n e, d ≠ .array n e) (x : Value) (lo hi mx : Option Value) : (Go.Instr.sliceAt t x lo hi mx).run P w = (Go.Instr.slice t x lo hi mx).run P w := by
  unfold Go.Instr.sliceAt
  rw [Sem.run_bind, Go.run_underlying hu]
  cases d <;> first | rfl | exact absurd rfl (hna _ _)
theorem qrW (s : ByteArray) (l h : Nat) (hh : h ≤ s.size) : (s.extract l h).data.toList.map (·.toNat) = ((s.data.toList.map (·.toNat)).take h).drop l := by
  rw [Go.Lib.extract_data, List.map_take, List.map_drop]
  rw [List.drop_take]
theorem qha {t : TypeId} {d : Go.TypeDesc} (hu : P.underlying t = some d) (hna : ∀ n e, d ≠ .array n e) {x : Operand} {lo hi : Option Operand} (ho : o.op = .slice t x lo hi none) {c : Value}
    (h : (Go.Instr.slice t (a.eval x) (lo.map a.eval) (hi.map a.eval) none).run P w = .ok c w) : (Go.execOp a.eval o).run P w = .ok (.value c) w := by
  simp only [Go.execOp, ho, Option.map_none]
  rw [Sem.run_bind, qf5 hu hna, h]
  rfl
theorem qny (hd : kp o a) (hR : Rel M g w β st a.tmps) {t : TypeId} (hu : P.underlying t = some .string)
    {x : Operand} {x' : O} (hx : opnd M false x = some x') {lo hi : Option Operand} {lo' hi' : Option O} (hlo : qfm M lo = some lo') (hhi : qfm M hi = some hi')
    (ho : o.op = .slice t x lo hi none) {r : Or} (hr : qcn x' lo' hi' st = some r) : Left1 P M g w o a r := by
  have h1 := kr hR hx
  unfold qcn at hr
  split at hr
  · rename_i p q hp hq
    have b1 := qbn hR hlo hp
    have b2 := qbn hR hhi hq
    split at hr
    · rename_i v hv
      unfold qqw at hv
      split at hv
      · rename_i s hz
        rw [hz] at h1
        obtain ⟨z, e1, f1⟩ := qb8 h1.inv_d
        split at hv
        · rename_i l h hcut
          simp only [Option.some.injEq] at hv
          subst hv
          have hlen : s.length = z.size := by rw [← f1, List.length_map, Array.length_toList]; rfl
          rw [hlen] at hcut
          obtain ⟨hrun, h3, h4⟩ := z7 (P := P) (w := w) false (qvC z.size) b1 b2 hcut
          refine qt hd hR (.s (.d _ _ (.s _ (z.extract l h) ?_))) (qha hu (by simp) ho ?_) hr
          · rw [qrW z l h h4, f1]
          · rw [e1]
            simp only [Go.Instr.slice, Sem.run_bind, Go.run_underlying hu, Result.andThen_ok, Option.isSome_none, qvA, if_false, Sem.run_pure, hrun]
        · cases hv
      · cases hv
    · cases hr
  · cases hr
theorem qdM {size : Nat} {xs : List D} (h : zj size xs = true) {sz : Nat} (hne : xs ≠ []) (hs : ∀ x ∈ xs, x.cells.length = sz) : sz = size := by
  cases xs with
  | nil => exact absurd rfl hne
  | cons x l =>
    have := qvJ h
    rw [← hs x (by simp)]
    exact this
theorem qnh (hd : kp o a) (hR : Rel M g w β st a.tmps) {t e : TypeId} {ly : L} (hu : P.underlying t = some (.slice e)) (hl : lay P e = some ly)
    {x : Operand} {x' : O} (hx : opnd M false x = some x') {lo hi : Option Operand} {lo' hi' : Option O} (hlo : qfm M lo = some lo') (hhi : qfm M hi = some hi')
    (ho : o.op = .slice t x lo hi none) {r : Or} (hr : qbK ly.n x' lo' hi' st = some r) : Left1 P M g w o a r := by
  have h1 := kr hR hx
  obtain ⟨inf, d, hinf, hud, rfl⟩ := y3 hl
  unfold qbK at hr
  split at hr
  · rename_i p q hp hq
    have b1 := qbn hR hlo hp
    have b2 := qbn hR hhi hq
    have run : ∀ {ad : Option Addr} {len cap l h : Nat}, len ≤ cap → qgv len p q = some (l, h) → a.eval x = .slice ad len cap →
        (Go.execOp a.eval o).run P w = .ok (.value (.slice (if cap = l then ad else ad.map (·.add (l * inf.size))) (h - l) (cap - l))) w := by
      intro ad len cap l h hlc hcut he
      obtain ⟨hrun, h3, h4⟩ := z7 (P := P) (w := w) true hlc b1 b2 hcut
      refine qha hu (by simp) ho ?_
      rw [he]
      simp only [Go.Instr.slice, Sem.run_bind, Go.run_underlying hu, Result.andThen_ok, hrun, jR hinf, Sem.run_pure]
    split at hr
    · rename_i v hv
      unfold qgs at hv
      split at hv
      · rename_i xs hz
        rw [hz] at h1
        cases hh : zj inf.size xs with
        | false => simp [hh] at hv
        | true =>
          simp only [hh, cond_true] at hv
          split at hv
          · rename_i l h hcut
            simp only [Option.some.injEq] at hv
            subst hv
            have hb := (z7 (P := P) (w := w) true (qvC xs.length) b1 b2 hcut).2
            have h3 := h1.inv_d
            generalize hc : a.eval x = c at h3
            cases h3 with
            | sl0 ad cap =>
              simp only [qvQ] at hcut hb
              have hr2 := run (Nat.zero_le cap) hcut hc
              have e0 : h - l = 0 := by omega
              rw [e0] at hr2
              have hlst : (([] : List D).take h).drop l = [] := by simp
              rw [hlst] at hr
              have hsome : ∃ a', (if cap = l then some ad else (some ad : Option Addr).map (·.add (l * inf.size))) = some a' := by split <;> exact ⟨_, rfl⟩
              obtain ⟨a', ha'⟩ := hsome
              rw [ha'] at hr2
              exact qt hd hR (.s (.d _ _ (.sl0 _ _))) hr2 hr
            | sl _ b off cap sz vs hne hs hrep hcell hpub hcap hone =>
              have hr2 := run hcap hcut hc
              by_cases hlh : l = h
              · subst hlh
                have e0 : l - l = 0 := by omega
                rw [e0] at hr2
                have hlst : (xs.take l).drop l = [] := by
                  apply List.drop_eq_nil_of_le; simp; omega
                rw [hlst] at hr
                have hsome : ∃ a', (if cap = l then some (⟨b, off, none⟩ : Addr) else (some (⟨b, off, none⟩ : Addr)).map (·.add (l * inf.size))) = some a' := by split <;> exact ⟨_, rfl⟩
                obtain ⟨a', ha'⟩ := hsome
                rw [ha'] at hr2
                exact qt hd hR (.s (.d _ _ (.sl0 _ _))) hr2 hr
              · have hsz := qdM hh hne hs
                subst hsz
                have hlt : l < h := by omega
                have hcl : cap ≠ l := by omega
                simp only [hcl, if_false, qvH, jp] at hr2
                have hlen2 : ((xs.take h).drop l).length = h - l := by simp; omega
                have hsub : ∀ y ∈ (xs.take h).drop l, y.cells.length = inf.size := fun y hy => hs y (List.mem_of_mem_take (List.mem_of_mem_drop hy))
                have hvl : vs.length = xs.length * inf.size := by rw [← hrep.length, z8 xs _ hs]
                have hmul : h * inf.size ≤ xs.length * inf.size := Nat.mul_le_mul_right _ hb.2
                have hmul2 : l * inf.size ≤ h * inf.size := Nat.mul_le_mul_right _ (by omega)
                have hflat : ((xs.take h).drop l).flatMap D.cells = ((xs.flatMap D.cells).take (h * inf.size)).drop (l * inf.size) := by
                  rw [qhC _ inf.size l (fun y hy => hs y (List.mem_of_mem_take hy)) (by simp; omega), qhq xs inf.size h hs]
                refine qt hd hR (.s (.d _ _ ?_)) hr2 hr
                rw [← hlen2]
                refine .sl _ b (off + l * inf.size) (cap - l) inf.size ((vs.take (h * inf.size)).drop (l * inf.size)) ?_ hsub ?_ ?_ ?_ ?_ (fun u hu => hone u (List.mem_of_mem_take (List.mem_of_mem_drop hu)))
                · intro e; rw [e] at hlen2; simp at hlen2; omega
                · rw [hflat]; exact (hrep.take _).drop _
                · intro j v hj
                  have hj2 : l * inf.size + j < h * inf.size := by
                    have := (List.getElem?_eq_some_iff.1 hj).1
                    simp at this; omega
                  rw [show off + l * inf.size + j = off + (l * inf.size + j) by omega]
                  exact hcell _ _ (by simpa [List.getElem?_drop, List.getElem?_take, hj2] using hj)
                · simp; omega
                · rw [hlen2]; omega
          · cases hv
      · rename_i hz
        rw [hz] at h1
        split at hv
        · rename_i lh hcut
          simp only [Option.some.injEq] at hv
          subst hv
          have h3 := h1.inv_d
          generalize hc : a.eval x = c at h3
          cases h3
          obtain ⟨l, h⟩ := lh
          have hb := (z7 (P := P) (w := w) true (qvC 0) b1 b2 hcut).2
          have hr2 := run (qvC 0) hcut hc
          have e0 : l = 0 := by omega
          have e1 : h = 0 := by omega
          subst e0; subst e1
          exact qt hd hR (.s (.d _ _ .nil)) (by simpa using hr2) hr
        · cases hv
      · rename_i id off len cap hz
        rw [hz] at h1
        cases hsz : qvG inf.size 1 with
        | false => simp [hsz] at hv
        | true =>
          simp only [hsz, cond_true] at hv
          split at hv
          · rename_i l h hcut
            rw [qvD] at hv
            split at hv
            · rename_i hlt
              simp only [Option.some.injEq] at hv
              subst hv
              have e1 : inf.size = 1 := qvJ hsz
              have hlt : l < h := by simpa using hlt
              generalize hc : a.eval x = c at h1
              cases h1 with
              | s h3 => cases h3 with
                | rs _ _ _ _ c2 hid hcap hcap2 =>
                  have hb := (z7 (P := P) (w := w) true (Nat.le_trans hcap hcap2) b1 b2 hcut).2
                  have hr2 := run (Nat.le_trans hcap hcap2) hcut hc
                  have hcl : c2 ≠ l := by omega
                  simp only [hcl, if_false, qvH, jp, e1, Nat.mul_one] at hr2
                  exact qt hd hR (.s (.rs id (off + l) (h - l) (cap - l) (c2 - l) hid (by omega) (by omega))) hr2 hr
            · cases hv
          · cases hv
      · cases hv
    · cases hr
  · cases hr
theorem qm1 (hd : kp o a) (hR : Rel M g w β st a.tmps) {t e : TypeId} {n : Nat} {i : Go.TypeInfo} (hu : P.underlying t = some (.array n e)) (hinf : P.info? e = some i) (h1s : i.size = 1)
    {x : Operand} {x' : O} (hx : opnd M false x = some x') {lo hi : Option Operand} {lo' hi' : Option O} (hlo : qfm M lo = some lo') (hhi : qfm M hi = some hi')
    (ho : o.op = .slice t x lo hi none) {r : Or} (hr : qcM n x' lo' hi' st = some r) : Left1 P M g w o a r := by
  have h1 := kr hR hx
  unfold qcM at hr
  split at hr
  · rename_i p q hp hq
    have b1 := qbn hR hlo hp
    have b2 := qbn hR hhi hq
    split at hr
    · rename_i v hv
      unfold qqB at hv
      split at hv
      · rename_i id off hz
        rw [hz] at h1
        obtain ⟨e1, hid⟩ := h1.inv_ptr
        split at hv
        · rename_i l h hcut
          split at hv
          · rename_i hln
            simp only [Option.some.injEq] at hv
            subst hv
            have hb := z7 (P := P) (w := w) false (qvC n) b1 b2 hcut
            refine qt hd hR (.s (.rs id (off + l) (h - l) (n - l) (n - l) hid (by omega) (qvC _))) ?_ hr
            have hne : ¬ n = l := by omega
            simp only [Go.execOp, ho, Option.map_none, Go.Instr.sliceAt, e1, Go.Instr.sureAddr, Sem.run_bind, Go.run_underlying hu, Result.andThen_ok, Sem.run_pure, hb.1, jR hinf, hne, if_false, h1s, Nat.mul_one, jp]
          · cases hv
        · cases hv
      · cases hv
    · cases hr
  · cases hr
theorem qhS {P : Program} {w : World} {len cap : Nat} {m : Int} {k k' : IntKind} {b : Int} (h0 : 0 ≤ m) (hm : m ≤ cap) {lo : Option Value} {a : Option Int} (ha : qow lo a)
    {l h : Nat} (hcut : qgv m.toNat a (some b) = some (l, h)) :
    (Go.Instr.sliceBounds true len cap lo (some (.int k b)) (some (.int k' m))).run P w = .ok (l, h, m.toNat) w ∧ l ≤ h ∧ h ≤ m.toNat := by
  unfold qgv at hcut
  cases hc : (leI 0 (a.getD 0) && leI (a.getD 0) ((some b).getD ↑m.toNat) && leI ((some b).getD ↑m.toNat) ↑m.toNat) with
  | false => simp only [hc, cond_false] at hcut; cases hcut
  | true =>
    simp only [hc, cond_true, Option.some.injEq, Prod.mk.injEq] at hcut
    simp only [qvB] at hc
    have c1 := qe8 hc.1.1
    have c2 := qe8 hc.1.2
    have c3 := qe8 hc.2
    obtain ⟨rfl, rfl⟩ := hcut
    simp only [Option.getD_some] at c2 c3 ⊢
    refine ⟨?_, by omega, by omega⟩
    match lo, a, ha with
    | none, none, _ =>
      simp only [Option.getD_none] at c1 c2 ⊢
      simp only [Go.Instr.sliceBounds, Sem.run_bind, Sem.run_pure, Result.andThen_ok, z3 _ h0 hm, z3 _ (by omega : (0:Int) ≤ b) c3]
      rfl
    | some v, some n, ⟨k, hv⟩ =>
      subst hv
      simp only [Option.getD_some] at c1 c2 ⊢
      simp only [Go.Instr.sliceBounds, Sem.run_bind, Sem.run_pure, Result.andThen_ok, z3 _ h0 hm, z3 _ (by omega : (0:Int) ≤ b) c3, z3 _ c1 (show n ≤ ((b.toNat : Nat) : Int) by omega)]
theorem qjI {t : TypeId} {d : Go.TypeDesc} (hu : P.underlying t = some d) (hna : ∀ n e, d ≠ .array n e) {x : Operand} {lo : Option Operand} {hi mx : Operand} (ho : o.op = .slice t x lo (some hi) (some mx)) {c : Value}
    (h : (Go.Instr.slice t (a.eval x) (lo.map a.eval) (some (a.eval hi)) (some (a.eval mx))).run P w = .ok c w) : (Go.execOp a.eval o).run P w = .ok (.value c) w := by
  simp only [Go.execOp, ho, qvH]
  rw [Sem.run_bind, qf5 hu hna, h]
  rfl
theorem qoJ {xs : List D} {c : Value} (h3 : RepD g.pub w (.sl xs) c) {size l h m : Nat} (hh : zj size xs = true) (hlh : l ≤ h) (hhm : h ≤ m) (hmx : m ≤ xs.length) :
    ∃ ad len cap, c = .slice ad len cap ∧ len = xs.length ∧ m ≤ cap ∧ RepD g.pub w (.sl ((xs.take h).drop l)) (.slice (if m = l then ad else ad.map (·.add (l * size))) (h - l) (m - l)) := by
  cases h3 with
  | sl0 ad cap =>
    simp only [qvQ] at hmx
    refine ⟨_, _, _, rfl, rfl, by omega, ?_⟩
    have e0 : h - l = 0 := by omega
    have hml : m = l := by omega
    rw [e0, if_pos hml]
    simp only [List.take_nil, List.drop_nil]
    exact .sl0 _ _
  | sl _ b off cap sz vs hne hs hrep hcell hpub hcap hone =>
    refine ⟨_, _, _, rfl, rfl, by omega, ?_⟩
    by_cases hlh2 : l = h
    · subst hlh2
      have e0 : l - l = 0 := by omega
      rw [e0]
      have hlst : (xs.take l).drop l = [] := by
        apply List.drop_eq_nil_of_le; simp; omega
      rw [hlst]
      have hsome : ∃ a', (if m = l then some (⟨b, off, none⟩ : Addr) else (some (⟨b, off, none⟩ : Addr)).map (·.add (l * size))) = some a' := by split <;> exact ⟨_, rfl⟩
      obtain ⟨a', ha'⟩ := hsome
      rw [ha']
      exact .sl0 _ _
    · have hsz := qdM hh hne hs
      subst hsz
      have hlt : l < h := by omega
      have hcl : m ≠ l := by omega
      simp only [hcl, if_false, qvH, jp]
      have hlen2 : ((xs.take h).drop l).length = h - l := by simp; omega
      have hsub : ∀ y ∈ (xs.take h).drop l, y.cells.length = sz := fun y hy => hs y (List.mem_of_mem_take (List.mem_of_mem_drop hy))
      have hvl : vs.length = xs.length * sz := by rw [← hrep.length, z8 xs _ hs]
      have hmul : h * sz ≤ xs.length * sz := Nat.mul_le_mul_right _ (by omega)
      have hmul2 : l * sz ≤ h * sz := Nat.mul_le_mul_right _ (by omega)
      have hflat : ((xs.take h).drop l).flatMap D.cells = ((xs.flatMap D.cells).take (h * sz)).drop (l * sz) := by
        rw [qhC _ sz l (fun y hy => hs y (List.mem_of_mem_take hy)) (by simp; omega), qhq xs sz h hs]
      rw [← hlen2]
      refine .sl _ b (off + l * sz) (m - l) sz ((vs.take (h * sz)).drop (l * sz)) ?_ hsub ?_ ?_ ?_ ?_ (fun u hu => hone u (List.mem_of_mem_take (List.mem_of_mem_drop hu)))
      · intro e; rw [e] at hlen2; simp at hlen2; omega
      · rw [hflat]; exact (hrep.take _).drop _
      · intro j v hj
        have hj2 : l * sz + j < h * sz := by
          have := (List.getElem?_eq_some_iff.1 hj).1
          simp at this; omega
        rw [show off + l * sz + j = off + (l * sz + j) by omega]
        exact hcell _ _ (by simpa [List.getElem?_drop, List.getElem?_take, hj2] using hj)
      · simp; omega
      · rw [hlen2]; omega
theorem qnO (hd : kp o a) (hR : Rel M g w β st a.tmps) {t e : TypeId} {ly : L} (hu : P.underlying t = some (.slice e)) (hl : lay P e = some ly)
    {x : Operand} {x' : O} (hx : opnd M false x = some x') {lo : Option Operand} {hi mx : Operand} {lo' : Option O} {hi' mx' : O} (hlo : qfm M lo = some lo') (hhi : opnd M false hi = some hi') (hmx : opnd M false mx = some mx')
    (ho : o.op = .slice t x lo (some hi) (some mx)) {r : Or} (hr : qcR ly.n x' lo' hi' mx' st = some r) : Left1 P M g w o a r := by
  have h1 := kr hR hx
  have h2 := kr hR hhi
  have h4 := kr hR hmx
  obtain ⟨inf, d, hinf, hud, rfl⟩ := y3 hl
  unfold qcR at hr
  split at hr
  · rename_i p kb b km m hp hzb hzm
    have b1 := qbn hR hlo hp
    rw [hzb] at h2; rw [hzm] at h4
    have eb := y5 h2.inv_d
    have em := y5 h4.inv_d
    have run : ∀ {ad : Option Addr} {len cap l h : Nat}, 0 ≤ m → m ≤ cap → qgv m.toNat p (some b) = some (l, h) → a.eval x = .slice ad len cap →
        (Go.execOp a.eval o).run P w = .ok (.value (.slice (if m.toNat = l then ad else ad.map (·.add (l * inf.size))) (h - l) (m.toNat - l))) w := by
      intro ad len cap l h hm0 hmc hcut he
      obtain ⟨hrun, h3, h4⟩ := qhS (P := P) (w := w) (len := len) (k := kb) (k' := km) hm0 hmc b1 hcut
      refine qjI hu (by simp) ho ?_
      rw [he, eb, em]
      simp only [Go.Instr.slice, Sem.run_bind, Go.run_underlying hu, Result.andThen_ok, hrun, jR hinf, Sem.run_pure]
    split at hr
    · rename_i v hv
      unfold qrk at hv
      split at hv
      · rename_i xs hz
        rw [hz] at h1
        cases hh : (zj inf.size xs && (leI 0 m && leI m xs.length)) with
        | false => simp [hh] at hv
        | true =>
          simp only [hh, cond_true] at hv
          simp only [qvB] at hh
          have hml := qe8 hh.2.2
          have hm0 := qe8 hh.2.1
          split at hv
          · rename_i l h hcut
            simp only [Option.some.injEq] at hv
            subst hv
            have hb := (z7 (P := P) (w := w) true (qvC m.toNat) b1 (hi := some (.int kb b)) (b := some b) ⟨kb, rfl⟩ hcut).2
            obtain ⟨ad, len, cap, hc, hlen, hmc, hrep⟩ := qoJ (m := m.toNat) h1.inv_d hh.1 hb.1 hb.2 (by omega)
            have hrun := run hm0 (by omega) hcut hc
            cases hbe : qvG h m.toNat with
            | false =>
              simp only [hbe, cond_false] at hr
              exact qt hd hR (.s (.d _ _ hrep)) hrun hr
            | true =>
              simp only [hbe, cond_true] at hr
              have he := qvJ hbe
              exact qo8 hd hR (qrP hrep (by omega)) hrun hr
          · cases hv
      · rename_i hz
        rw [hz] at h1
        rw [qvD] at hv
        split at hv
        · rename_i hm
          have hm : m = 0 := by rw [qgj] at hm; simpa using hm
          subst hm
          split at hv
          · rename_i lh hcut
            simp only [Option.some.injEq] at hv
            subst hv
            have h3 := h1.inv_d
            generalize hc : a.eval x = c at h3
            cases h3
            obtain ⟨l, h⟩ := lh
            have hb := (z7 (P := P) (w := w) true (qvC 0) b1 (hi := some (.int kb b)) (b := some b) ⟨kb, rfl⟩ hcut).2
            have hr2 := run (Int.le_refl 0) (Int.le_refl 0) hcut hc
            have e0 : l = 0 := by omega
            have e1 : h = 0 := by omega
            subst e0; subst e1
            exact qt hd hR (.s (.d _ _ .nil)) (by simpa using hr2) hr
          · cases hv
        · cases hv
      · cases hv
    · cases hr
  · cases hr
theorem qiy {ats : Array TypeId} {args : Array Operand} {ty : TypeId} {x : Operand} (ho : o.op = .call { callee := .builtin .len, args := args, argTypes := ats }) (hargs : args.toList = [x]) {s : TypeId} (hats : ats.toList = [s]) {c : Value}
    (h : ∀ ty, (Go.Builtin.len_ #[s] ty #[a.eval x]).run P w = .ok c w) : (Go.execOp a.eval o).run P w = .ok (.value c) w := by
  have e1 : args = #[x] := by cases args; simp_all
  have e2 : ats = #[s] := by cases ats; simp_all
  subst e1; subst e2
  simp only [Go.execOp, ho, Go.resolve, Go.invoke, Go.builtin, Sem.run_bind, Sem.run_pure, Result.andThen_ok]
  simp [h]
theorem qhM {x' : O} {f : Nat → Bool} {args : List Operand} (h : opnds M f 0 args = some [x']) : ∃ x, args = [x] ∧ opnd M (f 0) x = some x' := by
  cases args with
  | nil => simp [opnds] at h
  | cons x l =>
    simp only [opnds] at h
    split at h
    · rename_i y r hy hr
      simp only [Option.some.injEq, List.cons.injEq] at h
      obtain ⟨rfl, rfl⟩ := h
      cases l with
      | nil => exact ⟨x, rfl, hy⟩
      | cons z l =>
        simp only [opnds] at hr
        split at hr <;> simp at hr
    · cases h
theorem qrE (hd : kp o a) (hR : Rel M g w β st a.tmps) {c : Go.Call} (hcal : c.callee = .builtin .len) {s : TypeId} (hats : c.argTypes.toList = [s]) (hu : P.underlying s = some .string) {x' : O} (hx : opnds M (fun _ => false) 0 c.args.toList = some [x'])
    (ho : o.op = .call c) {r : Or} (hr : qgJ x' st = some r) : Left1 P M g w o a r := by
  obtain ⟨x, hargs, hx1⟩ := qhM hx
  have h1 := kr hR hx1
  obtain ⟨cal, args, ats⟩ := c
  simp only at hcal hats hargs
  subst hcal
  unfold qgJ at hr
  split at hr
  · rename_i t hz
    rw [hz] at h1
    obtain ⟨z, e1, f1⟩ := qb8 h1.inv_d
    have hlen : (t.length : Int) = (z.size : Int) := by rw [← f1, List.length_map, Array.length_toList]; rfl
    refine qt hd hR (.s (.d _ _ (.i .i64 _))) (qiy (ty := 0) ho hargs hats (fun ty => ?_)) hr
    simp [Go.Builtin.len_, Go.run_underlying hu, e1, Go.goInt, hlen]
  · cases hr
theorem qqd (hd : kp o a) (hR : Rel M g w β st a.tmps) {c : Go.Call} (hcal : c.callee = .builtin .len) {s e : TypeId} (hats : c.argTypes.toList = [s]) (hu : P.underlying s = some (.slice e)) {x' : O} (hx : opnds M (fun _ => false) 0 c.args.toList = some [x'])
    (ho : o.op = .call c) {r : Or} (hr : qcI x' st = some r) : Left1 P M g w o a r := by
  obtain ⟨x, hargs, hx1⟩ := qhM hx
  have h1 := kr hR hx1
  obtain ⟨cal, args, ats⟩ := c
  simp only at hcal hats hargs
  subst hcal
  have run : ∀ {ad : Option Addr} {n m : Nat}, a.eval x = .slice ad n m → (Go.execOp a.eval o).run P w = .ok (.value (.int .i64 n)) w := by
    intro ad n m he
    refine qiy (ty := 0) ho hargs hats (fun ty => ?_)
    simp [Go.Builtin.len_, Go.run_underlying hu, he, Go.goInt]
  unfold qcI at hr
  split at hr
  · rename_i y hz
    rw [hz] at h1
    have h2 := h1.inv_d
    generalize hc : a.eval x = cc at h2
    split at hr
    · rename_i n hn
      unfold qsC at hn
      split at hn
      · simp only [Option.some.injEq] at hn
        subst hn
        cases h2
        exact qt hd hR (.s (.d _ _ (.i .i64 _))) (run hc) hr
      · simp only [Option.some.injEq] at hn
        subst hn
        cases h2 with
        | sl0 ad cap => exact qt hd hR (.s (.d _ _ (.i .i64 _))) (run hc) hr
        | sl _ b off cap sz vs hne hs hrep hcell hpub hcap hone => exact qt hd hR (.s (.d _ _ (.i .i64 _))) (run hc) hr
      · cases hn
    · cases hr
  · rename_i id off n m hz
    rw [hz] at h1
    generalize hc : a.eval x = cc at h1
    cases h1 with
    | s h1 => cases h1 with
      | rs _ _ _ _ _ hid hcap _ => exact qt hd hR (.s (.d _ _ (.i .i64 _))) (run hc) hr
  · rename_i id sz n hz
    rw [hz] at h1
    generalize hc : a.eval x = cc at h1
    cases h1 with
    | s h1 => cases h1 with
      | row _ _ _ _ hid hcap _ => exact qt hd hR (.s (.d _ _ (.i .i64 _))) (run hc) hr
  · cases hr
theorem qq1 (hd : kp o a) (hR : Rel M g w β st a.tmps) {c : Go.Call} (hcal : c.callee = .builtin .len) {s k e : TypeId} (hats : c.argTypes.toList = [s]) (hu : P.underlying s = some (.map k e)) {x' : O} (hx : opnds M (fun _ => false) 0 c.args.toList = some [x'])
    (ho : o.op = .call c) {r : Or} (hr : qh9 x' st = some r) : Left1 P M g w o a r := by
  obtain ⟨x, hargs, hx1⟩ := qhM hx
  have h1 := kr hR hx1
  obtain ⟨cal, args, ats⟩ := c
  simp only at hcal hats hargs
  subst hcal
  unfold qh9 at hr
  split at hr
  · rename_i hz
    rw [hz] at h1
    have h2 := h1.inv_d
    generalize hc : a.eval x = cc at h2
    cases h2
    refine qt hd hR (.s (.d _ _ (.i .i64 _))) (qiy (ty := 0) ho hargs hats (fun ty => ?_)) hr
    simp [Go.Builtin.len_, Go.run_underlying hu, hc, Go.goInt]
  · rename_i id hz
    rw [hz] at h1
    generalize hc : a.eval x = cc at h1
    cases h1 with
    | s h1 => cases h1 with
      | map _ hid =>
        split at hr
        · rename_i es hH
          have hO := hR.h id _ hH
          cases hO with
          | map _ ents clock hb ho' hr' =>
            have hl : es.length = ents.size := by simpa using hr'.length
            refine qt hd hR (.s (.d _ _ (.i .i64 _))) (qiy (ty := 0) ho hargs hats (fun ty => ?_)) hr
            have hg : (Go.getObj (g.φ id)).run P w = .ok (.map ents clock) w := by simp [Go.getObj, Sem.run, hb]
            simp only [Go.Builtin.len_, hc]
            simp [Go.run_underlying hu, hg, Go.goInt, hl]
        · cases hr
  · cases hr
end
end W

/-
  Maps looked into; the greatest, the least.
-/
set_option linter.unusedSimpArgs false
set_option linter.unusedVariables false
namespace W
open Go (World Value Addr IntKind Program TypeId FuncId Operand Act Oper Next Result Sem BinOp UnOp)
theorem qdn {P : Program} {kt : TypeId} {kk : Nat} {dd : Go.TypeDesc} (hk : qbe P kt = some kk) (hu : P.underlying kt = some dd) {pub : Nat → Nat} {w : World} {k k' : D} {c c' : Value} (hg : qav kk k = true)
    (h : RepD pub w k c) (h' : RepD pub w k' c') {z : Bool} (hs : k.same k' = some z) : Go.Instr.sameNow dd c c' = some z := by
  unfold qbe at hk
  rw [hu] at hk
  unfold qav at hg
  split at hg
  · cases h; cases h' <;> simp only [D.same, Option.some.injEq, reduceCtorEq] at hs
    split at hk <;> simp only [Option.some.injEq, reduceCtorEq] at hk <;> (try omega)
    rename_i e; injection e with e; subst e; subst hs; rfl
  · cases h; cases h' <;> simp only [D.same, Option.some.injEq, reduceCtorEq] at hs
    rename_i k1 n1 k2 n2
    cases hkk : eqK k1 k2 with
    | false => simp [hkk] at hs
    | true =>
      have := qhn hkk
      subst this
      simp only [hkk, cond_true, Option.some.injEq] at hs
      split at hk <;> simp only [Option.some.injEq, reduceCtorEq] at hk <;> (try omega)
      rename_i e; injection e with e; subst e; subst hs
      simp [Go.Instr.sameNow, qgj]
  · cases h; cases h' <;> simp only [D.same, Option.some.injEq, reduceCtorEq] at hs
    rename_i b1 h1 t2 b2 h2
    split at hk <;> simp only [Option.some.injEq, reduceCtorEq] at hk <;> (try omega)
    rename_i e; injection e with e; subst e; subst hs; subst h1; subst h2
    simp only [Go.Instr.sameNow, qjw, qgm, Go.beq_toListBytes]
  · cases hg
theorem qff {P : Program} {M : Maps} {g : Gh} {w : World} {kt : TypeId} {kk : Nat} {dd : Go.TypeDesc} (hk : qbe P kt = some kk) (hu : P.underlying kt = some dd) {k : D} {c : Value} (hg : qav kk k = true)
    (h : RepD g.pub w k c) : ∀ {es : List (D × V)} {ents : List Go.MapEntry} (j : Nat) {r : Option V}, RepEs M g w es ents → qdr k es = some r →
    match r with
    | none => Go.Instr.findNow dd c ents j = some none
    | some v => ∃ i e, ents[i]? = some e ∧ Go.Instr.findNow dd c ents j = some (some (j + i, e.val)) ∧ RepS M g w v e.val ∧ (∃ k', es[i]? = some (k', v) ∧ k.same k' = some true ∧ RepD g.pub w k' e.key)
  | _, _, j, r, .nil, hf => by
    simp only [qdr, Option.some.injEq] at hf
    subst hf
    rfl
  | _, _, j, r, .cons k' x e es ents hk' hgk hx hl, hf => by
    simp only [qdr] at hf
    split at hf
    · rename_i hs
      simp only [Option.some.injEq] at hf
      subst hf
      refine ⟨0, e, rfl, ?_, hx, k', rfl, hs, hk'⟩
      simp only [Go.Instr.findNow, qdn hk hu hg h hk' hs, Nat.add_zero]
    · rename_i hs
      have ih := qff hk hu hg h (j + 1) hl hf
      have e1 : Go.Instr.findNow dd c (e :: ents) j = Go.Instr.findNow dd c ents (j + 1) := by simp only [Go.Instr.findNow, qdn hk hu hg h hk' hs]
      cases r with
      | none => simp only at ih ⊢; rw [e1]; exact ih
      | some v =>
        simp only at ih ⊢
        obtain ⟨i, en, h1, h2, h3, k'', h4, h5, h6⟩ := ih
        exact ⟨i + 1, en, by simpa using h1, by rw [e1, h2]; congr 3; omega, h3, k'', by simpa using h4, h5, h6⟩
    · cases hf
theorem qdI {P : Program} {kt : TypeId} {kk : Nat} (hk : qbe P kt = some kk) : ∃ dd, P.underlying kt = some dd ∧ (∀ m, dd ≠ .interface m) ∧ (∀ n e, dd ≠ .array n e) ∧ (∀ fs, dd ≠ .struct fs) := by
  unfold qbe at hk
  split at hk
  · exact ⟨_, by assumption, by simp, by simp, by simp⟩
  · exact ⟨_, by assumption, by simp, by simp, by simp⟩
  · exact ⟨_, by assumption, by simp, by simp, by simp⟩
  · cases hk
theorem qbY {P : Program} {w : World} {kt : TypeId} {kk : Nat} (hk : qbe P kt = some kk) (e : Bool) (v : Value) : (Go.Instr.checkKey e 10000 kt v).run P w = .ok () w := by
  obtain ⟨dd, hu, h1, h2, h3⟩ := qdI hk
  have : Go.Instr.checkKey e 10000 kt v = Go.Instr.checkKey e (9999 + 1) kt v := rfl
  rw [this, Go.Instr.checkKey, Sem.run_bind, Go.run_underlying hu]
  cases dd <;> first | (exact absurd rfl (h1 _)) | (exact absurd rfl (h2 _ _)) | (exact absurd rfl (h3 _)) | rfl | (cases v <;> rfl)
theorem qcu {P : Program} {w : World} {kt : TypeId} {dd : Go.TypeDesc} (hu : P.underlying kt = some dd) {c : Value} {ents : List Go.MapEntry} {r : Option (Nat × Value)} (h : Go.Instr.findNow dd c ents 0 = some r) :
    (Go.Instr.findKey kt c ents).run P w = .ok r w := by
  unfold Go.Instr.findKey
  rw [Sem.run_bind, Go.run_underlying hu]
  simp only [Result.andThen_ok, h, Sem.run_pure]
theorem j9 {P : Program} {t : TypeId} {z : D} (h : yI P t = some z) : ∃ i v, P.info? t = some i ∧ i.zero = some v ∧ toD v = some z := by
  unfold yI at h
  split at h
  · rename_i i hi
    split at h
    · rename_i v hv; exact ⟨i, v, hi, hv, h⟩
    · cases h
  · cases h
theorem qeX {P : Program} {w : World} {t : TypeId} {i : Go.TypeInfo} {v : Value} (hi : P.info? t = some i) (hv : i.zero = some v) : (Go.zeroValue t).run P w = .ok v w := by
  simp [Go.zeroValue, Go.typeInfo, hi, hv]
section
variable {P : Program} {M : Maps} {g : Gh} {w : World} {β : Nat → Nat} {st : St} {o : Oper} {a : Act}
theorem qnx (hd : kp o a) (hR : Rel M g w β st a.tmps) {t kt e : TypeId} (hu : P.underlying t = some (.map kt e)) {kk : Nat} (hk : qbe P kt = some kk) {zero : D} (hz : yI P e = some zero)
    {x i : Operand} {x' i' : O} (hx : opnd M false x = some x') (hi : opnd M false i = some i') {c : Bool} (ho : o.op = .lookup t x i c) {r : Or} (hr : qbk kk zero x' i' c st = some r) : Left1 P M g w o a r := by
  have h1 := kr hR hx
  have h2 := kr hR hi
  obtain ⟨inf, zv, hinf, hzv, htd⟩ := j9 hz
  obtain ⟨dd, hdd, _⟩ := qdI hk
  have hzrep : RepD g.pub w zero zv := qau g.pub w zv zero htd
  -- the two endings
  have fin : ∀ {v : V} {val : Value} {b : Bool}, RepS M g w v val → (Go.execOp a.eval o).run P w = .ok (.value (if c then .tuple #[val, .bool b] else val)) w →
      ok (bif c then .tup [v, .d (.b b)] else v) st = some r → Left1 P M g w o a r := by
    intro v val b hv hrun hr
    cases c with
    | false => exact qt hd hR (.s hv) (by simpa using hrun) (by simpa using hr)
    | true => exact qt hd hR (.s (.tup _ #[val, .bool b] (.cons _ _ _ _ hv (.cons _ _ _ _ (.d _ _ (.b b)) .nil)))) (by simpa using hrun) (by simpa using hr)
  have hrun0 : (Go.execOp a.eval o).run P w = ((Go.Instr.lookup t (a.eval x) (a.eval i) c).run P w).andThen fun v w' => .ok (.value v) w' := by
    simp only [Go.execOp, ho]
    rw [Sem.run_bind]
    rfl
  unfold qbk at hr
  split at hr
  · rename_i key hm hkey
    rw [hm] at h1; rw [hkey] at h2
    split at hr
    · rename_i hgood
      have h3 := h1.inv_d
      generalize hc1 : a.eval x = cx at h3
      cases h3
      refine fin (b := false) (.d _ _ hzrep) ?_ hr
      rw [hrun0, hc1]
      have hf : (Go.Instr.findKey kt (a.eval i) []).run P w = .ok none w := qcu hdd rfl
      simp only [Go.Instr.lookup, Sem.run_bind, Go.run_underlying hu, Result.andThen_ok, Sem.run_pure, qbY hk, hf, qeX hinf hzv]
    · cases hr
  · rename_i id key hm hkey
    rw [hm] at h1; rw [hkey] at h2
    split at hr
    · rename_i es hH
      split at hr
      · rename_i hgood
        generalize hc1 : a.eval x = cx at h1
        cases h1 with
        | s h1 => cases h1 with
          | map _ hid =>
            have hO := hR.h id _ hH
            cases hO with
            | map _ ents clock hb ho' hr' =>
              have hg : (Go.getObj (g.φ id)).run P w = .ok (.map ents clock) w := by simp [Go.getObj, Sem.run, hb]
              split at hr
              · rename_i v hf
                have := qff hk hdd hgood h2.inv_d 0 hr' hf
                simp only at this
                obtain ⟨j, en, e1, e2, e3, _⟩ := this
                refine fin (v := copy v) (b := true) (qgG e3) ?_ hr
                rw [hrun0, hc1]
                simp only [Go.Instr.lookup, Sem.run_bind, Go.run_underlying hu, Result.andThen_ok, hg, Sem.run_pure, qbY hk, qcu hdd e2]
              · rename_i hf
                have := qff hk hdd hgood h2.inv_d 0 hr' hf
                simp only at this
                refine fin (b := false) (.d _ _ hzrep) ?_ hr
                rw [hrun0, hc1]
                simp only [Go.Instr.lookup, Sem.run_bind, Go.run_underlying hu, Result.andThen_ok, hg, Sem.run_pure, qbY hk, qcu hdd this, qeX hinf hzv]
              · cases hr
      · cases hr
    · cases hr
  · cases hr
theorem qnP {k : IntKind} : ∀ {l : List V} {vs : List Value} {x : Int} {v : V}, RepSL M g w l vs → qbQ k x l = some v → ∃ n, v = .d (.i k n) ∧ (vs.foldlM Go.Builtin.max2 (.int k x)).run P w = .ok (.int k n) w
  | [], _, x, v, .nil, h => by
    simp only [qbQ, Option.some.injEq] at h
    exact ⟨x, h.symm, rfl⟩
  | _, _, x, v, .cons y c l vs hy hl, h => by
    cases y with
    | d y => cases y with
      | i k' n =>
        simp only [qbQ] at h
        cases hy with
        | d _ _ hy =>
          have e := y5 hy
          subst e
          obtain ⟨m, e1, e2⟩ := qnP hl h
          refine ⟨m, e1, ?_⟩
          rw [List.foldlM_cons, Sem.run_bind]
          simp only [Go.Builtin.max2, Sem.run_pure, Result.andThen_ok]
          exact e2
      | _ => simp [qbQ] at h
    | _ => simp [qbQ] at h
theorem qnU {k : IntKind} : ∀ {l : List V} {vs : List Value} {x : Int} {v : V}, RepSL M g w l vs → qbR k x l = some v → ∃ n, v = .d (.i k n) ∧ (vs.foldlM Go.Builtin.min2 (.int k x)).run P w = .ok (.int k n) w
  | [], _, x, v, .nil, h => by
    simp only [qbR, Option.some.injEq] at h
    exact ⟨x, h.symm, rfl⟩
  | _, _, x, v, .cons y c l vs hy hl, h => by
    cases y with
    | d y => cases y with
      | i k' n =>
        simp only [qbR] at h
        cases hy with
        | d _ _ hy =>
          have e := y5 hy
          subst e
          obtain ⟨m, e1, e2⟩ := qnU hl h
          refine ⟨m, e1, ?_⟩
          rw [List.foldlM_cons, Sem.run_bind]
          simp only [Go.Builtin.min2, Sem.run_pure, Result.andThen_ok]
          exact e2
      | _ => simp [qbR] at h
    | _ => simp [qbR] at h
theorem qlI (hR : Rel M g w β st a.tmps) {xs : List Operand} {ys : List O} {k : Nat} (h : opnds M (fun _ => false) k xs = some ys) (hn : ∀ v ∈ ys.map (rd st.env), v.ok = true) : RepSL M g w (ys.map (rd st.env)) (xs.map a.eval) := by
  refine qfE hR h ?_
  have : ∀ l : List V, (∀ v ∈ l, v.ok = true) → V.ok.oks l = true := by
    intro l
    induction l with
    | nil => intro _; rfl
    | cons v l ih => intro h; simp only [V.ok.oks, qvB]; exact ⟨h v (by simp), ih fun u hu => h u (by simp [hu])⟩
  exact this _ hn
theorem qiH {k : IntKind} : ∀ {l : List V} {x : Int} {v : V}, qbQ k x l = some v → ∀ u ∈ l, u.ok = true
  | [], _, _, _ => by simp
  | y :: l, x, v, h => by
    cases y with
    | d y => cases y with
      | i k' n =>
        simp only [qbQ] at h
        intro u hu
        cases hu with
        | head => rfl
        | tail _ hu => exact qiH h u hu
      | _ => simp [qbQ] at h
    | _ => simp [qbQ] at h
theorem qjF {k : IntKind} : ∀ {l : List V} {x : Int} {v : V}, qbR k x l = some v → ∀ u ∈ l, u.ok = true
  | [], _, _, _ => by simp
  | y :: l, x, v, h => by
    cases y with
    | d y => cases y with
      | i k' n =>
        simp only [qbR] at h
        intro u hu
        cases hu with
        | head => rfl
        | tail _ hu => exact qjF h u hu
      | _ => simp [qbR] at h
    | _ => simp [qbR] at h
theorem qrX (hd : kp o a) (hR : Rel M g w β st a.tmps) {c : Go.Call} (hcal : c.callee = .builtin .max) {ys : List O} (hx : opnds M (fun _ => false) 0 c.args.toList = some ys)
    (ho : o.op = .call c) {v : V} (hv : qkK (ys.map (rd st.env)) = some v) {r : Or} (hr : ok v st = some r) : Left1 P M g w o a r := by
  obtain ⟨cal, args, ats⟩ := c
  simp only at hcal
  subst hcal
  cases hl : ys.map (rd st.env) with
  | nil => simp [hl, qkK] at hv
  | cons y l =>
    cases y with
    | d y => cases y with
      | i k n =>
        rw [hl] at hv
        simp only [qkK] at hv
        have hrep := qlI hR hx (by
          rw [hl]
          intro u hu
          cases hu with
          | head => rfl
          | tail _ hu => exact qiH hv u hu)
        rw [hl] at hrep
        generalize hargs : args.toList.map a.eval = vs at hrep
        cases hrep with
        | cons _ c0 _ vs' h0 hl' =>
          cases h0 with
          | d _ _ h0 =>
            have e := y5 h0
            subst e
            obtain ⟨m, e1, e2⟩ := qnP (P := P) hl' hv
            subst e1
            refine qt hd hR (.s (.d _ _ (.i k m))) ?_ hr
            have he : (args.map a.eval).toList = .int k n :: vs' := by simpa using hargs
            simp only [Go.execOp, ho, Go.resolve, Go.invoke, Go.builtin, Sem.run_bind, Sem.run_pure, Result.andThen_ok, Go.Builtin.max_, he, e2]
      | _ => rw [hl] at hv; simp [qkK] at hv
    | _ => rw [hl] at hv; simp [qkK] at hv
theorem qsu (hd : kp o a) (hR : Rel M g w β st a.tmps) {c : Go.Call} (hcal : c.callee = .builtin .min) {ys : List O} (hx : opnds M (fun _ => false) 0 c.args.toList = some ys)
    (ho : o.op = .call c) {v : V} (hv : qhJ (ys.map (rd st.env)) = some v) {r : Or} (hr : ok v st = some r) : Left1 P M g w o a r := by
  obtain ⟨cal, args, ats⟩ := c
  simp only at hcal
  subst hcal
  cases hl : ys.map (rd st.env) with
  | nil => simp [hl, qhJ] at hv
  | cons y l =>
    cases y with
    | d y => cases y with
      | i k n =>
        rw [hl] at hv
        simp only [qhJ] at hv
        have hrep := qlI hR hx (by
          rw [hl]
          intro u hu
          cases hu with
          | head => rfl
          | tail _ hu => exact qjF hv u hu)
        rw [hl] at hrep
        generalize hargs : args.toList.map a.eval = vs at hrep
        cases hrep with
        | cons _ c0 _ vs' h0 hl' =>
          cases h0 with
          | d _ _ h0 =>
            have e := y5 h0
            subst e
            obtain ⟨m, e1, e2⟩ := qnU (P := P) hl' hv
            subst e1
            refine qt hd hR (.s (.d _ _ (.i k m))) ?_ hr
            have he : (args.map a.eval).toList = .int k n :: vs' := by simpa using hargs
            simp only [Go.execOp, ho, Go.resolve, Go.invoke, Go.builtin, Sem.run_bind, Sem.run_pure, Result.andThen_ok, Go.Builtin.min_, he, e2]
      | _ => rw [hl] at hv; simp [qhJ] at hv
    | _ => rw [hl] at hv; simp [qhJ] at hv
end
end W

/-
  New memory: a block more; a box in a slot; an object more.
-/
set_option linter.unusedSimpArgs false
set_option linter.unusedVariables false
namespace W
open Go (World Value Addr IntKind Program TypeId FuncId Operand Act Oper Next Result Sem BinOp UnOp)
def Gh.withNew (g : Gh) (b : Nat) (ℓ : Option Loc) (p : Nat) : Gh := { g with own := fun x => if x = b then ℓ else g.own x, pub := fun x => if x = b then p else g.pub x }
theorem zC (w : World) (o : Go.Obj) {b : Nat} (h : b < w.heap.size) : (w.alloc o).heap[b]? = w.heap[b]? := by
  show (w.heap.push o)[b]? = _
  simp [Array.getElem?_push, Nat.ne_of_lt h]
theorem z1 (w : World) (o : Go.Obj) : (w.alloc o).heap[w.heap.size]? = some o := by
  show (w.heap.push o)[w.heap.size]? = _
  simp
structure Fresh (g : Gh) (w : World) : Prop where
  f : ∀ b, w.heap.size ≤ b → g.own b = none ∧ g.pub b = 0
theorem Rel.fr {M : Maps} {g : Gh} {w : World} {β : Nat → Nat} {st : St} {tmps : Array Value} (h : Rel M g w β st tmps) : Fresh g w := ⟨h.fresh⟩
section
variable {g : Gh} {w : World} (hf : Fresh g w) (ℓ : Option Loc) (p : Nat) (o : Go.Obj)
 include hf
theorem qbl : Grow g w (g.withNew w.heap.size ℓ p) (w.alloc o) :=
  ⟨by simp, fun b => by
    show g.pub b ≤ (if b = w.heap.size then p else g.pub b)
    split
    · rename_i e; subst e; rw [(hf.f _ (qvC _)).2]; exact Nat.zero_le _
    · exact qvC _, fun b off ho => by
    have hb : b < w.heap.size := by
      rcases Nat.lt_or_ge b w.heap.size with h | h
      · exact h
      · rw [(hf.f b h).2] at ho; omega
    exact yk (zC w o hb) off⟩
theorem qcg (ℓ' : Loc) : Kept g w (g.withNew w.heap.size ℓ p) (w.alloc o) ℓ' :=
  ⟨fun b hb => by
    have hlt : b < w.heap.size := by
      rcases Nat.lt_or_ge b w.heap.size with h | h
      · exact h
      · rw [(hf.f b h).1] at hb; cases hb
    have hne : b ≠ w.heap.size := by omega
    exact ⟨by simp [Gh.withNew, hne, hb], zC w o hlt, by simp [Gh.withNew, hne]⟩⟩
theorem qaQ : Evo g w (g.withNew w.heap.size ℓ p) (w.alloc o) :=
  ⟨qbl hf ℓ p o, qvC _, fun _ _ => rfl, fun b hb _ => by
    have hne : b ≠ w.heap.size := by omega
    exact ⟨by simp [Gh.withNew, hne], zC w o hb, by simp [Gh.withNew, hne]⟩, ⟨rfl, rfl⟩⟩
theorem qlR : Fresh (g.withNew w.heap.size ℓ p) (w.alloc o) :=
  ⟨fun b hb => by
    simp only [World.size_alloc] at hb
    have hne : b ≠ w.heap.size := by omega
    have := hf.f b (by omega)
    simpa [Gh.withNew, hne] using this⟩
end
theorem Rel.alloc {M : Maps} {g : Gh} {w : World} {β : Nat → Nat} {st : St} {tmps : Array Value} (h : Rel M g w β st tmps) (ℓ : Option Loc) (p : Nat) (o : Go.Obj) :
    Rel M (g.withNew w.heap.size ℓ p) (w.alloc o) β st tmps := by
  have hf := h.fr
  refine ⟨h.n, fun k => ?_, fun id ob hob => ?_, (qlR hf ℓ p o).f, h.gl.mono (qbl hf ℓ p o)⟩
  · exact (h.e k).mono (qbl hf ℓ p o) (qvC _) (fun _ _ => rfl) (qcg hf ℓ p o _) (qcg hf ℓ p o _) (fun i => qcg hf ℓ p o _)
  · exact (h.h id ob hob).mono (qbl hf ℓ p o) (qvC _) (fun _ _ => rfl) (by rw [h.n]; exact (List.getElem?_eq_some_iff.1 hob).1) (qcg hf ℓ p o _) (fun i => qcg hf ℓ p o _)
theorem qgr (s k : Nat) : ∀ e : Env, get k (qcl s e) = match get k e with | .lp t o => bif qvG t s then .undef else .lp t o | v => v
  | [] => rfl
  | (n, v) :: e => by
    simp only [qcl, kD]
    by_cases h : k = n
    · simp only [h, if_true]; cases v <;> rfl
    · simp only [h, if_false]; exact qgr s k e
theorem Rel.putBox {M : Maps} {g : Gh} {w : World} {β : Nat → Nat} {st : St} {tmps : Array Value} (h : Rel M g w β st tmps) {n : Nat} (hn : n < tmps.size) {cs : List V} {b : Nat} {arr : Array Value} {T : TypeId}
    (hb : w.heap[b]? = some (.cells arr T (0, 0))) (ho : g.own b = some (.bblk n)) (hp : g.pub b = 0) (hl : cs.length = arr.size) (hr : ∀ (i : Nat) x v, cs[i]? = some x → arr[i]? = some v → RepC M g w (.bcell n i) x v) :
    Rel M g w (fun k => if k = n then b else β k) { st with env := (n, .box cs) :: qcl n st.env } (tmps.setIfInBounds n (.pointer (some ⟨b, 0, none⟩))) := by
  refine ⟨h.n, fun k => ?_, h.h, h.fresh, h.gl⟩
  show RepT M g w _ k (get k ((n, .box cs) :: qcl n st.env)) _
  rw [kD, qmR _ _ _ _ hn]
  by_cases hk : k = n
  · subst hk
    simp only [if_true]
    have := RepT.box (M := M) (g := g) (w := w) (β := fun x => if x = k then b else β x) (k := k) cs arr T (by simpa using hb) (by simpa using ho) (by simpa using hp) hl hr
    simpa using this
  · simp only [hk, if_false, qgr]
    have := h.e k
    generalize get k st.env = v at this
    generalize tmps.getD k Go.undef = c at this
    cases this with
    | s h => cases h <;> exact .s (by constructor <;> assumption)
    | osl h => exact .osl h
    | lp s off =>
      simp only
      by_cases hs : s = n
      · subst hs
        have : qvG s s = true := by simp
        rw [this]; exact .s (.undef _)
      · have hb' : qvG s n = false := by rw [Bool.eq_false_iff]; intro e; exact hs (qvJ e)
        rw [hb']
        have := RepT.lp (M := M) (g := g) (w := w) (β := fun x => if x = n then b else β x) (k := k) s off
        simpa [hs] using this
    | cp x b off vs hr hc hp => exact .cp x b off vs hr hc hp
    | box cs' arr' T' hb' ho' hp' hl' hr' =>
      have := RepT.box (M := M) (g := g) (w := w) (β := fun x => if x = n then b else β x) (k := k) cs' arr' T' (by simpa [hk] using hb') (by simpa [hk] using ho') (by simpa [hk] using hp') hl' hr'
      simpa [hk] using this
def Gh.withObj (g : Gh) (b : Nat) (c : Nat := 0) : Gh := { n := g.n + 1, Φ := fun id => if id = g.n then (b, c) else g.Φ id, pub := g.pub, own := fun x => if x = b then some (.oblk g.n) else g.own x }
theorem Rel.newObj {M : Maps} {g : Gh} {w : World} {β : Nat → Nat} {st : St} {tmps : Array Value} (h : Rel M g w β st tmps) (ob : Obj) (o : Go.Obj) {c : Nat}
    (hrep : RepO M (g.withObj w.heap.size c) (w.alloc o) g.n ob) :
    Rel M (g.withObj w.heap.size c) (w.alloc o) β { st with H := st.H ++ [ob] } tmps ∧ Evo g w (g.withObj w.heap.size c) (w.alloc o) := by
  have hf := h.fr
  have hg : Grow g w (g.withObj w.heap.size c) (w.alloc o) := ⟨by simp, fun _ => qvC _, fun b off ho => by
    have hb : b < w.heap.size := by
      rcases Nat.lt_or_ge b w.heap.size with h | h
      · exact h
      · rw [(hf.f b h).2] at ho; omega
    exact yk (zC w o hb) off⟩
  have hk : ∀ ℓ, Kept g w (g.withObj w.heap.size c) (w.alloc o) ℓ := fun ℓ => ⟨fun b hb => by
    have hlt : b < w.heap.size := by
      rcases Nat.lt_or_ge b w.heap.size with h | h
      · exact h
      · rw [(hf.f b h).1] at hb; cases hb
    have hne : b ≠ w.heap.size := by omega
    exact ⟨by simp [Gh.withObj, hne, hb], zC w o hlt, rfl⟩⟩
  have hn : g.n ≤ (g.withObj w.heap.size c).n := Nat.le_succ _
  have hφ : ∀ id, id < g.n → (g.withObj w.heap.size c).Φ id = g.Φ id := fun id hi => by
    have : id ≠ g.n := by omega
    simp [Gh.withObj, this]
  refine ⟨⟨?_, fun k => ?_, fun id ob' hob => ?_, fun b hb => ?_, h.gl.mono hg⟩, hg, hn, hφ, fun b hb _ => ?_, ⟨rfl, rfl⟩⟩
  · show g.n + 1 = (st.H ++ [ob]).length
    simp [h.n]
  · exact (h.e k).mono hg hn hφ (hk _) (hk _) (fun i => hk _)
  · rw [List.getElem?_append] at hob
    split at hob
    · rename_i hlt
      exact (h.h id ob' hob).mono hg hn hφ (by rw [h.n]; exact hlt) (hk _) (fun i => hk _)
    · rename_i hge
      have : id - st.H.length = 0 := by
        rcases Nat.eq_zero_or_pos (id - st.H.length) with h0 | h0
        · exact h0
        · rw [List.getElem?_eq_none (by simp; omega)] at hob; cases hob
      rw [this] at hob
      simp only [qvS, Option.some.injEq] at hob
      subst hob
      have : id = g.n := by rw [h.n]; omega
      rw [this]; exact hrep
  · simp only [World.size_alloc] at hb
    have hne : b ≠ w.heap.size := by omega
    have := hf.f b (by omega)
    simpa [Gh.withObj, hne] using this
  · have hne : b ≠ w.heap.size := by omega
    exact ⟨by simp [Gh.withObj, hne], zC w o hb, rfl⟩
end W

/-
  Boxes and objects that are made; what is written into them.
-/
set_option linter.unusedSimpArgs false
set_option linter.unusedVariables false
namespace W
open Go (World Value Addr IntKind Program TypeId FuncId Operand Act Oper Next Result Sem BinOp UnOp)
theorem RepD.one {pub : Nat → Nat} {w : World} {x : D} {c : Value} (h : RepD pub w x c) (h1 : x.one = true) : c.oneCell' = true := by
  cases h <;> first | rfl | (simp [D.one] at h1)
theorem RepS.one {M : Maps} {g : Gh} {w : World} {v : V} {c : Value} (h : RepS M g w v c) (h1 : v.one = true) : c.oneCell' = true := by
  cases h with
  | d x _ h => exact h.one h1
  | fsl | ptr | rs | row | map | fn | ifc => rfl
  | agg | tup | undef => simp [V.one, V.ok] at h1
theorem RepSL.ones {M : Maps} {g : Gh} {w : World} : ∀ {l : List V} {vs : List Value}, RepSL M g w l vs → V.ones l = true → ∀ u ∈ vs, u.oneCell' = true
  | _, _, .nil, _, u, hu => by simp at hu
  | _, _, .cons x v l vs h hl, h1, u, hu => by
    simp only [V.ones, qvB] at h1
    rcases List.mem_cons.1 hu with e | hu
    · subst e; exact h.one h1.1
    · exact RepSL.ones hl h1.2 u hu
theorem RepDL.ones {pub : Nat → Nat} {w : World} : ∀ {l : List D} {vs : List Value}, RepDL pub w l vs → D.ones l = true → ∀ u ∈ vs, u.oneCell' = true
  | _, _, .nil, _, u, hu => by simp at hu
  | _, _, .cons x v l vs h hl, h1, u, hu => by
    simp only [D.ones, qvB] at h1
    rcases List.mem_cons.1 hu with e | hu
    · subst e; exact h.one h1.1
    · exact RepDL.ones hl h1.2 u hu
theorem RepS.cells {M : Maps} {g : Gh} {w : World} {v : V} {c : Value} (h : RepS M g w v c) (h1 : V.ones v.cells = true) : RepSL M g w v.cells c.cells.toList := by
  cases h with
  | d x _ h =>
    have hd : ∀ l, l = x.cells → V.cells (.d x) = l.map .d := by
      rintro _ rfl
      cases x <;> rfl
    rw [hd _ rfl]
    exact .ofD h.cells
  | fsl xs ad h => exact .cons _ _ _ _ (.fsl xs ad h) .nil
  | ptr id off h => exact .cons _ _ _ _ (.ptr id off h) .nil
  | rs id off len cap cap2 h hc hc2 => exact .cons _ _ _ _ (.rs id off len cap cap2 h hc hc2) .nil
  | row id sz len cap h hc hz => exact .cons _ _ _ _ (.row id sz len cap h hc hz) .nil
  | map id h => exact .cons _ _ _ _ (.map id h) .nil
  | fn f f' first cap fv cv h h3 h2 => exact .cons _ _ _ _ (.fn f f' first cap fv cv h h3 h2) .nil
  | ifc t t' x c h hx => exact .cons _ _ _ _ (.ifc t t' x c h hx) .nil
  | agg cs vs h => exact h
  | tup | undef => simp [V.cells, V.ones, V.one, V.ok] at h1
theorem Rel.take {M : Maps} {g : Gh} {w : World} {β : Nat → Nat} {st : St} {tmps : Array Value} (h : Rel M g w β st tmps) {x : O} {v : V} {c : Value} (hv : RepO' M g w β x v c)
    (h1 : V.ones v.cells = true) (f : Nat → Loc) : ∃ g1, Rel M g1 w β { st with env := W.spent x st.env } tmps ∧ Evo g w g1 w ∧ g1.n = g.n ∧ g1.Φ = g.Φ ∧ v.cells.length = c.cells.size ∧
      (∀ (i : Nat) y u, v.cells[i]? = some y → c.cells[i]? = some u → RepC M g1 w (f i) y u) ∧ (∀ u ∈ c.cells.toList, u.oneCell' = true) ∧
      ∀ ℓ : Loc, (∀ n, ℓ ≠ .slot n) → Kept g w g1 w ℓ := by
  cases hv with
  | v hv =>
    cases hv with
    | s hs =>
      have hc := hs.cells h1
      refine ⟨g, h.spent x, Evo.refl g w, rfl, rfl, by simpa using hc.length, fun i y u hy hu => ?_, hc.ones h1, fun ℓ _ => Kept.refl _ _ _⟩
      obtain ⟨u', hu', hr⟩ := hc.get i y hy
      have : u = u' := by simpa [hu] using hu'
      subst this
      exact .s hr
    | lp => simp [V.cells, V.ones, V.one, V.ok] at h1
    | cp => simp [V.cells, V.ones, V.one, V.ok] at h1
  | own hv =>
    rename_i n xs
    have hcell : c.cells = #[c] := by cases hv <;> rfl
    have hone1 : ∀ u ∈ c.cells.toList, u.oneCell' = true := by
      rw [hcell]
      intro u hu
      simp at hu
      subst hu
      cases hv <;> rfl
    rcases hv.setOwn with ⟨b, hb, hlt, hv'⟩ | hv'
    case inr =>
      refine ⟨g, h.drop n, Evo.refl g w, rfl, rfl, by rw [hcell]; rfl, fun i y u hy hu => ?_, hone1, fun ℓ hℓ => Kept.refl _ _ _⟩
      rw [hcell] at hu
      cases i with
      | zero =>
        simp only [V.cells, qvS, Option.some.injEq] at hy
        simp at hu
        subst hy; subst hu
        exact .osl (hv' _)
      | succ i => simp [V.cells] at hy
    refine ⟨g.setOwn b (some (f 0)), (h.drop n).reown (by simp [kD]) hb hlt _, qdf _ hb (by simp), rfl, rfl, by rw [hcell]; rfl, fun i y u hy hu => ?_, ?_, fun ℓ hℓ => jO _ hb (hℓ n)⟩
    · rw [hcell] at hu
      cases i with
      | zero =>
        simp only [V.cells, qvS, Option.some.injEq] at hy
        simp at hu
        subst hy; subst hu
        exact .osl (hv' _)
      | succ i => simp [V.cells] at hy
    · exact hone1
section
variable {P : Program} {M : Maps} {g : Gh} {w : World} {β : Nat → Nat} {st : St} {o : Oper} {a : Act}
theorem qpa {ℓ : Option Loc} (hf : Fresh g w) {T : TypeId} {cs : List V} {arr : Array Value} (f : Nat → Loc)
    (hr : ∀ (i : Nat) y u, cs[i]? = some y → arr[i]? = some u → RepC M g w (f i) y u) :
    ∀ (i : Nat) y u, cs[i]? = some y → arr[i]? = some u → RepC M (g.withNew w.heap.size ℓ 0) (w.alloc (.cells arr T)) (f i) y u :=
  fun i y u hy hu => (hr i y u hy hu).mono (qbl hf ℓ 0 _) (qvC _) (fun _ _ => rfl) (qcg hf ℓ 0 _ _)
theorem qlB (hd : kp o a) (hR : Rel M g w β st a.tmps) {n : Nat} (hdst : o.dst = some n) {cs : List V} {arr : Array Value} (T : TypeId) (hl : cs.length = arr.size)
    (hr : ∀ (i : Nat) y u, cs[i]? = some y → arr[i]? = some u → RepC M g w (.bcell n i) y u) :
    ∃ g' β', Rel M g' (w.alloc (.cells arr T)) β' (put o.dst (.box cs) st) (a.put o.dst (.pointer (some ⟨w.heap.size, 0, none⟩))).tmps ∧ Evo g w g' (w.alloc (.cells arr T)) := by
  have hf := hR.fr
  have hR' := hR.alloc (some (.bblk n)) 0 (.cells arr T)
  refine ⟨g.withNew w.heap.size (some (.bblk n)) 0, fun k => if k = n then w.heap.size else β k, ?_, qaQ hf (some (.bblk n)) 0 _⟩
  rw [hdst, Act.put_tmps]
  exact hR'.putBox (hd n hdst) (z1 w _) (by simp [Gh.withNew]) (by simp [Gh.withNew]) hl (qpa hf _ hr)
theorem qkh (hd : kp o a) (hR : Rel M g w β st a.tmps) {cs : List V} {arr : Array Value} (T : TypeId) (fz : Nat × Nat) (hz : ∀ j, j < cs.length → (decide (fz.1 ≤ j) && decide (j < fz.2)) = false) (hl : cs.length ≤ arr.size)
    (hr : ∀ (i : Nat) y u, cs[i]? = some y → arr[i]? = some u → RepC M g w (.ocell g.n i) y u) :
    Rel M (g.withObj w.heap.size) (w.alloc (.cells arr T fz)) β { st with H := st.H ++ [.cells cs] } a.tmps ∧ Evo g w (g.withObj w.heap.size) (w.alloc (.cells arr T fz)) := by
  have hf := hR.fr
  refine hR.newObj (.cells cs) (.cells arr T fz) ?_
  have hg : Grow g w (g.withObj w.heap.size) (w.alloc (.cells arr T fz)) := ⟨by simp, fun _ => qvC _, fun b off ho => by
    have hb : b < w.heap.size := by
      rcases Nat.lt_or_ge b w.heap.size with h | h
      · exact h
      · rw [(hf.f b h).2] at ho; omega
    exact yk (zC w _ hb) off⟩
  have hk : ∀ ℓ, Kept g w (g.withObj w.heap.size) (w.alloc (.cells arr T fz)) ℓ := fun ℓ => ⟨fun b hb => by
    have hlt : b < w.heap.size := by
      rcases Nat.lt_or_ge b w.heap.size with h | h
      · exact h
      · rw [(hf.f b h).1] at hb; cases hb
    have hne : b ≠ w.heap.size := by omega
    exact ⟨by simp [Gh.withObj, Gh.φ, hne, hb], zC w _ hlt, rfl⟩⟩
  refine .cells cs arr T fz ?_ hz ?_ ?_ hl (fun i y u hy hu => (hr i y u hy hu).mono hg (Nat.le_succ _) (fun id hi => ?_) (hk _))
  · simp only [Gh.withObj, Gh.φ, if_true]; exact z1 w _
  · simp [Gh.withObj, Gh.φ]
  · simp only [Gh.withObj, Gh.φ, if_true]; exact (hf.f _ (qvC _)).2
  · have : id ≠ g.n := by omega
    simp [Gh.withObj, Gh.φ, this]
theorem qgN (hd : kp o a) (hR : Rel M g w β st a.tmps) {cs : List V} {arr : Array Value} (T : TypeId) (hl : cs.length ≤ arr.size)
    (hr : ∀ (i : Nat) y u, cs[i]? = some y → arr[i]? = some u → RepC M g w (.ocell g.n i) y u) :
    Rel M (g.withObj w.heap.size) (w.alloc (.cells arr T)) β { st with H := st.H ++ [.cells cs] } a.tmps ∧ Evo g w (g.withObj w.heap.size) (w.alloc (.cells arr T)) :=
  qkh hd hR T (0, 0) (fun j _ => by simp) hl hr
theorem qfg {ds : List D} {vs : Array Value} (h : RepDL g.pub w ds vs.toList) (f : Nat → Loc) :
    ∀ (i : Nat) y u, (ds.map V.d)[i]? = some y → vs[i]? = some u → RepC M g w (f i) y u := fun i y u hy hu => by
  obtain ⟨u', hu', hr⟩ := (RepSL.ofD (M := M) h).get i y hy
  have : u = u' := by simpa [hu] using hu'
  subst this
  exact .s hr
theorem qpy (hd : kp o a) (hR : Rel M g w β st a.tmps) {t : TypeId} {zero : D} (hz : yI P t = some zero) (ho : o.op = .alloc t) {loc : Bool} (hloc : loc = true → o.dst ≠ none)
    {r : Or} (hr : qc8 loc zero.cells st = some r) : Left1 P M g w o a r := by
  obtain ⟨i, z, hi, hzz, hzd⟩ := j9 hz
  have hrep := (qau g.pub w z zero hzd).cells
  have hlen : (zero.cells.map V.d).length = z.cells.size := by simpa using hrep.length
  have hrun : (Go.execOp a.eval o).run P w = .ok (.value (.pointer (some ⟨w.heap.size, 0, none⟩))) (w.alloc (.cells z.cells t)) := by
    simp [Go.execOp, ho, Go.Instr.alloc, qeX hi hzz, Go.newVar, Go.newRow]
  unfold qc8 at hr
  cases hl : loc with
  | true =>
    simp only [hl, cond_true, ok, Option.some.injEq] at hr
    subst hr
    cases hdst : o.dst with
    | none => exact absurd hdst (hloc hl)
    | some n =>
      obtain ⟨g', β', h1, h2⟩ := qlB hd hR hdst t hlen (qfg hrep _)
      exact ⟨_, _, g', β', .value hrun, h1, h2⟩
  | false =>
    simp only [hl, cond_false, okH, Option.some.injEq] at hr
    subst hr
    obtain ⟨h1, h2⟩ := qgN hd hR t (Nat.le_of_eq hlen) (qfg hrep _)
    refine ⟨_, _, g.withObj w.heap.size, β, .value hrun, ?_, h2⟩
    have hv : RepV M (g.withObj w.heap.size) (w.alloc (.cells z.cells t)) β (.ptr st.H.length 0) (.pointer (some ⟨w.heap.size, 0, none⟩)) := by
      have := RepS.ptr (M := M) (g := g.withObj w.heap.size) (w := w.alloc (.cells z.cells t)) g.n 0 (Nat.lt_succ_self _)
      rw [← hR.n]
      simpa [Gh.withObj, Gh.φ] using RepV.s (β := β) this
    exact h1.putV hd hv
theorem qr9 (hd : kp o a) (hR : Rel M g w β st a.tmps) {t : TypeId} {m : Bool} {x : Operand} {y : O} (hy : opnd M m x = some y) (ho : o.op = .box t x) {loc : Bool} (hloc : loc = true → o.dst ≠ none)
    {r : Or} (hr : qiq loc y st = some r) : Left1 P M g w o a r := by
  have hrd := qfv hR hy
  have hrun : (Go.execOp a.eval o).run P w = .ok (.value (.pointer (some ⟨w.heap.size, 0, none⟩))) (w.alloc (.cells (a.eval x).cells t)) := by
    simp [Go.execOp, ho, Go.Instr.box, Go.newVar, Go.newRow]
  simp only [qiq] at hr
  generalize rd st.env y = v at hr hrd
  cases h1 : V.ones v.cells with
  | false => simp [h1] at hr
  | true =>
    simp only [h1, qvN, qvA, if_false, if_true] at hr
    cases hl : loc with
    | true =>
      simp only [hl, cond_true, ok, Option.some.injEq] at hr
      subst hr
      cases hdst : o.dst with
      | none => exact absurd hdst (hloc hl)
      | some n =>
        obtain ⟨g1, hR1, hE1, hn1, hφ1, hlen, hrep, hone, _⟩ := hR.take hrd h1 (fun i => .bcell n i)
        obtain ⟨g', β', h1, h2⟩ := qlB hd hR1 hdst t hlen hrep
        exact ⟨_, _, g', β', .value hrun, h1, hE1.trans h2⟩
    | false =>
      simp only [hl, cond_false, okH, Option.some.injEq] at hr
      subst hr
      obtain ⟨g1, hR1, hE1, hn1, hφ1, hlen, hrep, hone, _⟩ := hR.take hrd h1 (fun i => .ocell g.n i)
      obtain ⟨h1, h2⟩ := qgN hd hR1 t (Nat.le_of_eq hlen) (by rw [hn1]; exact hrep)
      refine ⟨_, _, g1.withObj w.heap.size, β, .value hrun, ?_, hE1.trans h2⟩
      have hv : RepV M (g1.withObj w.heap.size) (w.alloc (.cells (a.eval x).cells t)) β (.ptr st.H.length 0) (.pointer (some ⟨w.heap.size, 0, none⟩)) := by
        have := RepS.ptr (M := M) (g := g1.withObj w.heap.size) (w := w.alloc (.cells (a.eval x).cells t)) g1.n 0 (Nat.lt_succ_self _)
        rw [← hR.n, ← hn1]
        simpa [Gh.withObj, Gh.φ] using RepV.s (β := β) this
      exact h1.putV hd hv
end
end W

/-
  Writes into boxes and objects; reads that take the slice along.
-/
set_option linter.unusedSimpArgs false
set_option linter.unusedVariables false
namespace W
open Go (World Value Addr IntKind Program TypeId FuncId Operand Act Oper Next Result Sem BinOp UnOp)
structure Wr (g : Gh) (w w' : World) (b : Nat) : Prop where
  size : w'.heap.size = w.heap.size
  other : ∀ x, x ≠ b → w'.heap[x]? = w.heap[x]?
  pub : ∀ o, o < g.pub b → w'.cell? ⟨b, o, none⟩ = w.cell? ⟨b, o, none⟩
  io : w'.os = w.os ∧ w'.output = w.output
theorem Wr.grow {g : Gh} {w w' : World} {b : Nat} (h : Wr g w w' b) : Grow g w g w' :=
  ⟨by rw [h.size]; exact qvC _, fun _ => qvC _, fun x o ho => by
    by_cases hx : x = b
    · subst hx; exact h.pub o ho
    · exact yk (h.other x hx) o⟩
theorem Wr.kept {g : Gh} {w w' : World} {b : Nat} (h : Wr g w w' b) {ℓ₀ ℓ : Loc} (hb : g.own b = some ℓ₀) (hne : ℓ ≠ ℓ₀) : Kept g w g w' ℓ :=
  ⟨fun x hx => ⟨hx, h.other x (fun e => by subst e; rw [hb] at hx; exact hne (Option.some.inj hx).symm), rfl⟩⟩
theorem Wr.evo {g : Gh} {w w' : World} {b : Nat} (h : Wr g w w' b) {ℓ₀ : Loc} (hb : g.own b = some ℓ₀) (hne : ℓ₀ ≠ .out) : Evo g w g w' :=
  ⟨h.grow, qvC _, fun _ _ => rfl, fun x _ ho => ⟨rfl, h.other x (fun e => by
    subst e; rw [hb] at ho
    rcases ho with h | h
    · cases h
    · exact hne (Option.some.inj h)), rfl⟩, h.io⟩
theorem Wr.setRow {g : Gh} {w : World} {b : Nat} (arr : Array Value) (hp : g.pub b = 0) : Wr g w (w.setRow b arr) b :=
  ⟨by simp, fun x hx => Go.setRow_other w b x arr hx, fun o ho => (by omega), ⟨rfl, rfl⟩⟩
theorem qeb {w : World} {b : Nat} {arr : Array Value} {T : TypeId} {fz : Nat × Nat} (hb : w.heap[b]? = some (.cells arr T fz)) (o : Nat) : w.frozen? ⟨b, o, none⟩ = (decide (fz.1 ≤ o) && decide (o < fz.2)) := by
  simp [World.frozen?, hb]
theorem yC (P : Program) (g o : Nat) (t : TypeId) (fz : Nat × Nat) : ∀ (vs : List Value) (i : Nat) (cur : Array Value) (w : World), w.heap[g]? = some (.cells cur t fz) →
    (∀ j, o + i ≤ j → j < o + i + vs.length → (decide (fz.1 ≤ j) && decide (j < fz.2)) = false) → o + i + vs.length ≤ cur.size → (∀ v ∈ vs, v.oneCell' = true) →
    (Go.storeCells ⟨g, o, none⟩ vs i).run P w = .ok () (w.setRow g (cur.toList.take (o + i) ++ vs ++ cur.toList.drop (o + i + vs.length)).toArray)
  | [], i, cur, w, hg, _, _, _ => by
    simp only [Go.storeCells, List.append_nil, qvQ, Nat.add_zero, List.take_append_drop, Array.toArray_toList]
    rw [Go.setRow_self w g cur t fz hg]
    rfl
  | v :: rest, i, cur, w, hg, hfz, hl, h1 => by
    have hi : o + i < cur.size := by simp at hl; omega
    have hcell : w.cell? ⟨g, o + i, none⟩ = some cur[o + i] := by simp [World.cell?, hg, hi]
    have hfro : w.frozen? ⟨g, o + i, none⟩ = false := by rw [qeb hg]; exact hfz _ (qvC _) (by simp)
    have hst : (Go.store ((⟨g, o, none⟩ : Addr).add i) v).run P w = .ok () (w.setRow g (cur.setIfInBounds (o + i) v)) := by
      rw [jp, Go.run_store P w _ v _ (h1 v (by simp)), hcell]
      simp [hfro, Go.setCell_eq_setRow w g (o + i) cur t fz v hg]
    have ih := yC P g o t fz rest (i + 1) (cur.setIfInBounds (o + i) v) (w.setRow g (cur.setIfInBounds (o + i) v)) (Go.setRow_heap w g cur _ t _ hg)
      (fun j hj hj2 => hfz j (by omega) (by simp; omega)) (by simp at hl ⊢; omega) (fun x hx => h1 x (by simp [hx]))
    simp only [Go.storeCells, Sem.run_bind, hst, Result.andThen_ok, ih, Go.setRow_setRow]
    congr 3
    have e := Go.list_seg_step cur.toList (o + i) v rest (by simp at hl ⊢; omega)
    simpa [Array.toList_setIfInBounds, Nat.add_assoc] using e
section
variable {P : Program} {M : Maps} {g : Gh} {w : World} {β : Nat → Nat} {st : St} {o : Oper} {a : Act}
theorem Rel.setBox {tmps : Array Value} (hR : Rel M g w β st tmps) {s : Nat} {cs cs' : List V} (hbox : get s st.env = .box cs) {w' : World} (hw : Wr g w w' (β s)) {arr' : Array Value} {T : TypeId}
    (hb' : w'.heap[β s]? = some (.cells arr' T (0, 0))) (hl : cs'.length = arr'.size)
    (hr : ∀ (i : Nat) x v, cs'[i]? = some x → arr'[i]? = some v → RepC M g w (.bcell s i) x v) :
    Rel M g w' β { st with env := (s, .box cs') :: st.env } tmps ∧ Evo g w g w' := by
  have hs := hR.e s
  rw [hbox] at hs
  obtain ⟨arr, T0, e, hb, ho, hp, hlen, hr0⟩ : ∃ arr T0, tmps.getD s Go.undef = .pointer (some ⟨β s, 0, none⟩) ∧ w.heap[β s]? = some (.cells arr T0 (0, 0)) ∧ g.own (β s) = some (.bblk s) ∧ g.pub (β s) = 0 ∧ cs.length = arr.size ∧
      (∀ (i : Nat) x v, cs[i]? = some x → arr[i]? = some v → RepC M g w (.bcell s i) x v) := by
    generalize tmps.getD s Go.undef = c at hs
    cases hs with
    | s h => cases h
    | box _ arr T hb ho hp hl hr => exact ⟨arr, T, rfl, hb, ho, hp, hl, hr⟩
  have hg := hw.grow
  have hk : ∀ {ℓ : Loc}, ℓ ≠ .bblk s → Kept g w g w' ℓ := fun h => hw.kept ho h
  refine ⟨⟨hR.n, fun k => ?_, fun id ob hob => ?_, fun b hb => hR.fresh b (by rw [← hw.size]; exact hb), hR.gl.mono hg⟩, hw.evo ho (by simp)⟩
  · show RepT M g w' β k (get k ((s, .box cs') :: st.env)) _
    rw [kD]
    split
    · rename_i e'; subst e'
      rw [e]
      exact .box cs' arr' T hb' ho hp hl (fun i x v hx hv => (hr i x v hx hv).mono hg (qvC _) (fun _ _ => rfl) (hk (by simp)))
    · rename_i hne
      exact (hR.e k).mono hg (qvC _) (fun _ _ => rfl) (hk (by simp)) (hk (by simpa using hne)) (fun i => hk (by simp))
  · exact (hR.h id ob hob).mono hg (qvC _) (fun _ _ => rfl) (by rw [hR.n]; exact (List.getElem?_eq_some_iff.1 hob).1) (hk (by simp)) (fun i => hk (by simp))
theorem Rel.setObj {tmps : Array Value} (hR : Rel M g w β st tmps) {id : Nat} {ob ob' : Obj} (hob : st.H[id]? = some ob) {w' : World} (ho : g.own (g.φ id) = some (.oblk id)) (hw : Wr g w w' (g.φ id))
    (hrep : RepO M g w' id ob') (lo : Nat) :
    Rel M g w' β { st with H := k9 st.H id ob', lo := lo } tmps ∧ Evo g w g w' := by
  have hg := hw.grow
  have hid : id < st.H.length := (List.getElem?_eq_some_iff.1 hob).1
  have hk : ∀ {ℓ : Loc}, ℓ ≠ .oblk id → Kept g w g w' ℓ := fun h => hw.kept ho h
  refine ⟨⟨by simpa [k9] using hR.n, fun k => ?_, fun i o2 ho2 => ?_, fun b hb => hR.fresh b (by rw [← hw.size]; exact hb), hR.gl.mono hg⟩, hw.evo ho (by simp)⟩
  · exact (hR.e k).mono hg (qvC _) (fun _ _ => rfl) (hk (by simp)) (hk (by simp)) (fun i => hk (by simp))
  · simp only [k9, List.getElem?_set] at ho2
    split at ho2
    · rename_i e; subst e
      simp only [hid, if_true, Option.some.injEq] at ho2
      subst ho2
      exact hrep
    · rename_i hne
      exact (hR.h i o2 ho2).mono hg (qvC _) (fun _ _ => rfl) (by rw [hR.n]; exact (List.getElem?_eq_some_iff.1 ho2).1) (hk (by simp; exact fun e => hne e.symm)) (fun i => hk (by simp))
theorem qh8 {R : Nat → V → Value → Prop} {cs vs : List V} {arr : Array Value} {us : List Value} {off : Nat} (hl : cs.length ≤ arr.size) (hl2 : vs.length = us.length) (hfit : off + vs.length ≤ cs.length)
    (hr : ∀ (i : Nat) x v, cs[i]? = some x → arr[i]? = some v → R i x v) (hv : ∀ (i : Nat) x v, vs[i]? = some x → us[i]? = some v → R (off + i) x v) :
    (cs.take off ++ vs ++ cs.drop (off + vs.length)).length ≤ (arr.toList.take off ++ us ++ arr.toList.drop (off + us.length)).toArray.size ∧ (cs.length = arr.size → (cs.take off ++ vs ++ cs.drop (off + vs.length)).length = (arr.toList.take off ++ us ++ arr.toList.drop (off + us.length)).toArray.size) ∧ (cs.take off ++ vs ++ cs.drop (off + vs.length)).length = cs.length ∧
    ∀ (i : Nat) x v, (cs.take off ++ vs ++ cs.drop (off + vs.length))[i]? = some x → (arr.toList.take off ++ us ++ arr.toList.drop (off + us.length)).toArray[i]? = some v → R i x v := by
  have hl' : cs.length ≤ arr.toList.length := by simpa using hl
  refine ⟨by simp; omega, fun h => by simp; omega, by simp; omega, fun i x v hx hu => ?_⟩
  simp only [List.getElem?_toArray] at hu
  have t1 : (cs.take off).length = off := by simp; omega
  have t2 : (arr.toList.take off).length = off := by simp; omega
  rw [List.append_assoc, List.getElem?_append, t1] at hx
  rw [List.append_assoc, List.getElem?_append, t2] at hu
  split at hx
  · rename_i h
    simp only [h, if_true, List.getElem?_take] at hx hu
    exact hr i x v hx (by simpa using hu)
  · rename_i h
    simp only [h, if_false] at hu
    rw [List.getElem?_append] at hx hu
    rw [← hl2] at hu
    split at hx
    · rename_i h2
      simp only [h2, if_true] at hu
      have := hv (i - off) x v hx hu
      rwa [show off + (i - off) = i by omega] at this
    · rename_i h2
      simp only [h2, if_false, List.getElem?_drop] at hx hu
      have e1 : off + vs.length + (i - off - vs.length) = i := by omega
      rw [e1] at hx hu
      exact hr i x v hx (by simpa using hu)
theorem qje {cs vs : List V} {arr : Array Value} {us : List Value} {off : Nat} {f : Nat → Loc} (hl : cs.length ≤ arr.size) (hl2 : vs.length = us.length) (hfit : off + vs.length ≤ cs.length)
    (hr : ∀ (i : Nat) x v, cs[i]? = some x → arr[i]? = some v → RepC M g w (f i) x v) (hv : ∀ (i : Nat) x v, vs[i]? = some x → us[i]? = some v → RepC M g w (f (off + i)) x v) :
    (cs.take off ++ vs ++ cs.drop (off + vs.length)).length ≤ (arr.toList.take off ++ us ++ arr.toList.drop (off + us.length)).toArray.size ∧ (cs.length = arr.size → (cs.take off ++ vs ++ cs.drop (off + vs.length)).length = (arr.toList.take off ++ us ++ arr.toList.drop (off + us.length)).toArray.size) ∧ (cs.take off ++ vs ++ cs.drop (off + vs.length)).length = cs.length ∧
    ∀ (i : Nat) x v, (cs.take off ++ vs ++ cs.drop (off + vs.length))[i]? = some x → (arr.toList.take off ++ us ++ arr.toList.drop (off + us.length)).toArray[i]? = some v → RepC M g w (f i) x v :=
  qh8 (R := fun i => RepC M g w (f i)) hl hl2 hfit hr hv
theorem RepC.plain {ℓ : Loc} {x : V} {v : Value} (h : RepC M g w ℓ x v) (hx : x.ok = true) : RepS M g w x v := by
  cases h with
  | s h => exact h
  | osl h => cases hx
theorem qn1 : ∀ {vs : List V}, V.ok.oks vs = true → ∀ {i : Nat} {x : V}, vs[i]? = some x → x.ok = true
  | [], _, i, x, hx => by simp at hx
  | y :: l, h, 0, x, hx => by
    simp only [V.ok.oks, qvB] at h
    simp only [qvS, Option.some.injEq] at hx
    subst hx; exact h.1
  | y :: l, h, i + 1, x, hx => by
    simp only [V.ok.oks, qvB] at h
    exact qn1 h.2 (by simpa using hx)
theorem qfi {t : TypeId} {i : Go.TypeInfo} (hi : P.info? t = some i) {b off : Nat} {cur : Array Value} {T : TypeId} {fz : Nat × Nat} (hb : w.heap[b]? = some (.cells cur T fz)) {c : Value} (hsz : c.cells.size = i.size)
    (hz : ∀ j, j < off + c.cells.size → (decide (fz.1 ≤ j) && decide (j < fz.2)) = false) (hfit : off + c.cells.size ≤ cur.size) (h1 : ∀ u ∈ c.cells.toList, u.oneCell' = true) :
    (Go.Instr.storeAt t (.pointer (some ⟨b, off, none⟩)) c).run P w = .ok () (w.setRow b (cur.toList.take off ++ c.cells.toList ++ cur.toList.drop (off + c.cells.toList.length)).toArray) := by
  have h2 := yC P b off T fz c.cells.toList 0 cur w hb (fun j _ hj => hz j (by simpa using hj)) (by simpa using hfit) h1
  simp only [Nat.add_zero] at h2
  have e : (c.cells.size ≠ i.size) = False := by simp [hsz]
  simp only [Go.Instr.storeAt, Go.Instr.sureAddr, Sem.run_bind, Sem.run_pure, Result.andThen_ok, Go.storeVar, jR hi, e, if_false, h2]
theorem qpd (hd : kp o a) (hR : Rel M g w β st a.tmps) {t : TypeId} {l : L} (hl : lay P t = some l) {sl : Option Nat} {m : Bool} {p x : Operand} {p' x' : O} (hp : opnd M false p = some p') (hx : opnd M m x = some x')
    (ho : o.op = .store t p x) {r : Or} (hr : qbS sl l p' x' st = some r) : Left1 P M g w o a r := by
  have hP := kr hR hp
  have hX := qfv hR hx
  obtain ⟨i, d, hi, hu, rfl⟩ := y3 hl
  unfold qbS at hr
  cases hs : zf sl (rd st.env p') with
  | false => simp [hs] at hr
  | true =>
  simp only [hs, qvN, cond_false] at hr
  split at hr
  · rename_i st' hst
    have key : ∀ {w' g'}, (Go.Instr.storeAt t (a.eval p) (a.eval x)).run P w = .ok () w' → Rel M g' w' β st' a.tmps → Evo g w g' w' → Left1 P M g w o a r := by
      intro w' g' hrun hR' hE
      have hv : RepV M g' w' β .undef Go.undef := .s (.undef _)
      have hy : Yields P o a w Go.undef w' := .skip (by simp only [Go.execOp, ho, Sem.run_bind, hrun, Result.andThen_ok, Sem.run_pure])
      cases sl with
      | some _ =>
        simp only [ok, Option.some.injEq] at hr; subst hr
        exact ⟨_, w', g', β, hy, hR'.putV hd hv, hE⟩
      | none =>
        simp only [okH, Option.some.injEq] at hr; subst hr
        exact ⟨_, w', g', β, hy, hR'.putV hd hv, hE⟩
    generalize rd st.env p' = pv at hP hst hs
    generalize rd st.env x' = xv at hX hst
    unfold qbj at hst
    split at hst
    · rename_i s off
      have e := hP.inv_lp
      split at hst
      · rename_i cs hbox
        split at hst
        · rename_i hc
          simp only [qvB, beq_iff_eq, decide_eq_true_eq] at hc
          split at hst
          · rename_i cs' hset
            simp only [Option.some.injEq] at hst
            subst hst
            unfold za at hset
            split at hset
            · rename_i hfit
              simp only [Option.some.injEq] at hset
              subst hset
              obtain ⟨g1, hR1, hE1, hn1, hφ1, hlen, hrep, hone, hkk⟩ := hR.take hX hc.2 (fun i => .bcell s (off + i))
              have hsb := hR1.e s
              rw [hbox] at hsb
              generalize a.tmps.getD s Go.undef = cc at hsb
              cases hsb with
              | s h => cases h
              | box _ arr T hb ho hp0 hlb hrb =>
                have hsz : (a.eval x).cells.size = i.size := by rw [← hlen]; exact hc.1
                have hrun := qfi (P := P) hi hb (off := off) hsz (fun j _ => by simp) (by rw [← hlb, ← hlen]; exact hfit) hone
                rw [← e] at hrun
                obtain ⟨_, k1, _, k2⟩ := qje (f := fun i => Loc.bcell s i) (us := (a.eval x).cells.toList) (Nat.le_of_eq hlb) (by simpa using hlen) hfit hrb (fun i x v hx hv => hrep i x v hx (by simpa using hv))
                obtain ⟨h3, h4⟩ := hR1.setBox hbox (Wr.setRow _ hp0) (Go.setRow_heap w (β s) arr _ T (0, 0) hb) (k1 hlb) k2
                exact key hrun h3 (hE1.trans h4)
            · cases hset
          · cases hst
        · cases hst
      · cases hst
    · rename_i id off
      obtain ⟨e, hid⟩ := hP.inv_ptr
      split at hst
      · rename_i cs hH
        split at hst
        · rename_i hc
          simp only [qvB, beq_iff_eq, decide_eq_true_eq] at hc
          split at hst
          · rename_i cs' hset
            simp only [Option.some.injEq] at hst
            subst hst
            unfold za at hset
            split at hset
            · rename_i hfit
              simp only [Option.some.injEq] at hset
              subst hset
              obtain ⟨g1, hR1, hE1, hn1, hφ1, hlen, hrep, hone, hkk⟩ := hR.take hX hc.2 (fun i => .ocell id (off + i))
              have hob := hR1.h id _ hH
              cases hob with
              | cells _ arr T fz hb hz ho hp0 hlb hrb =>
                have hsz : (a.eval x).cells.size = i.size := by rw [← hlen]; exact hc.1
                have hrun := qfi (P := P) hi hb (off := off) hsz (fun j hj => hz j (by rw [← hlen] at hj; omega)) (by rw [← hlen]; exact Nat.le_trans hfit hlb) hone
                rw [show g1.φ = g.φ from funext fun i => Gh.φ_eq (congrFun hφ1 i), ← e] at hrun
                obtain ⟨k1, _, k3, k2⟩ := qje (f := fun i => Loc.ocell id i) (us := (a.eval x).cells.toList) hlb (by simpa using hlen) hfit hrb (fun i x v hx hv => hrep i x v hx (by simpa using hv))
                have hw := Wr.setRow (w := w) (arr.toList.take off ++ (a.eval x).cells.toList ++ arr.toList.drop (off + (a.eval x).cells.toList.length)).toArray hp0
                have hrp : RepO M g1 (w.setRow (g1.φ id) (arr.toList.take off ++ (a.eval x).cells.toList ++ arr.toList.drop (off + (a.eval x).cells.toList.length)).toArray) id (.cells (cs.take off ++ xv.cells ++ cs.drop (off + xv.cells.length))) :=
                  .cells _ _ T fz (Go.setRow_heap w (g1.φ id) arr _ T fz hb) (fun j hj => hz j (by rw [k3] at hj; exact hj)) ho hp0 k1 (fun i x v hx hv => (k2 i x v hx hv).mono hw.grow (qvC _) (fun _ _ => rfl) (hw.kept ho (by simp)))
                obtain ⟨h3, h4⟩ := hR1.setObj hH ho hw hrp (min st.lo id)
                rw [show g1.φ = g.φ from funext fun i => Gh.φ_eq (congrFun hφ1 i)] at h3 h4
                exact key hrun h3 (hE1.trans h4)
            · cases hset
          · cases hst
        · cases hst
      · rename_i k0 cs hH
        split at hst
        · rename_i hc
          simp only [qvB, beq_iff_eq, decide_eq_true_eq] at hc
          split at hst
          · rename_i cs' hset
            simp only [Option.some.injEq] at hst
            subst hst
            unfold za at hset
            split at hset
            · rename_i hfit
              simp only [Option.some.injEq] at hset
              subst hset
              obtain ⟨g1, hR1, hE1, hn1, hφ1, hlen, hrep, hone, hkk⟩ := hR.take hX hc.1.2 (fun i => .ocell id (off + i))
              have hob := hR1.h id _ hH
              cases hob with
              | row _ _ arr T hb ho hp0 hlb hζ hrb =>
                have hsz : (a.eval x).cells.size = i.size := by rw [← hlen]; exact hc.1.1
                have hrun := qfi (P := P) hi hb (off := off) hsz (fun j hj => by simp) (by rw [← hlen]; exact Nat.le_trans hfit hlb) hone
                rw [show g1.φ = g.φ from funext fun i => Gh.φ_eq (congrFun hφ1 i), ← e] at hrun
                obtain ⟨k1, _, k3, k2⟩ := qh8 (R := fun _ => RepS M g1 w) (us := (a.eval x).cells.toList) hlb (by simpa using hlen) hfit hrb (fun i x v hx hv => (hrep i x v hx (by simpa using hv)).plain (qn1 hc.2 hx))
                have hw := Wr.setRow (w := w) (arr.toList.take off ++ (a.eval x).cells.toList ++ arr.toList.drop (off + (a.eval x).cells.toList.length)).toArray hp0
                have hrp : RepO M g1 (w.setRow (g1.φ id) (arr.toList.take off ++ (a.eval x).cells.toList ++ arr.toList.drop (off + (a.eval x).cells.toList.length)).toArray) id (.row k0 (cs.take off ++ xv.cells ++ cs.drop (off + xv.cells.length))) :=
                  .row _ _ _ T (Go.setRow_heap w (g1.φ id) arr _ T (0, 0) hb) ho hp0 k1 (Nat.le_trans hζ (by
                    have h5 : off + (a.eval x).cells.toList.length ≤ arr.size := by
                      have : xv.cells.length = (a.eval x).cells.toList.length := by simpa using hlen
                      omega
                    simp at h5 ⊢; omega)) (fun i x v hx hv => (k2 i x v hx hv).mono hw.grow (qvC _) (fun _ _ => rfl) (k2 i x v hx hv).ref)
                obtain ⟨h3, h4⟩ := hR1.setObj hH ho hw hrp (min st.lo id)
                rw [show g1.φ = g.φ from funext fun i => Gh.φ_eq (congrFun hφ1 i)] at h3 h4
                exact key hrun h3 (hE1.trans h4)
            · cases hset
          · cases hst
        · cases hst
      · cases hst
    · cases hst
  · cases hr
end
end W

/-
  Reads that take the slice along; maps that are made and written.
-/
set_option linter.unusedSimpArgs false
set_option linter.unusedVariables false
namespace W
open Go (World Value Addr IntKind Program TypeId FuncId Operand Act Oper Next Result Sem BinOp UnOp)
theorem qi8 {α : Type} {l : List α} {i : Nat} {x y : α} (h : l[i]? = some x) : (l.set i y)[i]? = some y := by
  have hlt := (List.getElem?_eq_some_iff.1 h).1
  rw [List.getElem?_set]; simp [hlt]
section
variable {P : Program} {M : Maps} {g : Gh} {w : World} {β : Nat → Nat} {st : St} {o : Oper} {a : Act}
theorem Rel.reownB {tmps : Array Value} (h : Rel M g w β st tmps) {s i b : Nat} {cs : List V} (hs : get s st.env = .box cs) (hu : cs[i]? = some .undef) (hb : g.own b = some (.bcell s i)) (hlt : b < w.heap.size)
    (ℓ : Option Loc) : Rel M (g.setOwn b ℓ) w β st tmps := by
  have hg := qbt g w b ℓ
  have hk : ∀ {ℓ₁ : Loc}, ℓ₁ ≠ .bcell s i → Kept g w (g.setOwn b ℓ) w ℓ₁ := fun h => jO ℓ hb h
  refine ⟨h.n, fun k => ?_, fun id o ho => ?_, fun x hx => ?_, h.gl.mono hg⟩
  · by_cases hks : k = s
    · subst hks
      have he := h.e k
      rw [hs] at he ⊢
      generalize tmps.getD k Go.undef = c at he
      cases he with
      | s h => cases h
      | box _ arr T hbb ho hp hl hr =>
        obtain ⟨k1, k2, k3⟩ := (hk (ℓ₁ := .bblk k) (by simp)).k _ ho
        refine .box cs arr T (k2.trans hbb) k1 (k3.trans hp) hl (fun j x v hx hv => ?_)
        by_cases hj : j = i
        · subst hj
          rw [hu] at hx; cases hx
          exact .s (.undef _)
        · exact (hr j x v hx hv).mono hg (qvC _) (fun _ _ => rfl) (hk (by simpa using hj))
    · exact (h.e k).mono hg (qvC _) (fun _ _ => rfl) (hk (by simp)) (hk (by simp)) (fun j => hk (by simp [hks]))
  · exact (h.h id o ho).mono hg (qvC _) (fun _ _ => rfl) (by rw [h.n]; exact (List.getElem?_eq_some_iff.1 ho).1) (hk (by simp)) (fun i => hk (by simp))
  · have : x ≠ b := by omega
    simpa [Gh.setOwn, this] using h.fresh x hx
theorem Rel.reownO {tmps : Array Value} (h : Rel M g w β st tmps) {id i b : Nat} {cs : List V} (hs : st.H[id]? = some (.cells cs)) (hu : cs[i]? = some .undef) (hb : g.own b = some (.ocell id i)) (hlt : b < w.heap.size)
    (ℓ : Option Loc) : Rel M (g.setOwn b ℓ) w β st tmps := by
  have hg := qbt g w b ℓ
  have hk : ∀ {ℓ₁ : Loc}, ℓ₁ ≠ .ocell id i → Kept g w (g.setOwn b ℓ) w ℓ₁ := fun h => jO ℓ hb h
  refine ⟨h.n, fun k => ?_, fun id' o ho => ?_, fun x hx => ?_, h.gl.mono hg⟩
  · exact (h.e k).mono hg (qvC _) (fun _ _ => rfl) (hk (by simp)) (hk (by simp)) (fun j => hk (by simp))
  · by_cases hid : id' = id
    · subst hid
      rw [hs] at ho; cases ho
      cases h.h id' _ hs with
      | cells _ arr T fz hbb hz ho hp hl hr =>
        obtain ⟨k1, k2, k3⟩ := (hk (ℓ₁ := .oblk id') (by simp)).k _ ho
        refine .cells cs arr T fz (k2.trans hbb) hz k1 (k3.trans hp) hl (fun j x v hx hv => ?_)
        by_cases hj : j = i
        · subst hj
          rw [hu] at hx; cases hx
          exact .s (.undef _)
        · exact (hr j x v hx hv).mono hg (qvC _) (fun _ _ => rfl) (hk (by simpa using hj))
    · exact (h.h id' o ho).mono hg (qvC _) (fun _ _ => rfl) (by rw [h.n]; exact (List.getElem?_eq_some_iff.1 ho).1) (hk (by simp)) (fun i => hk (by simp [hid]))
  · have : x ≠ b := by omega
    simpa [Gh.setOwn, this] using h.fresh x hx
theorem Wr.refl (g : Gh) (w : World) (b : Nat) : Wr g w w b := ⟨rfl, fun _ _ => rfl, fun _ _ => rfl, rfl, rfl⟩
theorem qod {cs : List V} {arr : Array Value} {off : Nat} {f : Nat → Loc}
    (hr : ∀ (i : Nat) x v, cs[i]? = some x → arr[i]? = some v → RepC M g w (f i) x v) :
    ∀ (i : Nat) x v, (cs.set off .undef)[i]? = some x → arr[i]? = some v → RepC M g w (f i) x v := fun i x v hx hv => by
  rw [List.getElem?_set] at hx
  split at hx
  · split at hx
    · cases hx; exact .s (.undef _)
    · cases hx
  · exact hr i x v hx hv
theorem qjT {t : TypeId} {l : L} (hl : lay P t = some l) (ha : l.agg = false) {b off : Nat} {arr : Array Value} {T : TypeId} {fz : Nat × Nat} (hb : w.heap[b]? = some (.cells arr T fz)) {c : Value} (hc : arr[off]? = some c) :
    (Go.Instr.loadAt t (.pointer (some ⟨b, off, none⟩))).run P w = .ok c w := by
  have := (yG (P := P) (w := w) (vs := [c]) hl (b := b) (off := off) (fun j u hj => by
    cases j with
    | zero => simp at hj; subst hj; simpa [World.cell?, hb] using hc
    | succ j => simp at hj)).2 ha _ rfl
  simpa [Go.Instr.loadAt, Go.Instr.sureAddr] using this
theorem qnm (hd : kp o a) (hR : Rel M g w β st a.tmps) {t : TypeId} {l : L} (hl : lay P t = some l) {sl : Option Nat} {x : Operand} {x' : O} (hx : opnd M false x = some x')
    (ho : o.op = .load t x) {r : Or} (hr : qaZ true sl l x' st = some r) : Left1 P M g w o a r := by
  have hP := kr hR hx
  unfold qaZ at hr
  cases hs : zf sl (rd st.env x') with
  | false => simp [hs] at hr
  | true =>
  cases ha : l.agg with
  | true => simp [hs, ha] at hr
  | false =>
  simp only [hs, ha, qvN, cond_false, cond_true] at hr
  split at hr
  · rename_i v st' hst
    have key : ∀ {c : Value} {g'}, (Go.Instr.loadAt t (a.eval x)).run P w = .ok c w → Rel M g' w β (put o.dst v st') (a.put o.dst c).tmps → Evo g w g' w → Left1 P M g w o a r := by
      intro c g' hrun hR' hE
      have hy : Yields P o a w c w := .value (by simp only [Go.execOp, ho, Sem.run_bind, hrun, Result.andThen_ok, Sem.run_pure])
      cases sl with
      | some _ =>
        simp only [ok, Option.some.injEq] at hr; subst hr
        exact ⟨_, w, g', β, hy, hR', hE⟩
      | none =>
        simp only [okH, Option.some.injEq] at hr; subst hr
        exact ⟨_, w, g', β, hy, hR', hE⟩
    generalize rd st.env x' = pv at hP hst hs
    unfold qkM at hst
    split at hst
    · rename_i s off
      have e := hP.inv_lp
      split at hst
      · rename_i cs hbox
        split at hst
        · rename_i v' hcell
          simp only [Option.some.injEq, Prod.mk.injEq] at hst
          obtain ⟨rfl, rfl⟩ := hst
          have hsb := hR.e s
          rw [hbox] at hsb
          generalize htm : a.tmps.getD s Go.undef = cc at hsb
          cases hsb with
          | s h => cases h
          | box _ arr T hb ho' hp0 hlb hrb =>
            have hlt : off < arr.size := by rw [← hlb]; exact (List.getElem?_eq_some_iff.1 hcell).1
            have hc : arr[off]? = some arr[off] := by simp [hlt]
            have hrun := qjT (P := P) hl ha hb hc
            rw [← e] at hrun
            obtain ⟨h3, h4⟩ := hR.setBox hbox (Wr.refl g w (β s)) (cs' := cs.set off .undef) hb (by simpa using hlb) (qod hrb)
            cases hrb off v' _ hcell hc with
            | s h => exact key hrun (h3.putV hd (.s h)) h4
            | osl h =>
              rename_i xs
              rcases h.setOwn with ⟨b, hb1, hb2, hv'⟩ | hv'
              case inr => exact key (g' := g) hrun (h3.putFull hd hv') h4
              cases hdst : o.dst with
              | none =>
                refine key (g' := g) hrun ?_ (Evo.refl g w)
                rw [yb (by intro cs e; cases e), Act.put_tmps, hdst]
                exact h3
              | some d =>
                refine key (g' := g.setOwn b (some (.slot d))) hrun ?_ (qdf _ hb1 (by simp))
                rw [yb (by intro cs e; cases e), Act.put_tmps, hdst]
                have h5 : Rel M (g.setOwn b (some (.slot d))) w β { st with env := (s, .box (cs.set off .undef)) :: st.env } a.tmps :=
                  h3.reownB (by rw [kD, if_pos rfl]) (qi8 hcell) hb1 hb2 _
                exact h5.lay (hd d hdst) (.osl (hv' _))
        · cases hst
      · cases hst
    · rename_i id off
      obtain ⟨e, hid⟩ := hP.inv_ptr
      split at hst
      · rename_i cs hH
        split at hst
        · rename_i v' hcell
          simp only [Option.some.injEq, Prod.mk.injEq] at hst
          obtain ⟨rfl, rfl⟩ := hst
          cases hR.h id _ hH with
          | cells _ arr T fz hb hz ho' hp0 hlb hrb =>
            have hlt : off < arr.size := Nat.lt_of_lt_of_le (List.getElem?_eq_some_iff.1 hcell).1 hlb
            have hc : arr[off]? = some arr[off] := by simp [hlt]
            have hrun := qjT (P := P) hl ha hb hc
            rw [← e] at hrun
            have hrp : RepO M g w id (.cells (cs.set off .undef)) := .cells _ arr T fz hb (fun j hj => hz j (by simpa using hj)) ho' hp0 (by simpa using hlb) (qod hrb)
            obtain ⟨h3, h4⟩ := hR.setObj hH ho' (Wr.refl g w _) hrp (min st.lo id)
            cases hrb off v' _ hcell hc with
            | s h => exact key hrun (h3.putV hd (.s h)) h4
            | osl h =>
              rename_i xs
              rcases h.setOwn with ⟨b, hb1, hb2, hv'⟩ | hv'
              case inr => exact key (g' := g) hrun (h3.putFull hd hv') h4
              cases hdst : o.dst with
              | none =>
                refine key (g' := g) hrun ?_ (Evo.refl g w)
                rw [yb (by intro cs e; cases e), Act.put_tmps, hdst]
                exact h3
              | some d =>
                refine key (g' := g.setOwn b (some (.slot d))) hrun ?_ (qdf _ hb1 (by simp))
                rw [yb (by intro cs e; cases e), Act.put_tmps, hdst]
                have hlen2 : id < st.H.length := (List.getElem?_eq_some_iff.1 hH).1
                have h5 := h3.reownO (id := id) (i := off) (cs := cs.set off .undef) (qi8 hH)
                  (qi8 hcell) hb1 hb2 (some (.slot d))
                exact h5.lay (hd d hdst) (.osl (hv' _))
        · cases hst
      · cases hst
    · cases hst
  · cases hr
theorem qpb (hd : kp o a) (hR : Rel M g w β st a.tmps) {t : TypeId} (ho : o.op = .makeMap t none) {r : Or} (hr : qeW st = some r) : Left1 P M g w o a r := by
  simp only [qeW, okH, Option.some.injEq] at hr
  subst hr
  have hf := hR.fr
  have hrun : (Go.execOp a.eval o).run P w = .ok (.value (.map (some w.heap.size))) (w.alloc (.map #[] 0)) := by
    simp [Go.execOp, ho, Go.Instr.makeMap]
  obtain ⟨h1, h2⟩ := hR.newObj (.map []) (.map #[] 0) (.map [] #[] 0 (by simp only [Gh.withObj, Gh.φ, if_true]; exact z1 w _) (by simp [Gh.withObj, Gh.φ]) .nil)
  refine ⟨_, _, g.withObj w.heap.size, β, .value hrun, ?_, h2⟩
  have hv : RepV M (g.withObj w.heap.size) (w.alloc (.map #[] 0)) β (.map st.H.length) (.map (some w.heap.size)) := by
    have := RepS.map (M := M) (g := g.withObj w.heap.size) (w := w.alloc (.map #[] 0)) g.n (Nat.lt_succ_self _)
    rw [← hR.n]
    simpa [Gh.withObj, Gh.φ] using RepV.s (β := β) this
  exact h1.putV hd hv
end
end W

/-
  Maps that are written.
-/
set_option linter.unusedSimpArgs false
set_option linter.unusedVariables false
namespace W
open Go (World Value Addr IntKind Program TypeId FuncId Operand Act Oper Next Result Sem BinOp UnOp)
theorem qsA {kk : Nat} {k k' : D} (hg : qav kk k = true) (hs : k.same k' = some true) : k' = k := by
  unfold qav at hg
  split at hg
  · cases k' <;> simp only [D.same, Option.some.injEq, reduceCtorEq, beq_iff_eq] at hs
    rw [hs]
  · cases k' <;> simp only [D.same, Option.some.injEq, reduceCtorEq] at hs
    rename_i k1 n1 k2 n2
    cases hkk : eqK k1 k2 with
    | false => simp [hkk] at hs
    | true =>
      simp only [hkk, cond_true, Option.some.injEq, qgj, beq_iff_eq, decide_eq_true_eq] at hs
      rw [qhn hkk, hs]
  · cases k' <;> simp only [D.same, Option.some.injEq, reduceCtorEq] at hs
    rw [qjw] at hs
    simp only [beq_iff_eq, decide_eq_true_eq] at hs
    rw [hs]
  · cases hg
theorem qgW {x y : ByteArray} (h : x.data.toList.map (·.toNat) = y.data.toList.map (·.toNat)) : x = y := by
  have h1 : x.data.toList = y.data.toList := by
    have inj : Function.Injective (fun b : UInt8 => b.toNat) := fun a b h => UInt8.toNat_inj.1 h
    exact (List.map_inj_right (fun a b h => inj h)).1 h
  have h2 : x.data = y.data := Array.ext' h1
  cases x; cases y; simp at h2; rw [h2]
theorem qtj (x : ByteArray) : (x == x) = true := by
  cases x with | mk d =>
  show (d == d) = true
  simp
theorem qpF {pub : Nat → Nat} {w : World} {kk : Nat} {k : D} {c c' : Value} (hg : qav kk k = true) (h : RepD pub w k c) (h' : RepD pub w k c') (n : Nat) : Go.Instr.sameBits n c c' = true := by
  unfold qav at hg
  split at hg
  · cases h; cases h'; cases n <;> simp [Go.Instr.sameBits]
  · cases h; cases h'; cases n <;> simp [Go.Instr.sameBits]
  · cases h with
    | s t x h => cases h' with
      | s _ y h' =>
        have : x = y := qgW (h.trans h'.symm)
        subst this
        cases n <;> simp [Go.Instr.sameBits, qtj]
  · cases hg
theorem qjD {P : Program} {M : Maps} {g : Gh} {w : World} {kt : TypeId} {kk : Nat} {dd : Go.TypeDesc} (hk : qbe P kt = some kk) (hu : P.underlying kt = some dd) {k : D} {c : Value} (hg : qav kk k = true)
    (h : RepD g.pub w k c) {x : V} {xc : Value} (hx : RepS M g w x xc) : ∀ {es : List (D × V)} {ents : List Go.MapEntry} (j : Nat) {es' : List (D × V)}, RepEs M g w es ents → qeU k x es = some es' →
    (Go.Instr.findNow dd c ents j = some none ∧ ∀ born, RepEs M g w es' (ents ++ [⟨c, xc, born⟩])) ∨
    (∃ i e, ents[i]? = some e ∧ Go.Instr.findNow dd c ents j = some (some (j + i, e.val)) ∧ Go.Instr.sameBits 10000 e.key c = true ∧
      RepEs M g w es' (ents.modify i fun e => { e with key := c, val := xc }))
  | _, _, j, r, .nil, hf => by
    simp only [qeU, Option.some.injEq] at hf
    subst hf
    exact .inl ⟨rfl, fun born => .cons k x _ _ _ h ⟨kk, hg⟩ hx .nil⟩
  | _, _, j, r, .cons k' y e es ents hk' hgk hy hl, hf => by
    simp only [qeU] at hf
    split at hf
    · rename_i hs
      simp only [Option.some.injEq] at hf
      subst hf
      have e' := qsA hg hs
      subst e'
      refine .inr ⟨0, e, rfl, ?_, qpF hg hk' h _, ?_⟩
      · simp only [Go.Instr.findNow, qdn hk hu hg h hk' hs, Nat.add_zero]
      · exact .cons _ x _ _ _ h ⟨kk, hg⟩ hx hl
    · rename_i hs
      have e1 : Go.Instr.findNow dd c (e :: ents) j = Go.Instr.findNow dd c ents (j + 1) := by simp only [Go.Instr.findNow, qdn hk hu hg h hk' hs]
      split at hf
      · rename_i r' hr'
        simp only [Option.some.injEq] at hf
        subst hf
        rcases qjD hk hu hg h hx (j + 1) hl hr' with ⟨h1, h2⟩ | ⟨i, en, h1, h2, h3, h4⟩
        · exact .inl ⟨by rw [e1]; exact h1, fun born => .cons k' y e _ _ hk' hgk hy (h2 born)⟩
        · exact .inr ⟨i + 1, en, by simpa using h1, by rw [e1, h2]; congr 3; omega, h3, by simpa using RepEs.cons k' y e _ _ hk' hgk hy h4⟩
      · cases hf
    · cases hf
section
variable {P : Program} {M : Maps} {g : Gh} {w : World} {β : Nat → Nat} {st : St} {o : Oper} {a : Act}
theorem Wr.map {b : Nat} {ents ents' : Array Go.MapEntry} {c c' : Nat} (hb : w.heap[b]? = some (.map ents c)) : Wr g w { w with heap := w.heap.setIfInBounds b (.map ents' c') } b := by
  have hlt : b < w.heap.size := (Array.getElem?_eq_some_iff.1 hb).1
  refine ⟨by simp, fun x hx => ?_, fun o _ => ?_, rfl, rfl⟩
  · simp [Array.getElem?_setIfInBounds_ne (Ne.symm hx)]
  · have e := (Array.getElem?_eq_some_iff.1 hb).2
    simp [World.cell?, hb, Array.getElem?_setIfInBounds, hlt]
    rw [e]
theorem qf0 (hd : kp o a) (hR : Rel M g w β st a.tmps) {t kt e : TypeId} (hu : P.underlying t = some (.map kt e)) {kk : Nat} (hk : qbe P kt = some kk) {m : Bool} {p i x : Operand} {p' i' x' : O}
    (hp : opnd M false p = some p') (hi : opnd M false i = some i') (hx : opnd M m x = some x') (ho : o.op = .mapUpdate t p i x ∨ o.op = .insert t p i x) {r : Or} (hr : jT kk p' i' x' st = some r) : Left1 P M g w o a r := by
  have h1 := kr hR hp
  have h2 := kr hR hi
  have h3 := qfv hR hx
  obtain ⟨dd, hdd, _⟩ := qdI hk
  have hrun0 : (Go.execOp a.eval o).run P w = ((Go.Instr.mapUpdate t (a.eval p) (a.eval i) (a.eval x)).run P w).andThen fun _ w' => .ok .skip w' := by
    rcases ho with ho | ho <;> simp only [Go.execOp, ho] <;> rw [Sem.run_bind] <;> rfl
  unfold jT at hr
  split at hr
  · rename_i id key hm hkey
    rw [hm] at h1; rw [hkey] at h2
    split at hr
    · rename_i es hH
      generalize rd st.env x' = v at hr h3
      simp only at hr
      split at hr
      · rename_i hgood
        simp only [qvB] at hgood
        split at hr
        · rename_i es' hset
          simp only [okH, Option.some.injEq] at hr
          subst hr
          have hv : RepS M g w v (a.eval x) := by
            generalize a.eval x = xc at h3 ⊢
            cases h3 with
            | v h => cases h with
              | s h => exact h
              | lp => simp [V.ok] at hgood
              | cp => simp [V.ok] at hgood
            | own h => simp [V.ok] at hgood
          generalize hc1 : a.eval p = cx at h1
          cases h1 with
          | s h1 => cases h1 with
            | map _ hid =>
              have hO := hR.h id _ hH
              cases hO with
              | map _ ents clock hb ho' hr' =>
                have hg : (Go.getObj (g.φ id)).run P w = .ok (.map ents clock) w := by simp [Go.getObj, Sem.run, hb]
                have hso : ∀ ob, (Go.setObj (g.φ id) ob).run P w = .ok () { w with heap := w.heap.setIfInBounds (g.φ id) ob } := fun ob => by simp [Go.setObj, Sem.run, hb]
                have fin : ∀ {ents' : Array Go.MapEntry} {clock' : Nat}, (Go.Instr.mapUpdate t (a.eval p) (a.eval i) (a.eval x)).run P w = .ok () { w with heap := w.heap.setIfInBounds (g.φ id) (.map ents' clock') } →
                    RepEs M g w es' ents'.toList → Left1 P M g w o a ⟨false, false, .undef, { st with H := k9 st.H id (.map es'), lo := min st.lo id, env := spent x' st.env }⟩ := by
                  intro ents' clock' hrun hre
                  have hw := Wr.map (g := g) (ents' := ents') (c' := clock') hb
                  have hlt : g.φ id < w.heap.size := (Array.getElem?_eq_some_iff.1 hb).1
                  have hrp : RepO M g { w with heap := w.heap.setIfInBounds (g.φ id) (.map ents' clock') } id (.map es') :=
                    .map es' ents' clock' (by simp [hlt]) ho' (hre.mono hw.grow (qvC _) (fun _ _ => rfl))
                  obtain ⟨h4, h5⟩ := (hR.spent x').setObj (id := id) hH ho' hw hrp (min st.lo id)
                  exact ⟨_, _, g, β, .skip (by rw [hrun0, hrun]; rfl), h4.putV hd (.s (.undef _)), h5⟩
                rcases qjD hk hdd hgood.1 h2.inv_d hv 0 hr' hset with ⟨e1, e2⟩ | ⟨j, en, e1, e2, e3, e4⟩
                · refine fin (ents' := ents.push ⟨a.eval i, a.eval x, clock⟩) (clock' := clock + 1) ?_ (by simpa using e2 clock)
                  rw [hc1]
                  simp only [Go.Instr.mapUpdate, Sem.run_bind, Go.run_underlying hu, Result.andThen_ok, hg, Sem.run_pure, qbY hk, qcu hdd e1, hso]
                · refine fin (ents' := ents.modify j fun e => { e with key := a.eval i, val := a.eval x }) (clock' := clock) ?_ (by simpa using e4)
                  have e5 : ents[j]? = some en := by simpa using e1
                  have e6 : (Go.Instr.keyThatStays (((ents[j]?).map (·.key)).getD (a.eval i)) (a.eval i)).run P w = .ok (a.eval i) w := by
                    simp only [e5, qvH, Option.getD_some, Go.Instr.keyThatStays, e3, if_true, Sem.run_pure]
                  rw [hc1]
                  simp only [qvF] at e2
                  simp only [Go.Instr.mapUpdate, Sem.run_bind, Go.run_underlying hu, Result.andThen_ok, hg, Sem.run_pure, qbY hk, qcu hdd e2, e6, hso]
        · cases hr
      · cases hr
    · cases hr
  · cases hr
end
end W

/-
  Slices of one's own: made anew, grown.
-/
set_option linter.unusedSimpArgs false
set_option linter.unusedVariables false
namespace W
open Go (World Value Addr IntKind Program TypeId FuncId Operand Act Oper Next Result Sem BinOp UnOp)
section
variable {P : Program} {M : Maps} {g g' : Gh} {w w' : World} {β : Nat → Nat} {st : St} {o : Oper} {a : Act}
theorem Rel.others {tmps : Array Value} (h : Rel M g w β st tmps) {n : Nat} (hn : get n st.env = .undef) (hg : Grow g w g' w') (hnn : g'.n = g.n) (hφ : g'.Φ = g.Φ)
    (hk : ∀ ℓ, ℓ ≠ .slot n → Kept g w g' w' ℓ) (hf : Fresh g' w') : Rel M g' w' β st tmps := by
  have hn' : g.n ≤ g'.n := by rw [hnn]; exact qvC _
  have hφ' : ∀ id, id < g.n → g'.Φ id = g.Φ id := fun id _ => by rw [hφ]
  refine ⟨by rw [hnn]; exact h.n, fun k => ?_, fun id o ho => ?_, hf.f, h.gl.mono hg⟩
  · by_cases hk' : k = n
    · subst hk'; rw [hn]; exact .s (.undef _)
    · exact (h.e k).mono hg hn' hφ' (hk _ (by simp [hk'])) (hk _ (by simp)) (fun i => hk _ (by simp))
  · exact (h.h id o ho).mono hg hn' hφ' (by rw [h.n]; exact (List.getElem?_eq_some_iff.1 ho).1) (hk _ (by simp)) (fun i => hk _ (by simp))
theorem qg6 (hd : kp o a) (hR : Rel M g w β st a.tmps) {xs : List D} {sz cap : Nat} {vs : List Value} {arr : Array Value} {T : TypeId} {fz : Nat × Nat} (hsz : ∀ x ∈ xs, x.cells.length = sz)
    (hr : RepDL g.pub w (xs.flatMap D.cells) vs) (harr : arr.toList.take vs.length = vs) (hcap : xs.length ≤ cap) (ha : cap * sz ≤ arr.size) (hone : ∀ u ∈ vs, u.oneCell' = true)
    (hfz : ∀ j, j < cap * sz → (decide (fz.1 ≤ j) && decide (j < fz.2)) = false) :
    ∃ g', Rel M g' (w.alloc (.cells arr T fz)) β (put o.dst (qnk xs) st) (a.put o.dst (.slice (some ⟨w.heap.size, 0, none⟩) xs.length cap)).tmps ∧ Evo g w g' (w.alloc (.cells arr T fz)) := by
  have hf := hR.fr
  cases xs with
  | nil =>
    have hR' := hR.alloc none 0 (.cells arr T fz)
    exact ⟨_, hR'.putV hd (.s (.d _ _ (.sl0 _ _))), qaQ hf none 0 _⟩
  | cons x l =>
    cases hdst : o.dst with
    | none =>
      have hR' := hR.alloc none 0 (.cells arr T fz)
      exact ⟨_, by simpa [put, Act.put_tmps] using hR', qaQ hf none 0 _⟩
    | some d =>
      have hR' := hR.alloc (some (.slot d)) vs.length (.cells arr T fz)
      refine ⟨_, ?_, qaQ hf (some (.slot d)) vs.length _⟩
      rw [qnk, yb (by intro cs e; cases e), Act.put_tmps]
      refine hR'.lay (hd d hdst) (.osl ?_)
      have hg := qbl hf (some (.slot d)) vs.length (.cells arr T fz)
      have hb := z1 w (.cells arr T fz)
      refine .mk (x :: l) w.heap.size 0 cap sz vs arr T fz (by simp) hsz (hr.mono hg.pub hg.cell) (fun j v hj => ?_) (by simp [Gh.withNew]) hcap hone (by simp [Gh.withNew]) hb (by simpa using ha) (fun o _ ho => ?_)
      · have hj' : j < vs.length := (List.getElem?_eq_some_iff.1 hj).1
        rw [← harr, List.getElem?_take] at hj
        simp only [hj', if_true] at hj
        have e0 : (⟨w.heap.size, 0 + j, none⟩ : Addr) = ⟨w.heap.size, j, none⟩ := by rw [qvF]
        rw [e0]
        simp only [World.cell?, hb]
        simpa using hj
      · rw [qeb hb]; exact hfz o (by simpa using ho)
theorem qp8 (hd : kp o a) (hR : Rel M g w β st a.tmps) {xs : List D} {sz : Nat} {vs : List Value} {arr : Array Value} {T : TypeId} {fz : Nat × Nat} (hne : xs ≠ []) (hsz : ∀ x ∈ xs, x.cells.length = sz)
    (hr : RepDL g.pub w (xs.flatMap D.cells) vs) (harr : arr.toList.take vs.length = vs) (hone : ∀ u ∈ vs, u.oneCell' = true) :
    ∃ g', Rel M g' (w.alloc (.cells arr T fz)) β (put o.dst (.fsl xs) st) (a.put o.dst (.slice (some ⟨w.heap.size, 0, none⟩) xs.length xs.length)).tmps ∧ Evo g w g' (w.alloc (.cells arr T fz)) := by
  have hf := hR.fr
  have hR' := hR.alloc none vs.length (.cells arr T fz)
  have hg := qbl hf none vs.length (.cells arr T fz)
  have hb := z1 w (.cells arr T fz)
  refine ⟨_, hR'.putV hd (.s (.fsl xs _ (.sl xs w.heap.size 0 _ sz vs hne hsz (hr.mono hg.pub hg.cell) (fun j v hj => ?_) (by simp [Gh.withNew]) (qvC _) hone))), qaQ hf none vs.length _⟩
  have hj' : j < vs.length := (List.getElem?_eq_some_iff.1 hj).1
  rw [← harr, List.getElem?_take] at hj
  simp only [hj', if_true] at hj
  have e0 : (⟨w.heap.size, 0 + j, none⟩ : Addr) = ⟨w.heap.size, j, none⟩ := by rw [qvF]
  rw [e0]
  simp only [World.cell?, hb]
  simpa using hj
theorem qoV (hd : kp o a) (hR : Rel M g w β st a.tmps) {n : Nat} (hn : get n st.env = .undef) {xs ys : List D} {b off cap sz : Nat} {vs news : List Value} {arr : Array Value} {T : TypeId} {fz : Nat × Nat} (hne : xs ≠ []) (hsz : ∀ x ∈ xs, x.cells.length = sz)
    (hr : RepDL g.pub w (xs.flatMap D.cells) vs) (hc : ∀ j v, vs[j]? = some v → w.cell? ⟨b, off + j, none⟩ = some v)
    (hp : g.pub b = off + vs.length) (hone : ∀ u ∈ vs, u.oneCell' = true) (ho : g.own b = some (.slot n)) (hb : w.heap[b]? = some (.cells arr T fz)) (ha : off + cap * sz ≤ arr.size)
    (hf : ∀ o, off + vs.length ≤ o → o < off + cap * sz → w.frozen? ⟨b, o, none⟩ = false)
    (hsz2 : ∀ x ∈ ys, x.cells.length = sz) (hr2 : RepDL g.pub w (ys.flatMap D.cells) news) (hone2 : ∀ u ∈ news, u.oneCell' = true) (hcap : xs.length + ys.length ≤ cap) :
    ∃ g', Rel M g' (w.setRow b (arr.toList.take (off + vs.length) ++ news ++ arr.toList.drop (off + vs.length + news.length)).toArray) β (put o.dst (.osl (xs ++ ys)) st)
      (a.put o.dst (.slice (some ⟨b, off, none⟩) (xs.length + ys.length) cap)).tmps ∧
      Evo g w g' (w.setRow b (arr.toList.take (off + vs.length) ++ news ++ arr.toList.drop (off + vs.length + news.length)).toArray) := by
  have hlv : vs.length = xs.length * sz := by rw [← hr.length, z8 xs _ hsz]
  have hln : news.length = ys.length * sz := by rw [← hr2.length, z8 ys _ hsz2]
  have hmul : xs.length * sz + ys.length * sz ≤ cap * sz := by rw [← Nat.add_mul]; exact Nat.mul_le_mul_right _ hcap
  generalize hw' : w.setRow b (arr.toList.take (off + vs.length) ++ news ++ arr.toList.drop (off + vs.length + news.length)).toArray = w'
  have hlt : b < w.heap.size := (Array.getElem?_eq_some_iff.1 hb).1
  have hb' : w'.heap[b]? = some (.cells (arr.toList.take (off + vs.length) ++ news ++ arr.toList.drop (off + vs.length + news.length)).toArray T fz) := by
    rw [← hw']; exact Go.setRow_heap w b arr _ T fz hb
  have hoth : ∀ x, x ≠ b → w'.heap[x]? = w.heap[x]? := fun x hx => by rw [← hw']; exact Go.setRow_other w b x _ hx
  have hsize : w'.heap.size = w.heap.size := by rw [← hw']; simp
  have t1 : (arr.toList.take (off + vs.length)).length = off + vs.length := by simp; omega
  have hcellold : ∀ o, o < off + vs.length → w'.cell? ⟨b, o, none⟩ = w.cell? ⟨b, o, none⟩ := fun o hlt2 => by
    simp only [World.cell?, hb', hb, Option.isSome_none, qvA, if_false, List.getElem?_toArray]
    rw [List.append_assoc, List.getElem?_append_left (by rw [t1]; exact hlt2), List.getElem?_take, if_pos hlt2]
    simp
  have hcellnew : ∀ j v, news[j]? = some v → w'.cell? ⟨b, off + vs.length + j, none⟩ = some v := fun j v hj => by
    simp only [World.cell?, hb', Option.isSome_none, qvA, if_false, List.getElem?_toArray]
    rw [List.append_assoc, List.getElem?_append_right (by rw [t1]; omega), t1, Nat.add_sub_cancel_left, List.getElem?_append_left (List.getElem?_eq_some_iff.1 hj).1]
    exact hj
  -- the ghost: what is published grows; whose it is changes
  let G : Option Loc → Gh := fun ℓ => { g with own := fun x => if x = b then ℓ else g.own x, pub := fun x => if x = b then off + vs.length + news.length else g.pub x }
  have hgr : ∀ ℓ, Grow g w (G ℓ) w' := fun ℓ => ⟨by rw [hsize]; exact qvC _, fun x => by
      show g.pub x ≤ (if x = b then off + vs.length + news.length else g.pub x)
      split
      · rename_i e; subst e; omega
      · exact qvC _, fun x o hx => by
      by_cases e : x = b
      · subst e; rw [hp] at hx; exact hcellold o hx
      · exact yk (hoth x e) o⟩
  have hkp : ∀ ℓ ℓ', ℓ' ≠ .slot n → Kept g w (G ℓ) w' ℓ' := fun ℓ ℓ' hne' => ⟨fun x hx => by
    have e : x ≠ b := fun e => by subst e; rw [ho] at hx; exact hne' (Option.some.inj hx).symm
    exact ⟨by simp [G, e, hx], hoth x e, by simp [G, e]⟩⟩
  have hev : ∀ ℓ, Evo g w (G ℓ) w' := fun ℓ => ⟨hgr ℓ, qvC _, fun _ _ => rfl, fun x _ hx => by
    have e : x ≠ b := fun e => by
      subst e; rw [ho] at hx
      rcases hx with h | h
      · cases h
      · cases h
    exact ⟨by simp [G, e], hoth x e, by simp [G, e]⟩, by rw [← hw']; exact ⟨rfl, rfl⟩⟩
  have hfr : ∀ ℓ, Fresh (G ℓ) w' := fun ℓ => ⟨fun x hx => by
    have e : x ≠ b := by rw [hsize] at hx; omega
    have := hR.fr.f x (by rw [← hsize]; exact hx)
    simpa [G, e] using this⟩
  have hrel : ∀ ℓ, Rel M (G ℓ) w' β st a.tmps := fun ℓ => hR.others hn (hgr ℓ) rfl rfl (hkp ℓ) (hfr ℓ)
  rw [yb (by intro cs e; cases e), Act.put_tmps]
  cases hdst : o.dst with
  | none => exact ⟨G none, hrel none, hev none⟩
  | some d =>
    refine ⟨G (some (.slot d)), (hrel _).lay (hd d hdst) (.osl ?_), hev _⟩
    have := OwnSl.mk (g := G (some (.slot d))) (w := w') (ℓ := .slot d) (xs ++ ys) b off cap sz (vs ++ news) _ T fz (by simp [hne]) (fun x hx => by
        rcases List.mem_append.1 hx with h | h
        · exact hsz x h
        · exact hsz2 x h) (by rw [List.flatMap_append]; exact (hr.append hr2).mono (hgr (some (.slot d))).pub (hgr (some (.slot d))).cell) (fun j v hj => by
        rw [List.getElem?_append] at hj
        split at hj
        · rename_i hlt2
          rw [hcellold _ (by omega)]; exact hc j v hj
        · rename_i hge
          have := hcellnew _ v hj
          rwa [show off + vs.length + (j - vs.length) = off + j by omega] at this) (by simp [G]; omega) (by simpa using hcap) (fun u hu => by
        rcases List.mem_append.1 hu with h | h
        · exact hone u h
        · exact hone2 u h) (by simp [G]) hb' (by simp; omega) (fun o h1 h2 => by
        rw [qeb hb', ← qeb hb]; exact hf o (by simp at h1; omega) h2)
    simpa using this
end
end W

/-
  Slices that grow.
-/
set_option linter.unusedSimpArgs false
set_option linter.unusedVariables false
namespace W
open Go (World Value Addr IntKind Program TypeId FuncId Operand Act Oper Next Result Sem BinOp UnOp)
section
variable {P : Program} {M : Maps} {g : Gh} {w : World} {β : Nat → Nat} {st : St} {o : Oper} {a : Act}
structure Src (P : Program) (g : Gh) (w : World) (size : Nat) (c : Value) (ys : List D) (news : List Value) : Prop where
  len : ∀ w', (Go.Builtin.lenOf c).run P w' = .ok ys.length w'
  cells : ∀ w', SameMem w w' → (Go.Builtin.firstCells size ys.length c).run P w' = .ok news.toArray w'
  rep : RepDL g.pub w (ys.flatMap D.cells) news
  one : ∀ u ∈ news, u.oneCell' = true
  sz : ∀ x ∈ ys, x.cells.length = size
theorem qk1 (size : Nat) : Src P g w size (.slice none 0 0) [] [] :=
  ⟨fun _ => rfl, fun _ _ => rfl, .nil, by simp, by simp⟩
theorem qfB {ys : List D} {c : Value} {size : Nat} (h : RepD g.pub w (.sl ys) c) (hh : zj size ys = true) : ∃ news, Src P g w size c ys news := by
  cases h with
  | sl0 ad cap => exact ⟨[], fun _ => rfl, fun w' hw => by simp [Go.Builtin.firstCells, Go.loadCells, Go.loadCellsFrom], .nil, by simp, by simp⟩
  | sl _ b off cap sz vs hne hs hrep hcell hpub hcap hone =>
    have hsz := qdM hh hne hs
    subst hsz
    refine ⟨vs, fun _ => rfl, fun w' hw => ?_, hrep, hone, hs⟩
    refine Go.run_firstCells_some (P := P) w' sz ys.length _ _ _ vs (by rw [← hrep.length, z8 ys _ hs]) (fun j v hj => ?_)
    rw [jp]
    have := hcell j v hj
    simpa only [World.cell?, hw.heap] using this
theorem qfe {z : ByteArray} : Src P g w 1 (.string z) ((z.data.toList.map (·.toNat)).map fun n : Nat => D.i .u8 n) (z.data.toList.map fun b => Value.int .u8 b.toNat) := by
  have hn : ((z.data.toList.map (·.toNat)).map fun n : Nat => D.i .u8 n).length = z.size := by simp
  refine ⟨fun w' => ?_, fun w' hw => ?_, ?_, fun u hu => ?_, fun x hx => ?_⟩
  · rw [hn]; rfl
  · rw [hn]
    simp only [Go.Builtin.firstCells, Sem.run_pure]
    congr 1
    have : z.extract 0 z.size = z := by
      apply ByteArray.ext
      rw [ByteArray.data_extract]
      exact Array.extract_size
    rw [this]
    apply Array.ext'
    simp
  · generalize z.data.toList = l
    induction l with
    | nil => exact .nil
    | cons b l ih => exact .cons _ _ _ _ (.i _ _) ih
  · simp only [List.mem_map] at hu
    obtain ⟨b, _, rfl⟩ := hu
    rfl
  · simp only [List.mem_map] at hx
    obtain ⟨b, _, rfl⟩ := hx
    rfl
def qim (P : Program) (u : TypeId) : Prop := P.underlying u = some .string ∨ ∃ e, P.underlying u = some (.slice e)
theorem qeA {t u ty e : TypeId} {i : Go.TypeInfo} (ht : P.underlying t = some (.slice e)) (hu : qim P u) (hi : P.info? e = some i) {c : Value} {ys : List D} {news : List Value} (hs : Src P g w i.size c ys news)
    {b off sLen sCap : Nat} (hroom : sLen + ys.length ≤ sCap) {w' : World} (hst : (Go.storeCells ⟨b, off + sLen * i.size, none⟩ news).run P w = .ok () w') :
    (Go.Builtin.append_ #[t, u] ty #[.slice (some ⟨b, off, none⟩) sLen sCap, c]).run P w = .ok (.slice (some ⟨b, off, none⟩) (sLen + ys.length) sCap) w' := by
  have h1 := hs.len w
  have h2 := hs.cells w (SameMem.refl w)
  rcases hu with hu | ⟨e', hu⟩ <;>
  simp [Go.Builtin.append_, Go.run_underlying ht, Go.run_underlying hu, Go.sizeOf, Go.typeInfo, hi, h1, h2, hroom, jp, hst]
theorem qfU {t u ty e : TypeId} {i : Go.TypeInfo} (ht : P.underlying t = some (.slice e)) (hu : qim P u) (hi : P.info? e = some i) {c : Value} (hs : Src P g w i.size c [] [])
    {ad : Addr} {n : Nat} : (Go.Builtin.append_ #[t, u] ty #[.slice (some ad) n n, c]).run P w = .ok (.slice (some ad) n n) w := by
  have h1 := hs.len w
  have h2 := hs.cells w (SameMem.refl w)
  have hst : ∀ x, (Go.storeCells x []).run P w = .ok () w := fun x => rfl
  simp only [qvQ] at h1 h2
  rcases hu with hu | ⟨e', hu⟩ <;>
  simp [Go.Builtin.append_, Go.run_underlying ht, Go.run_underlying hu, Go.sizeOf, Go.typeInfo, hi, h1, h2, hst]
theorem qg0 {t u ty e : TypeId} {i : Go.TypeInfo} (ht : P.underlying t = some (.slice e)) (hu : qim P u) (hi : P.info? e = some i) {c : Value} {news : List Value} (hs : Src P g w i.size c [] news) :
    (Go.Builtin.append_ #[t, u] ty #[.slice none 0 0, c]).run P w = .ok (.slice none 0 0) w := by
  have h1 := hs.len w
  have h2 := hs.cells w (SameMem.refl w)
  simp only [qvQ] at h1 h2
  rcases hu with hu | ⟨e', hu⟩ <;>
  simp [Go.Builtin.append_, Go.run_underlying ht, Go.run_underlying hu, Go.sizeOf, Go.typeInfo, hi, h1, h2]
theorem qaN {t u ty e : TypeId} {i : Go.TypeInfo} {z : Value} (ht : P.underlying t = some (.slice e)) (hu : qim P u) (hi : P.info? e = some i) (hz : i.zero = some z) {c : Value} {ys : List D} {news : List Value} (hs : Src P g w i.size c ys news)
    {base : Option Addr} {sLen sCap : Nat} {olds : List Value} (hold : (Go.Builtin.firstCells i.size sLen (.slice base sLen sCap)).run P w.drew = .ok olds.toArray w.drew)
    (hg : sCap < sLen + ys.length) (hroomy : roomy i.bytes (sLen + ys.length) = true) :
    (Go.Builtin.append_ #[t, u] ty #[.slice base sLen sCap, c]).run P w =
      .ok (.slice (some ⟨w.heap.size, 0, none⟩) (sLen + ys.length) (Go.grownCap w (sLen + ys.length) sCap e))
        (w.drew.alloc (.cells (olds.toArray ++ news.toArray ++ Go.Builtin.zeroCells z.cells (Go.grownCap w (sLen + ys.length) sCap e - (sLen + ys.length))) e)) := by
  simp only [roomy, qvB] at hroomy
  have hb1 := Nat.le_of_ble_eq_true hroomy.1
  have hb2 := Nat.le_of_ble_eq_true hroomy.2
  have h1 := hs.len w
  have h2 := hs.cells w.drew ⟨rfl, rfl, rfl⟩
  have hn : ¬ (sLen + ys.length ≤ sCap) := by omega
  have h63' : ¬ (9223372036854775807 < ((sLen : Int) + (ys.length : Int))) := by omega
  have hfit := Go.growslice_fits hg hb1
  have h48' : ¬ (281474976710656 < Go.Builtin.nextslicecap (sLen + ys.length) sCap * i.bytes) := by omega
  rcases hu with hu | ⟨e', hu⟩ <;>
  · simp [Go.Builtin.append_, Go.run_underlying ht, Go.run_underlying hu, Go.sizeOf, Go.typeInfo, Go.zeroValue, hi, hz, h1, hn, h63', h48', Go.Question.forced, h2, hold, Go.newRow, Go.grownCap]
    try (congr 2; apply Array.ext'; simp [List.append_assoc])
theorem jW {c : Go.Call} {args : List Operand} {ats : List TypeId} {x y : Operand} {s u : TypeId} (ho : o.op = .call c) (hcal : c.callee = .builtin .append) (hargs : c.args.toList = [x, y]) (hats : c.argTypes.toList = [s, u]) {v : Value} {w' : World}
    (h : ∀ ty, (Go.Builtin.append_ #[s, u] ty #[a.eval x, a.eval y]).run P w = .ok v w') : (Go.execOp a.eval o).run P w = .ok (.value v) w' := by
  obtain ⟨cal, cargs, cats⟩ := c
  simp only at hcal hargs hats
  subst hcal
  have e1 : cargs = #[x, y] := Array.ext' hargs
  have e2 : cats = #[s, u] := Array.ext' hats
  subst e1; subst e2
  simp only [Go.execOp, ho, Go.resolve, Go.invoke, Go.builtin, Sem.run_bind, Sem.run_pure, Result.andThen_ok]
  simp [h]
theorem qj6 {x' y' : O} {f : Nat → Bool} {args : List Operand} (h : opnds M f 0 args = some [x', y']) : ∃ x y, args = [x, y] ∧ opnd M (f 0) x = some x' ∧ opnd M (f 1) y = some y' := by
  cases args with
  | nil => simp [opnds] at h
  | cons x l =>
    simp only [opnds] at h
    split at h
    · rename_i z r hz hr
      simp only [Option.some.injEq, List.cons.injEq] at h
      obtain ⟨rfl, rfl⟩ := h
      cases l with
      | nil => simp [opnds] at hr
      | cons y l =>
        simp only [opnds] at hr
        split at hr
        · rename_i z2 r2 hz2 hr2
          simp only [Option.some.injEq, List.cons.injEq] at hr
          obtain ⟨rfl, rfl⟩ := hr
          cases l with
          | nil => exact ⟨x, y, rfl, hz, hz2⟩
          | cons q l =>
            simp only [opnds] at hr2
            split at hr2 <;> simp at hr2
        · cases hr
    · cases h
theorem qcy (w : World) {z : Value} {i : Go.TypeInfo} (hzs : z.cells.size = i.size) (need old : Nat) (e : TypeId) {all : List Value} (hl : all.length = need * i.size) :
    Go.grownCap w need old e * i.size ≤ (all.toArray ++ Go.Builtin.zeroCells z.cells (Go.grownCap w need old e - need)).size := by
  have hge := Go.grownCap_ge w need old e
  simp only [Array.size_append, List.size_toArray, Go.size_zeroCells, hzs, hl, ← Nat.add_mul]
  exact Nat.mul_le_mul_right _ (by omega)
theorem qfx (n : Nat) : ∀ j, j < n → (decide (((0, 0) : Nat × Nat).1 ≤ j) && decide (j < ((0, 0) : Nat × Nat).2)) = false := fun j _ => by simp
def qkt (ys : List D) : V := match ys with | [] => .d .nil | _ => .osl ys
theorem qkC (hd : kp o a) (hR : Rel M g w β st a.tmps) {t u e : TypeId} {i : Go.TypeInfo} {z : Value} (ht : P.underlying t = some (.slice e)) (hu : qim P u) (hi : P.info? e = some i) (hz : i.zero = some z) (hzs : z.cells.size = i.size)
    {x y : Operand} {c : Go.Call} (ho : o.op = .call c) (hcal : c.callee = .builtin .append) (hargs : c.args.toList = [x, y]) (hats : c.argTypes.toList = [t, u])
    {ys : List D} {news : List Value} (hs : Src P g w i.size (a.eval y) ys news) (hx : a.eval x = .slice none 0 0) (hroomy : roomy i.bytes ys.length = true) {r : Or}
    (hr : ok (qkt ys) st = some r) : Left1 P M g w o a r := by
  cases hys : ys with
  | nil =>
    subst hys
    exact qt hd hR (.s (.d _ _ .nil)) (jW (args := []) (ats := []) ho hcal hargs hats (fun ty => by rw [hx]; exact qg0 ht hu hi hs)) hr
  | cons y0 l =>
    have hne : ys ≠ [] := by rw [hys]; simp
    have e1 : qkt ys = qnk ys := by rw [hys]; rfl
    rw [e1] at hr
    simp only [ok, Option.some.injEq] at hr
    subst hr
    have hpos : 0 < ys.length := by rw [hys]; simp
    have hrun := qaN (ty := 0) ht hu hi hz hs (base := none) (sLen := 0) (sCap := 0) (olds := []) rfl (by omega) (by rw [qvF]; exact hroomy)
    simp only [qvF, List.append_nil, Array.empty_append] at hrun
    have hsm : SameMem w w.drew := ⟨rfl, rfl, rfl⟩
    have hR' := hR.sameMem hsm
    have hln : news.length = ys.length * i.size := by rw [← hs.rep.length, z8 ys _ hs.sz]
    obtain ⟨g', h1, h2⟩ := qg6 (T := e) (fz := (0, 0)) (arr := news.toArray ++ Go.Builtin.zeroCells z.cells (Go.grownCap w ys.length 0 e - ys.length)) hd hR' hs.sz (hs.rep.mono (hsm.grow g).pub (hsm.grow g).cell)
      (by simp) (Go.grownCap_ge w ys.length 0 e) (qcy w hzs _ _ _ hln) hs.one (qfx _)
    refine ⟨_, _, g', β, .value (jW (args := []) (ats := []) ho hcal hargs hats (fun ty => ?_)), h1, (hsm.evo g).trans h2⟩
    rw [hx]
    have hrun' := qaN (ty := ty) ht hu hi hz hs (base := none) (sLen := 0) (sCap := 0) (olds := []) rfl (by omega) (by rw [qvF]; exact hroomy)
    simpa using hrun'
theorem qpK (hd : kp o a) (hR1 : Rel M g w β st a.tmps) {t u e : TypeId} {i : Go.TypeInfo} {z : Value} (ht : P.underlying t = some (.slice e)) (hu : qim P u) (hi : P.info? e = some i)
    {x y : Operand} {c : Go.Call} (ho : o.op = .call c) (hcal : c.callee = .builtin .append) (hargs : c.args.toList = [x, y]) (hats : c.argTypes.toList = [t, u])
    (hs : Src P g w i.size (a.eval y) [] []) {xs : List D} {ad : Addr} (hxe : a.eval x = .slice (some ad) xs.length xs.length) (h : RepD g.pub w (.sl xs) (.slice (some ad) xs.length xs.length)) :
    Left1 P M g w o a ⟨false, true, .osl xs, st⟩ := by
  refine ⟨_, w, g, β, .value (jW (args := []) (ats := []) ho hcal hargs hats (fun ty => ?_)), hR1.putFull hd (fun ℓ => .full xs ad h), Evo.refl g w⟩
  rw [hxe]
  exact qfU ht hu hi hs
theorem qpV (hd : kp o a) (hR1 : Rel M g w β st a.tmps) {t u e : TypeId} {i : Go.TypeInfo} {z : Value} (ht : P.underlying t = some (.slice e)) (hu : qim P u) (hi : P.info? e = some i) (hz : i.zero = some z) (hzs : z.cells.size = i.size)
    {x y : Operand} {c : Go.Call} (ho : o.op = .call c) (hcal : c.callee = .builtin .append) (hargs : c.args.toList = [x, y]) (hats : c.argTypes.toList = [t, u])
    {ys : List D} {news : List Value} (hs : Src P g w i.size (a.eval y) ys news) (hypos : 0 < ys.length) {xs : List D} {ad : Addr} (hxe : a.eval x = .slice (some ad) xs.length xs.length) (h : RepD g.pub w (.sl xs) (.slice (some ad) xs.length xs.length))
    (hh : zj i.size xs = true) (hroomy : roomy i.bytes (xs.length + ys.length) = true) :
    Left1 P M g w o a ⟨false, true, .osl (xs ++ ys), st⟩ := by
  have hsm : SameMem w w.drew := ⟨rfl, rfl, rfl⟩
  have hR' := hR1.sameMem hsm
  have hlen : (xs ++ ys).length = xs.length + ys.length := by simp
  obtain ⟨vs, hvsz, hrep, hlv, hone, hold⟩ : ∃ vs : List Value, (∀ x ∈ xs, x.cells.length = i.size) ∧ RepDL g.pub w (xs.flatMap D.cells) vs ∧ vs.length = xs.length * i.size ∧ (∀ u ∈ vs, u.oneCell' = true) ∧
      ∀ w', SameMem w w' → (Go.Builtin.firstCells i.size xs.length (.slice (some ad) xs.length xs.length)).run P w' = .ok vs.toArray w' := by
    cases h with
    | sl0 =>
      refine ⟨[], fun x hx => by simp at hx, .nil, by simp, fun u hu => by simp at hu, fun w' hw => ?_⟩
      exact Go.run_firstCells_some (P := P) w' i.size 0 _ _ _ [] (by simp) (fun j v hj => by simp at hj)
    | sl _ b off cap sz vs hne hsz hrep hc hp hcap hone =>
      have hsz' := qdM hh hne hsz
      subst hsz'
      have hlv : vs.length = xs.length * i.size := by rw [← hrep.length, z8 xs _ hsz]
      exact ⟨vs, hsz, hrep, hlv, hone, fun w' hw => Go.run_firstCells_some (P := P) w' i.size xs.length _ _ _ vs hlv (fun j v hj => by
        rw [jp]
        have := hc j v hj
        simpa only [World.cell?, hw.heap] using this)⟩
  have hln : news.length = ys.length * i.size := by rw [← hs.rep.length, z8 ys _ hs.sz]
  have hlall : (vs ++ news).length = (xs.length + ys.length) * i.size := by rw [List.length_append, hlv, hln, Nat.add_mul]
  have hgc := qcy w hzs (xs.length + ys.length) xs.length e hlall
  obtain ⟨g', h1, h2⟩ := qg6 (xs := xs ++ ys) (sz := i.size) (vs := vs ++ news) (T := e) (fz := (0, 0)) (arr := vs.toArray ++ news.toArray ++ Go.Builtin.zeroCells z.cells (Go.grownCap w (xs.length + ys.length) xs.length e - (xs.length + ys.length)))
    (cap := Go.grownCap w (xs.length + ys.length) xs.length e) hd hR' (fun q hq => by
      rcases List.mem_append.1 hq with h | h
      · exact hvsz q h
      · exact hs.sz q h) (by rw [List.flatMap_append]; exact (hrep.append hs.rep).mono (hsm.grow g).pub (hsm.grow g).cell)
    (by simp only [Array.toList_append]; exact List.take_left) (by rw [hlen]; exact Go.grownCap_ge w _ xs.length e) (by simpa using hgc) (fun q hq => by
      rcases List.mem_append.1 hq with h | h
      · exact hone q h
      · exact hs.one q h) (qfx _)
  have e2 : qnk (xs ++ ys) = .osl (xs ++ ys) := by
    cases hxy : xs ++ ys with
    | nil => simp at hxy; rw [hxy.2] at hypos; simp at hypos
    | cons q l => rfl
  rw [e2, hlen] at h1
  refine ⟨_, _, g', β, .value (jW (args := []) (ats := []) ho hcal hargs hats (fun ty => ?_)), h1, (hsm.evo g).trans h2⟩
  rw [hxe]
  exact qaN ht hu hi hz hs (hold _ hsm) (by omega) hroomy
theorem qmN (hd : kp o a) (hR1 : Rel M g w β st a.tmps) {t u e : TypeId} {i : Go.TypeInfo} {z : Value} (ht : P.underlying t = some (.slice e)) (hu : qim P u) (hi : P.info? e = some i) (hz : i.zero = some z) (hzs : z.cells.size = i.size)
    {x y : Operand} {c : Go.Call} (ho : o.op = .call c) (hcal : c.callee = .builtin .append) (hargs : c.args.toList = [x, y]) (hats : c.argTypes.toList = [t, u])
    {ys : List D} {news : List Value} (hs : Src P g w i.size (a.eval y) ys news) {xs : List D} {ad : Addr} (hxe : a.eval x = .slice (some ad) xs.length xs.length) (h : RepD g.pub w (.sl xs) (.slice (some ad) xs.length xs.length))
    (hh : zj i.size xs = true) (hroomy : roomy i.bytes (xs.length + ys.length) = true) :
    Left1 P M g w o a ⟨false, true, .osl (xs ++ ys), st⟩ := by
  cases ys with
  | nil =>
    have hnews : news = [] := by
      have := hs.rep.length
      simp at this
      exact List.eq_nil_of_length_eq_zero this.symm
    subst hnews
    rw [List.append_nil]
    exact qpK (z := z) hd hR1 ht hu hi ho hcal hargs hats hs hxe h
  | cons y0 ys => exact qpV hd hR1 ht hu hi hz hzs ho hcal hargs hats hs (by simp) hxe h hh hroomy
theorem qn2 (hd : kp o a) (hR : Rel M g w β st a.tmps) {t u e : TypeId} {i : Go.TypeInfo} {z : Value} (ht : P.underlying t = some (.slice e)) (hu : qim P u) (hi : P.info? e = some i) (hz : i.zero = some z) (hzs : z.cells.size = i.size)
    {x y : Operand} {c : Go.Call} (ho : o.op = .call c) (hcal : c.callee = .builtin .append) (hargs : c.args.toList = [x, y]) (hats : c.argTypes.toList = [t, u])
    {ys : List D} {news : List Value} (hs : Src P g w i.size (a.eval y) ys news) {n : Nat} {xs : List D} (hx : OwnSl g w (.slot n) xs (a.eval x)) (hh : zj i.size xs = true) (hroomy : roomy i.bytes (xs.length + ys.length) = true) {r : Or}
    (hr : ok (.osl (xs ++ ys)) { st with env := (n, .undef) :: st.env } = some r) : Left1 P M g w o a r := by
  simp only [ok, Option.some.injEq] at hr
  subst hr
  generalize hxe : a.eval x = xc at hx
  have hR1 := hR.drop n
  cases hx with
  | full ad h =>
    exact qmN hd hR1 ht hu hi hz hzs ho hcal hargs hats hs hxe h hh hroomy
  | mk b off cap sz vs arr T fz hne hsz hrep hc hp hcap hone ho' hb ha hf =>
    have hsz' := qdM hh hne hsz
    subst hsz'
    have hlv : vs.length = xs.length * i.size := by rw [← hrep.length, z8 xs _ hsz]
    have hln : news.length = ys.length * i.size := by rw [← hs.rep.length, z8 ys _ hs.sz]
    by_cases hroom : xs.length + ys.length ≤ cap
    · obtain ⟨g', h1, h2⟩ := qoV hd hR1 (n := n) (by simp [kD]) hne hsz hrep hc hp hone ho' hb ha hf hs.sz hs.rep hs.one hroom
      have hmul : xs.length * i.size + ys.length * i.size ≤ cap * i.size := by rw [← Nat.add_mul]; exact Nat.mul_le_mul_right _ hroom
      have hst := yC P b (off + xs.length * i.size) T fz news 0 arr w hb (fun j h1 h2 => by rw [← qeb hb]; exact hf j (by omega) (by omega)) (by omega) hs.one
      simp only [Nat.add_zero] at hst
      rw [← hlv] at hst
      refine ⟨_, _, g', β, .value (jW (args := []) (ats := []) ho hcal hargs hats (fun ty => ?_)), h1, h2⟩
      rw [hxe]
      exact qeA ht hu hi hs hroom (by rw [← hlv]; exact hst)
    · have hold : ∀ w', SameMem w w' → (Go.Builtin.firstCells i.size xs.length (.slice (some ⟨b, off, none⟩) xs.length cap)).run P w' = .ok vs.toArray w' := fun w' hw =>
        Go.run_firstCells_some (P := P) w' i.size xs.length _ _ _ vs hlv (fun j v hj => by
          rw [jp]
          have := hc j v hj
          simpa only [World.cell?, hw.heap] using this)
      have hsm : SameMem w w.drew := ⟨rfl, rfl, rfl⟩
      have hR' := hR1.sameMem hsm
      have hlen : (xs ++ ys).length = xs.length + ys.length := by simp
      have hlall : (vs ++ news).length = (xs.length + ys.length) * i.size := by rw [List.length_append, hlv, hln, Nat.add_mul]
      have hgc := qcy w hzs (xs.length + ys.length) cap e hlall
      obtain ⟨g', h1, h2⟩ := qg6 (xs := xs ++ ys) (sz := i.size) (vs := vs ++ news) (T := e) (fz := (0, 0)) (arr := vs.toArray ++ news.toArray ++ Go.Builtin.zeroCells z.cells (Go.grownCap w (xs.length + ys.length) cap e - (xs.length + ys.length)))
        (cap := Go.grownCap w (xs.length + ys.length) cap e) hd hR' (fun q hq => by
          rcases List.mem_append.1 hq with h | h
          · exact hsz q h
          · exact hs.sz q h) (by rw [List.flatMap_append]; exact (hrep.append hs.rep).mono (hsm.grow g).pub (hsm.grow g).cell)
        (by simp only [Array.toList_append]; exact List.take_left) (by rw [hlen]; exact Go.grownCap_ge w _ cap e) (by simpa using hgc) (fun q hq => by
          rcases List.mem_append.1 hq with h | h
          · exact hone q h
          · exact hs.one q h) (qfx _)
      have e2 : qnk (xs ++ ys) = .osl (xs ++ ys) := by
        cases xs with
        | nil => exact absurd rfl hne
        | cons q l => rfl
      rw [e2, hlen] at h1
      refine ⟨_, _, g', β, .value (jW (args := []) (ats := []) ho hcal hargs hats (fun ty => ?_)), h1, (hsm.evo g).trans h2⟩
      rw [hxe]
      exact qaN ht hu hi hz hs (hold _ hsm) (by omega) hroomy
end
end W

/-
  'append'; values built of parts; slices built of parts; texts and their bytes.
-/
set_option linter.unusedSimpArgs false
set_option linter.unusedVariables false
namespace W
open Go (World Value Addr IntKind Program TypeId FuncId Operand Act Oper Next Result Sem BinOp UnOp)
section
variable {P : Program} {M : Maps} {g : Gh} {w : World} {β : Nat → Nat} {st : St} {o : Oper} {a : Act}
theorem qjt (hd : kp o a) (hR : Rel M g w β st a.tmps) {c : Go.Call} (hcal : c.callee = .builtin .append) {t u e : TypeId} (hats : c.argTypes.toList = [t, u]) (ht : P.underlying t = some (.slice e)) (hu : qim P u)
    {i : Go.TypeInfo} (hi : P.info? e = some i) {zd : D} (hz : yI P e = some zd) (hzl : zd.cells.length = i.size) {m : Bool} {x' y' : O} (hx : opnds M (fun k => k == 0 && m) 0 c.args.toList = some [x', y'])
    (ho : o.op = .call c) {r : Or} (hr : qbH i.size i.bytes x' y' st = some r) : Left1 P M g w o a r := by
  obtain ⟨x, y, hargs, hx1, hy1⟩ := qj6 hx
  obtain ⟨i2, z, hi2, hzz, hzd⟩ := j9 hz
  rw [hi] at hi2
  cases hi2
  have hzs : z.cells.size = i.size := by
    have := (qau g.pub w z zd hzd).cells.length
    rw [hzl] at this
    simpa using this.symm
  have hX := qfv hR hx1
  have hY : RepV M g w β (rd st.env y') (a.eval y) := kr hR (by simpa using hy1)
  unfold qbH at hr
  split at hr
  · rename_i v hv
    have hone : ∀ {n : Nat} {xs : List D} {c' : Value}, RepV M g w β (.osl xs) c' → False := by
      intro n xs c' h
      cases h with
      | s h => cases h
    unfold yg at hv
    split at hv
    · -- nil, nil
      rename_i hz1 hz2
      rw [hz1] at hX; rw [hz2] at hY
      have hs : Src P g w i.size (a.eval y) [] [] := by
        have := hY.inv_d
        generalize a.eval y = cc at this
        cases this; exact qk1 _
      have hxe : a.eval x = .slice none 0 0 := by
        generalize a.eval x = cc at hX
        cases hX with
        | v h => have := h.inv_d; cases this; rfl
      cases hv
      exact qkC hd (hR.spent x') ht hu hi hzz hzs ho hcal hargs hats hs hxe (by simp [roomy]) hr
    · -- nil, slice
      rename_i ys hz1 hz2
      rw [hz1] at hX; rw [hz2] at hY
      have hxe : a.eval x = .slice none 0 0 := by
        generalize a.eval x = cc at hX
        cases hX with
        | v h => have := h.inv_d; cases this; rfl
      cases hc : (zj i.size ys && roomy i.bytes ys.length) with
      | false => simp [hc] at hv
      | true =>
        simp only [hc, cond_true, Option.some.injEq] at hv
        simp only [qvB] at hc
        obtain ⟨news, hs⟩ := qfB (P := P) hY.inv_d hc.1
        have hv' : qkt ys = v := by rw [← hv]; rfl
        rw [← hv'] at hr
        exact qkC hd (hR.spent x') ht hu hi hzz hzs ho hcal hargs hats hs hxe hc.2 hr
    · -- nil, text
      rename_i ys hz1 hz2
      rw [hz1] at hX; rw [hz2] at hY
      have hxe : a.eval x = .slice none 0 0 := by
        generalize a.eval x = cc at hX
        cases hX with
        | v h => have := h.inv_d; cases this; rfl
      cases hc : (qvG i.size 1 && roomy i.bytes ys.length) with
      | false => simp [hc] at hv
      | true =>
        simp only [hc, cond_true, Option.some.injEq] at hv
        simp only [qvB] at hc
        have h1 := qvJ hc.1
        obtain ⟨zb, e1, f1⟩ := qb8 hY.inv_d
        have hs : Src P g w i.size (a.eval y) ((zb.data.toList.map (·.toNat)).map fun n : Nat => D.i .u8 n) (zb.data.toList.map fun b => Value.int .u8 b.toNat) := by rw [h1, e1]; exact qfe
        rw [f1] at hs
        have hv' : qkt (ys.map fun n : Nat => D.i .u8 n) = v := by rw [← hv]; cases ys <;> rfl
        rw [← hv'] at hr
        exact qkC hd (hR.spent x') ht hu hi hzz hzs ho hcal hargs hats hs hxe (by simpa using hc.2) hr
    · -- no room, slice
      rename_i xs ys hz1 hz2
      rw [hz1] at hX; rw [hz2] at hY
      cases hc : (zj i.size xs && zj i.size ys && roomy i.bytes (xs.length + ys.length)) with
      | false => simp [hc] at hv
      | true =>
        simp only [hc, cond_true, Option.some.injEq] at hv
        simp only [qvB] at hc
        obtain ⟨news, hs⟩ := qfB (P := P) hY.inv_d hc.1.2
        subst hv
        simp only [ok, Option.some.injEq] at hr
        subst hr
        have hxe : ∃ ad, a.eval x = .slice (some ad) xs.length xs.length ∧ RepD g.pub w (.sl xs) (.slice (some ad) xs.length xs.length) := by
          generalize a.eval x = cc at hX
          cases hX with
          | v h => cases h with
            | s h => cases h with
              | fsl _ ad h => exact ⟨ad, rfl, h⟩
        obtain ⟨ad, hxe, h⟩ := hxe
        exact qmN hd (hR.spent x') ht hu hi hzz hzs ho hcal hargs hats hs hxe h hc.1.1 hc.2
    · -- own, nil
      rename_i xs hz1 hz2
      rw [hz1] at hX; rw [hz2] at hY
      simp only [Option.some.injEq] at hv
      subst hv
      have hs : Src P g w i.size (a.eval y) [] [] := by
        have := hY.inv_d
        generalize a.eval y = cc at this
        cases this; exact qk1 _
      cases hX with
      | v h => exact absurd h (fun h => hone (n := 0) h)
      | own h =>
        rename_i n
        simp only [ok, Option.some.injEq] at hr
        subst hr
        obtain ⟨g', h1, h2⟩ := (hR.drop n).putOwn hd (by simp [kD]) h
        refine ⟨a.eval x, w, g', β, .value (jW (args := []) (ats := []) ho hcal hargs hats (fun ty => ?_)), h1, h2⟩
        cases hxe : a.eval x with
        | slice base n' cap =>
          rw [hxe] at h
          cases h with
          | mk b off cap' sz vs arr T fz hne hsz hrep hc hp hcap hone ho' hb ha hf =>
            exact qeA (ys := []) ht hu hi hs (by simpa using hcap) rfl
          | full ad h => exact qfU ht hu hi hs
        | _ => rw [hxe] at h; cases h
    · -- own, slice
      rename_i xs ys hz1 hz2
      rw [hz1] at hX; rw [hz2] at hY
      cases hc : (zj i.size xs && zj i.size ys && roomy i.bytes (xs.length + ys.length)) with
      | false => simp [hc] at hv
      | true =>
        simp only [hc, cond_true, Option.some.injEq] at hv
        simp only [qvB] at hc
        obtain ⟨news, hs⟩ := qfB (P := P) hY.inv_d hc.1.2
        subst hv
        cases hX with
        | v h => exact absurd h (fun h => hone (n := 0) h)
        | own h => exact qn2 hd hR ht hu hi hzz hzs ho hcal hargs hats hs h hc.1.1 hc.2 hr
    · -- own, text
      rename_i xs ys hz1 hz2
      rw [hz1] at hX; rw [hz2] at hY
      cases hc : (zj i.size xs && qvG i.size 1 && roomy i.bytes (xs.length + ys.length)) with
      | false => simp [hc] at hv
      | true =>
        simp only [hc, cond_true, Option.some.injEq] at hv
        simp only [qvB] at hc
        have h1 := qvJ hc.1.2
        obtain ⟨zb, e1, f1⟩ := qb8 hY.inv_d
        have hs : Src P g w i.size (a.eval y) ((zb.data.toList.map (·.toNat)).map fun n : Nat => D.i .u8 n) (zb.data.toList.map fun b => Value.int .u8 b.toNat) := by rw [h1, e1]; exact qfe
        rw [f1] at hs
        subst hv
        cases hX with
        | v h => exact absurd h (fun h => hone (n := 0) h)
        | own h => exact qn2 hd hR ht hu hi hzz hzs ho hcal hargs hats hs h hc.1.1 (by simpa using hc.2) hr
    · cases hv
  · cases hr
end
end W

/-
  Values and slices built of parts; texts and their bytes; rows that are made.
-/
set_option linter.unusedSimpArgs false
set_option linter.unusedVariables false
namespace W
open Go (World Value Addr IntKind Program TypeId FuncId Operand Act Oper Next Result Sem BinOp UnOp)
inductive All2 {α β : Type} (R : α → β → Prop) : List α → List β → Prop
  | nil : All2 R [] []
  | cons {x : α} {y : β} {l : List α} {r : List β} (h : R x y) (hl : All2 R l r) : All2 R (x :: l) (y :: r)
theorem qig (off : Nat) (v : Value) (cs : Array Value) (h : off + v.cells.size ≤ cs.size) :
    (v.cells.zipIdx.foldl (fun cs (x : Value × Nat) => cs.setIfInBounds (off + x.2) x.1) cs).toList = cs.toList.take off ++ v.cells.toList ++ cs.toList.drop (off + v.cells.toList.length) := by
  have e : v.cells.zipIdx.foldl (fun cs (x : Value × Nat) => cs.setIfInBounds (off + x.2) x.1) cs = (v.cells.toList.zipIdx 0).foldl (fun cs (x : Value × Nat) => cs.setIfInBounds (off + x.2) x.1) cs := by
    rw [← Array.foldl_toList, Array.toList_zipIdx]
  rw [e]
  obtain ⟨h1, h2⟩ := Go.Great.foldl_set off v.cells.toList 0 cs
  apply List.ext_getElem?
  intro k
  rw [Array.getElem?_toList, h2 k, List.append_assoc, List.getElem?_append]
  have t1 : (cs.toList.take off).length = off := by simp; omega
  rw [t1]
  split
  · rename_i hin
    rw [if_neg (by omega), List.getElem?_append_left (by omega)]
    simp
  · rename_i hout
    split
    · rename_i hlt
      rw [List.getElem?_take, if_pos hlt]; simp
    · rename_i hge
      by_cases hk : k - off < v.cells.toList.length
      · exfalso
        have : k < cs.size := by simp at hk; omega
        exact hout ⟨by omega, by omega, this⟩
      · rw [List.getElem?_append_right (by omega), List.getElem?_drop]
        have : off + v.cells.toList.length + (k - off - v.cells.toList.length) = k := by omega
        rw [this]; simp
theorem RepSL.take {M : Maps} {g : Gh} {w : World} : ∀ {cs : List V} {vl : List Value} (n : Nat), RepSL M g w cs vl → RepSL M g w (cs.take n) (vl.take n)
  | _, _, 0, _ => .nil
  | _, _, n + 1, .nil => .nil
  | _, _, n + 1, .cons _ _ _ _ hx hl => .cons _ _ _ _ hx (RepSL.take n hl)
theorem RepSL.drop {M : Maps} {g : Gh} {w : World} : ∀ {cs : List V} {vl : List Value} (n : Nat), RepSL M g w cs vl → RepSL M g w (cs.drop n) (vl.drop n)
  | _, _, 0, h => h
  | _, _, n + 1, .nil => .nil
  | _, _, n + 1, .cons _ _ _ _ hx hl => RepSL.drop n hl
section
variable {P : Program} {M : Maps} {g : Gh} {w : World} {β : Nat → Nat} {st : St} {o : Oper} {a : Act}
inductive RepPs (M : Maps) (g : Gh) (w : World) (place : Nat → Option (Nat × Nat)) : List (Nat × Nat × V) → List (Nat × Value) → Prop
  | nil : RepPs M g w place [] []
  | cons (off size i : Nat) (v : V) (c : Value) (l : List (Nat × Nat × V)) (l' : List (Nat × Value)) (hp : place i = some (off, size)) (h : RepSL M g w v.cells c.cells.toList) (hl : RepPs M g w place l l') :
      RepPs M g w place ((off, size, v) :: l) ((i, c) :: l')
theorem qjb {place : Nat → Option (Nat × Nat)} : ∀ {ps : List (Nat × Nat × V)} {ps' : List (Nat × Value)} {cells cs : List V} {arr : Array Value}, RepPs M g w place ps ps' → RepSL M g w cells arr.toList →
    fill cells ps = some cs → ∃ arr', Go.Instr.fill place arr ps' = some arr' ∧ RepSL M g w cs arr'.toList
  | _, _, cells, cs, arr, .nil, hc, h => by
    simp only [fill, Option.some.injEq] at h
    subst h
    exact ⟨arr, rfl, hc⟩
  | _, _, cells, cs, arr, .cons off size i v c l l' hp hv hl, hc, h => by
    simp only [fill] at h
    split at h
    · rename_i hfit
      have hlen := hc.length
      have hlv := hv.length
      have e1 : c.cells.size = size := by rw [← hfit.1]; simpa using hlv.symm
      have e2 : ¬ (c.cells.size ≠ size ∨ off + c.cells.size > arr.size) := by
        simp at hlen
        omega
      have hsp := qig off c arr (by simp at hlen; omega)
      obtain ⟨arr', h1, h2⟩ := qjb (arr := c.cells.zipIdx.foldl (fun cs (x : Value × Nat) => cs.setIfInBounds (off + x.2) x.1) arr) hl (by
        rw [hsp]
        have := ((hc.take off).append hv).append (hc.drop (off + size))
        rwa [show off + size = off + c.cells.toList.length by rw [← hfit.1, hlv]] at this ⊢) h
      refine ⟨arr', ?_, h2⟩
      simp only [Go.Instr.fill, hp]
      rw [if_neg (by simpa using e2)]
      exact h1
    · cases h
theorem qhV (hR : Rel M g w β st a.tmps) {place : Nat → Option (Nat × Nat)} : ∀ {ps : List (Nat × Operand)} {ps' : List (Nat × Nat × O)}, 
    (All2 (fun (p : Nat × Operand) (q : Nat × Nat × O) => place p.1 = some (q.1, q.2.1) ∧ opnd M false p.2 = some q.2.2) ps ps') → qaK (ps'.map fun (o, s, x) => (o, s, rd st.env x)) = true →
    RepPs M g w place (ps'.map fun (o, s, x) => (o, s, rd st.env x)) (ps.map fun (i, x) => (i, a.eval x))
  | _, _, .nil, _ => .nil
  | (i, x) :: ps, (off, s, y) :: ps', .cons h hl, hk => by
    simp only [qvM, qaK, qvB] at hk
    refine .cons off s i _ _ _ _ h.1 ?_ (qhV hR hl hk.2)
    have := kr hR h.2
    generalize rd st.env y = v at this hk
    generalize a.eval x = c at this
    cases this with
    | s hs => exact hs.cells hk.1
    | lp => simp [V.cells, V.ones, V.one, V.ok] at hk
    | cp => simp [V.cells, V.ones, V.one, V.ok] at hk
theorem qe9 (hd : kp o a) (hR : Rel M g w β st a.tmps) {t : TypeId} {ps : Array (Nat × Operand)} (ho : o.op = .build t ps) {zd : D} (hz : yI P t = some zd) {ps' : List (Nat × Nat × O)} {place : Nat → Option (Nat × Nat)}
    (hps : All2 (fun (p : Nat × Operand) (q : Nat × Nat × O) => place p.1 = some (q.1, q.2.1) ∧ opnd M false p.2 = some q.2.2) ps.toList ps')
    (hbuilt : ∀ z vs cells, toD z = some zd → P.info? t = P.info? t → (∃ i, P.info? t = some i ∧ i.zero = some z) → Go.Instr.fill place z.cells vs = some cells → P.built t vs = some cells)
    {r : Or} (hr : qbX zd.cells ps' st = some r) : Left1 P M g w o a r := by
  obtain ⟨i, z, hi, hzz, hzd⟩ := j9 hz
  unfold qbX at hr
  cases hk : qaK (ps'.map fun (o, s, x) => (o, s, rd st.env x)) with
  | false => simp [hk] at hr
  | true =>
    simp only [hk, qvN, cond_false] at hr
    split at hr
    · rename_i cs hcs
      have hrep := (qau g.pub w z zd hzd).cells
      obtain ⟨arr, h1, h2⟩ := qjb (qhV hR hps hk) (RepSL.ofD hrep) hcs
      refine qt hd hR (.s (qfD h2)) ?_ hr
      have hb := hbuilt z _ arr hzd rfl ⟨i, hi, hzz⟩ h1
      have := Go.run_build (P := P) w t (ps.map fun (i, x) => (i, a.eval x)) arr (by simpa using hb)
      simp only [Go.execOp, ho, Sem.run_bind, this, Result.andThen_ok, Sem.run_pure]
    · cases hr
theorem qiu (hd : kp o a) (hR : Rel M g w β st a.tmps) {t : TypeId} {ps : Array (Nat × Operand)} (ho : o.op = .build t ps) {zd : D} (hz : yI P t = some zd) {ps' : List (Nat × Nat × O)} {place : Nat → Option (Nat × Nat)}
    (hps : All2 (fun (p : Nat × Operand) (q : Nat × Nat × O) => place p.1 = some (q.1, q.2.1) ∧ opnd M false p.2 = some q.2.2) ps.toList ps')
    (hbuilt : ∀ z vs cells, toD z = some zd → P.info? t = P.info? t → (∃ i, P.info? t = some i ∧ i.zero = some z) → Go.Instr.fill place z.cells vs = some cells → P.built t vs = some cells)
    {r : Or} (hr : qco zd.cells ps' st = some r) : Left1 P M g w o a r := by
  obtain ⟨i, z, hi, hzz, hzd⟩ := j9 hz
  unfold qco at hr
  cases hk : qaK (ps'.map fun (o, s, x) => (o, s, rd st.env x)) with
  | false => simp [hk] at hr
  | true =>
    simp only [hk, qvN, cond_false] at hr
    split at hr
    · rename_i cs hcs
      have hrep := (qau g.pub w z zd hzd).cells
      obtain ⟨arr, h1, h2⟩ := qjb (qhV hR hps hk) (RepSL.ofD hrep) hcs
      refine qt hd hR (.s (.agg _ _ h2)) ?_ hr
      have hb := hbuilt z _ arr hzd rfl ⟨i, hi, hzz⟩ h1
      have := Go.run_build (P := P) w t (ps.map fun (i, x) => (i, a.eval x)) arr (by simpa using hb)
      simp only [Go.execOp, ho, Sem.run_bind, this, Result.andThen_ok, Sem.run_pure]
    · cases hr
theorem qgi {fs : Array Go.Field} {places : List (Nat × Nat)} (hpl : (fs.toList.mapM fun f => (P.info? f.type).map fun i => (f.offset, i.size)) = some places) : ∀ {ps : List (Nat × Operand)} {ps' : List (Nat × Nat × O)}, qe4 M P fs ps = some ps' →
    All2 (fun (p : Nat × Operand) (q : Nat × Nat × O) => places[p.1]? = some (q.1, q.2.1) ∧ opnd M false p.2 = some q.2.2) ps ps'
  | [], ps', h => by simp only [qe4, Option.some.injEq] at h; subst h; exact .nil
  | (i, x) :: ps, ps', h => by
    simp only [qe4] at h
    split at h
    · rename_i f y r hf hy hr
      split at h
      · rename_i l hl
        simp only [Option.some.injEq] at h
        subst h
        refine .cons ⟨?_, hy⟩ (qgi hpl hr)
        obtain ⟨inf, d, hi, hu, rfl⟩ := y3 hl
        have := Go.mapM_some_get hpl i f (by simpa using hf)
        rw [← this, hi]
        rfl
      · cases h
    · cases h
theorem qi0 {size : Nat} : ∀ {ps : List (Nat × Operand)} {ps' : List (Nat × Nat × O)}, qhw M size ps = some ps' →
    All2 (fun (p : Nat × Operand) (q : Nat × Nat × O) => (some (p.1 * size, size) : Option (Nat × Nat)) = some (q.1, q.2.1) ∧ opnd M false p.2 = some q.2.2) ps ps'
  | [], ps', h => by simp only [qhw, Option.some.injEq] at h; subst h; exact .nil
  | (i, x) :: ps, ps', h => by
    simp only [qhw] at h
    split at h
    · rename_i y r hy hr
      simp only [Option.some.injEq] at h
      subst h
      exact .cons ⟨rfl, hy⟩ (qi0 hr)
    · cases h
theorem qip (hd : kp o a) (hR : Rel M g w β st a.tmps) {t : TypeId} {ps : Array (Nat × Operand)} (ho : o.op = .build t ps) {fs : Array Go.Field} (hu : P.underlying t = some (.struct fs))
    (hpl : (fs.toList.mapM fun f => (P.info? f.type).map fun i => (f.offset, i.size)).isSome = true) {zd : D} (hz : yI P t = some zd) {ps' : List (Nat × Nat × O)} (hps : qe4 M P fs ps.toList = some ps')
    {r : Or} (hr : qbX zd.cells ps' st = some r) : Left1 P M g w o a r := by
  obtain ⟨places, hpl⟩ := Option.isSome_iff_exists.1 hpl
  refine qe9 hd hR ho hz (place := fun i => places[i]?) (qgi hpl hps) (fun z vs cells _ _ hi hf => ?_) hr
  obtain ⟨i, hi, hzz⟩ := hi
  simp only [Go.Program.built, hi, hu, hzz, hpl]
  simpa using hf
theorem qhz (hd : kp o a) (hR : Rel M g w β st a.tmps) {t : TypeId} {ps : Array (Nat × Operand)} (ho : o.op = .build t ps) {fs : Array Go.Field} (hu : P.underlying t = some (.struct fs))
    (hpl : (fs.toList.mapM fun f => (P.info? f.type).map fun i => (f.offset, i.size)).isSome = true) {zd : D} (hz : yI P t = some zd) {ps' : List (Nat × Nat × O)} (hps : qe4 M P fs ps.toList = some ps')
    {r : Or} (hr : qco zd.cells ps' st = some r) : Left1 P M g w o a r := by
  obtain ⟨places, hpl⟩ := Option.isSome_iff_exists.1 hpl
  refine qiu hd hR ho hz (place := fun i => places[i]?) (qgi hpl hps) (fun z vs cells _ _ hi hf => ?_) hr
  obtain ⟨i, hi, hzz⟩ := hi
  simp only [Go.Program.built, hi, hu, hzz, hpl]
  simpa using hf
theorem qiM (hd : kp o a) (hR : Rel M g w β st a.tmps) {t : TypeId} {ps : Array (Nat × Operand)} (ho : o.op = .build t ps) {n : Nat} {e : TypeId} (hu : P.underlying t = some (.array n e))
    {l : L} (hl : lay P e = some l) {zd : D} (hz : yI P t = some zd) {ps' : List (Nat × Nat × O)} (hps : qhw M l.n ps.toList = some ps')
    {r : Or} (hr : qbX zd.cells ps' st = some r) : Left1 P M g w o a r := by
  obtain ⟨inf, d, hie, hue, rfl⟩ := y3 hl
  refine qe9 hd hR ho hz (place := fun i => some (i * inf.size, inf.size)) (qi0 hps) (fun z vs cells _ _ hi hf => ?_) hr
  obtain ⟨i, hi, hzz⟩ := hi
  simp only [Go.Program.built, hi, hu, hzz, hie]
  exact hf
end
end W

