/-
  CodeReads: any bytes are the list that the document reads from them, or are refused: part 4 of what the proof rests on (a value semantics for a part of the language, sound against the model; the walks).
-/
import Derived.Laws.BytesString
import Derived.Laws.Runes
import Derived.OrdersIn
import Derived.RangeFuncLeaves
import Derived.RecoverIn
import Derived.RangeFuncOwn
import Derived.RangeFuncIn
import Derived.Test.YtmflhlbdfhgbnaaDoorW3
/-
  Slices built of parts; texts and their bytes; rows that are made.
-/
set_option linter.unusedSimpArgs false
set_option linter.unusedVariables false
open Bool renaming false_eq_true → qvA, and_eq_true → qvB, cond_eq_ite → qvD, or_true → qvK, and_self → qvL, not_true → qvN, or_self → qvR
open Nat renaming le_refl → qvC, zero_add → qvF, beq → qvG, eq_of_beq_eq_true → qvJ
open Option renaming bind_eq_some_iff → qvE, map_some → qvH, bind_eq_bind → qvI, pure_def → qvO
open List renaming map_cons → qvM, length_cons → qvP, length_nil → qvQ, getElem?_cons_zero → qvS, map_nil → qvT
namespace W
open Go (World Value Addr IntKind Program TypeId FuncId Operand Act Oper Next Result Sem BinOp UnOp)
theorem RepDL.splice {pub : Nat → Nat} {w : World} {l : List D} {vs : List Value} (h : RepDL pub w l vs) {l' : List D} {vs' : List Value} (h' : RepDL pub w l' vs') (off : Nat) :
    RepDL pub w (l.take off ++ l' ++ l.drop (off + l'.length)) (vs.take off ++ vs' ++ vs.drop (off + vs'.length)) := by
  rw [h'.length]
  exact ((h.take off).append h').append (h.drop _)
theorem qmw : ∀ (xs : List D) (sz j : Nat) (y : D), (∀ x ∈ xs, x.cells.length = sz) → y.cells.length = sz → j < xs.length →
    (xs.set j y).flatMap D.cells = (xs.flatMap D.cells).take (j * sz) ++ y.cells ++ (xs.flatMap D.cells).drop (j * sz + sz)
  | [], _, _, _, _, _, h => by simp at h
  | x :: xs, sz, 0, y, hs, hy, _ => by
    have h0 := hs x (by simp)
    simp only [List.set_cons_zero, List.flatMap_cons, Nat.zero_mul, List.take_zero, List.nil_append, qvF, ← h0, List.drop_left' rfl]
  | x :: xs, sz, j + 1, y, hs, hy, hl => by
    have h0 := hs x (by simp)
    have ih := qmw xs sz j y (fun z hz => hs z (by simp [hz])) hy (by simpa using hl)
    simp only [List.set_cons_succ, List.flatMap_cons]
    rw [ih, show (j + 1) * sz = x.cells.length + j * sz by rw [h0, Nat.succ_mul]; omega, show x.cells.length + j * sz + sz = x.cells.length + (j * sz + sz) by omega,
      List.take_length_add_append, List.drop_append (i := x.cells.length + (j * sz + sz))]
    simp [List.drop_eq_nil_of_le, List.append_assoc]
theorem qmO {pub : Nat → Nat} {w : World} : ∀ {xs : List D} {vs : List Value}, D.wfs xs = true → RepDL pub w (xs.flatMap D.cells) vs → ∀ u ∈ vs, u.oneCell' = true := by
  intro xs vs h hr
  refine hr.ones ?_
  clear hr
  induction xs with
  | nil => rfl
  | cons x l ih =>
    simp only [D.wfs, qvB] at h
    rw [List.flatMap_cons]
    have app : ∀ (a b : List D), D.ones a = true → D.ones b = true → D.ones (a ++ b) = true := by
      intro a b
      induction a with
      | nil => exact fun _ h => h
      | cons q a iha => intro h1 h2; simp only [List.cons_append, D.ones, qvB] at h1 ⊢; exact ⟨h1.1, iha h1.2 h2⟩
    exact app _ _ h.1 (ih h.2)
section
variable {P : Program} {M : Maps} {g : Gh} {w : World} {β : Nat → Nat} {st : St} {o : Oper} {a : Act}
inductive RepPd (g : Gh) (w : World) : List (Nat × V) → List (Nat × Value) → Prop
  | nil : RepPd g w [] []
  | cons (i : Nat) (x : D) (c : Value) (l : List (Nat × V)) (l' : List (Nat × Value)) (h : RepDL g.pub w x.cells c.cells.toList) (hl : RepPd g w l l') : RepPd g w ((i, .d x) :: l) ((i, c) :: l')
  | other (i : Nat) (v : V) (c : Value) (l : List (Nat × V)) (l' : List (Nat × Value)) (h : ∀ x, v ≠ .d x) : RepPd g w ((i, v) :: l) ((i, c) :: l')
theorem qdU {size : Nat} (hpos : 0 < size) : ∀ {ps : List (Nat × V)} {ps' : List (Nat × Value)} {es xs : List D} {arr : Array Value}, RepPd g w ps ps' → RepDL g.pub w (es.flatMap D.cells) arr.toList → (∀ x ∈ es, x.cells.length = size) →
    qbL size es ps = some xs → ∃ arr', Go.Instr.fill (fun i => some (i * size, size)) arr ps' = some arr' ∧ RepDL g.pub w (xs.flatMap D.cells) arr'.toList ∧ (∀ x ∈ xs, x.cells.length = size) ∧ xs.length = es.length
  | _, _, es, xs, arr, .nil, hc, hs, h => by
    simp only [qbL, Option.some.injEq] at h
    subst h
    exact ⟨arr, rfl, hc, hs, rfl⟩
  | _, _, es, xs, arr, .other i v c l l' hv, hc, hs, h => by
    cases v <;> simp [qbL] at h
    exact absurd rfl (hv _)
  | _, _, es, xs, arr, .cons i x c l l' hv hl, hc, hs, h => by
    simp only [qbL] at h
    split at h
    · rename_i hfit
      have hlen := hc.length
      rw [z8 es _ hs] at hlen
      have hlv := hv.length
      have e1 : c.cells.size = size := by rw [← hfit.1]; simpa using hlv.symm
      have hle : i * size + size ≤ es.length * size := by
        rw [← Nat.succ_mul]; exact Nat.mul_le_mul_right _ hfit.2
      have e2 : ¬ (c.cells.size ≠ size ∨ i * size + c.cells.size > arr.size) := by
        simp at hlen
        omega
      have hsp := qig (i * size) c arr (by simp at hlen; omega)
      have hs' : ∀ y ∈ es.set i x, y.cells.length = size := fun y hy => by
        rcases List.mem_or_eq_of_mem_set hy with h | h
        · exact hs y h
        · rw [h]; exact hfit.1
      obtain ⟨arr', h1, h2, h3, h4⟩ := qdU hpos (arr := c.cells.zipIdx.foldl (fun cs (x : Value × Nat) => cs.setIfInBounds (i * size + x.2) x.1) arr) hl (by
        rw [hsp, qmw es size i x hs hfit.1 hfit.2]
        have := hc.splice hv (i * size)
        rwa [hfit.1] at this) hs' h
      refine ⟨arr', ?_, h2, h3, by rw [h4]; simp⟩
      simp only [Go.Instr.fill]
      rw [if_neg (by simpa using e2)]
      exact h1
    · cases h
theorem qde (hR : Rel M g w β st a.tmps) : ∀ {ps : List (Nat × Operand)} {ps' : List (Nat × O)}, qcE M ps = some ps' → RepPd g w (ps'.map fun (j, x) => (j, rd st.env x)) (ps.map fun (i, x) => (i, a.eval x))
  | [], ps', h => by simp only [qcE, Option.some.injEq] at h; subst h; exact .nil
  | (i, x) :: ps, ps', h => by
    simp only [qcE] at h
    split at h
    · rename_i y r hy hr
      simp only [Option.some.injEq] at h
      subst h
      simp only [qvM]
      have h1 := kr hR hy
      have ih := qde hR hr
      cases hv : rd st.env y with
      | d x' => rw [hv] at h1; exact .cons i x' _ _ _ h1.inv_d.cells ih
      | _ => exact .other i _ _ _ _ (by intro x e; cases e)
    · cases h
theorem qa9 {zd : D} {z : Value} {size : Nat} (hz : RepDL g.pub w zd.cells z.cells.toList) (hsz : zd.cells.length = size) (hpos : 0 < size) : ∀ n, 
    RepDL g.pub w ((List.replicate n zd).flatMap D.cells) (((Array.range (n * size)).map (z.cells[· % z.cells.size]!)).toList) := by
  have hzs : z.cells.size = size := by rw [← hsz]; simpa using hz.length.symm
  intro n
  induction n with
  | zero => simpa using RepDL.nil
  | succ n ih =>
    have e1 : (List.replicate (n + 1) zd).flatMap D.cells = (List.replicate n zd).flatMap D.cells ++ zd.cells := by
      rw [List.replicate_succ', List.flatMap_append]; simp
    have e2 : ((Array.range ((n + 1) * size)).map (z.cells[· % z.cells.size]!)).toList = ((Array.range (n * size)).map (z.cells[· % z.cells.size]!)).toList ++ z.cells.toList := by
      apply List.ext_getElem?
      intro k
      rw [List.getElem?_append]
      simp only [Array.toList_map, List.getElem?_map, Array.toList_range, List.length_map, List.length_range, hzs]
      have hm : (n + 1) * size = n * size + size := by rw [Nat.succ_mul]
      split
      · rename_i hk
        rw [List.getElem?_range (by omega), List.getElem?_range hk]
      · rename_i hk
        by_cases hk2 : k < (n + 1) * size
        · rw [List.getElem?_range hk2]
          have e3 : k % size = k - n * size := by
            have : k = k - n * size + n * size := by omega
            rw [this, Nat.add_mul_mod_self_right, Nat.mod_eq_of_lt (by omega)]
            omega
          have hlt : k - n * size < z.cells.size := by omega
          simp [e3, hlt]
        · rw [List.getElem?_eq_none (by simp; omega), List.getElem?_eq_none (by simp; omega)]; rfl
    rw [e1, e2]
    exact ih.append hz
theorem qeI (f : Nat → Value) : (Array.range 0).map f = #[] := by
  apply Array.ext'
  simp only [Array.toList_map, Array.toList_range]
  rfl
theorem qeK {t e : TypeId} {ie : Go.TypeInfo} {ps : Array (Nat × Value)} {cells : Array Value} (hu : P.underlying t = some (.slice e)) (hie : P.info? e = some ie)
    (h : Go.Instr.fill (fun i => some (i * ie.size, ie.size)) #[] ps.toList = some cells) :
    (Go.Instr.buildSlice t 0 ps).run P w = .ok (.slice (some ⟨w.heap.size, 0, none⟩) 0 0) (w.alloc (.cells cells e)) := by
  simp [Go.Instr.buildSlice, Go.run_underlying hu, Go.sizeOf, Go.typeInfo, hie, qeI, h, Go.newRow]
theorem qji (hd : kp o a) (hR : Rel M g w β st a.tmps) {t e : TypeId} {n : Nat} {ps : Array (Nat × Operand)} (ho : o.op = .buildSlice t n ps) (hu : P.underlying t = some (.slice e)) {l : L} (hl : lay P e = some l) {zd : D} (hz : yI P e = some zd)
    (hs : zd.cells.length = l.n ∧ 0 < l.n ∧ n * l.n ≤ 16777216) {ps' : List (Nat × O)} (hps : qcE M ps.toList = some ps')
    {r : Or} (hr : zR zd n ps' st = some r) : Left1 P M g w o a r := by
  obtain ⟨ie, d, hie, hue, rfl⟩ := y3 hl
  obtain ⟨i2, z, hi2, hzz, hzd⟩ := j9 hz
  rw [hie] at hi2
  cases hi2
  simp only at hs
  obtain ⟨hs1, hs2, hs3⟩ := hs
  unfold zR at hr
  split at hr
  · rename_i xs hxs
    split at hr
    · rename_i hwf
      simp only [ok, Option.some.injEq] at hr
      subst hr
      rw [hs1] at hxs
      have hrep := (qau g.pub w z zd hzd).cells
      have hrep0 := qa9 hrep hs1 hs2 n
      obtain ⟨arr, h1, h2, h3, h4⟩ := qdU (arr := (Array.range (n * ie.size)).map (z.cells[· % z.cells.size]!)) hs2 (qde hR hps) hrep0 (fun x hx => by rw [List.eq_of_mem_replicate hx]; exact hs1) hxs
      rw [List.length_replicate] at h4
      have hrun : (Go.Instr.buildSlice t n (ps.map fun (i, x) => (i, a.eval x))).run P w = .ok (.slice (some ⟨w.heap.size, 0, none⟩) n n) (w.alloc (.cells arr e)) := by
        by_cases hn : n = 0
        · subst hn
          refine qeK hu hie ?_
          rw [Nat.zero_mul, qeI] at h1
          simpa using h1
        · have : 0 < n * ie.size := Nat.mul_pos (by omega) hs2
          exact Go.run_buildSlice (P := P) w t e n _ arr ie z hu hie hzz (by simpa using hs3) (by omega) (by simpa using h1)
      have hlen := h2.length
      rw [z8 xs _ h3] at hlen
      by_cases hx0 : xs = []
      case pos =>
        subst hx0
        simp only [qvQ] at h4
        subst h4
        have hR' := hR.alloc none 0 (.cells arr e)
        have hrun2 : (Go.execOp a.eval o).run P w = .ok (.value (.slice (some ⟨w.heap.size, 0, none⟩) 0 0)) (w.alloc (.cells arr e)) := by
          simp only [Go.execOp, ho, Sem.run_bind, hrun, Result.andThen_ok, Sem.run_pure]
        exact ⟨.slice (some ⟨w.heap.size, 0, none⟩) 0 0, _, _, β, .value hrun2, hR'.putFull hd (fun ℓ => .full [] ⟨w.heap.size, 0, none⟩ (.sl0 _ 0)), qaQ hR.fr none 0 _⟩
      obtain ⟨g', k1, k2⟩ := qg6 (T := e) (fz := (0, 0)) (cap := n) (arr := arr) hd hR h3 h2 (by rw [List.take_length]) (by rw [h4]; exact qvC _) (by rw [← h4]; simp at hlen; omega) (qmO hwf h2) (qfx _)
      rw [h4] at k1
      have e9 : qnk xs = .osl xs := by
        cases xs with
        | nil => exact absurd rfl hx0
        | cons x l => rfl
      rw [e9] at k1
      exact ⟨_, _, g', β, .value (by simp only [Go.execOp, ho, Sem.run_bind, hrun, Result.andThen_ok, Sem.run_pure]), k1, k2⟩
    · cases hr
  · cases hr
theorem qjN (hd : kp o a) (hR : Rel M g w β st a.tmps) {t e : TypeId} {n : Nat} {ps : Array (Nat × Operand)} (ho : o.op = .buildSlice t n ps) (hu : P.underlying t = some (.slice e)) {l : L} (hl : lay P e = some l) {zd : D} (hz : yI P e = some zd)
    (hs : zd.cells.length = l.n ∧ 0 < l.n ∧ n * l.n ≤ 16777216) {ps' : List (Nat × O)} (hps : qcE M ps.toList = some ps')
    {r : Or} (hr : y6 zd n ps' st = some r) : Left1 P M g w o a r := by
  obtain ⟨ie, d, hie, hue, rfl⟩ := y3 hl
  obtain ⟨i2, z, hi2, hzz, hzd⟩ := j9 hz
  rw [hie] at hi2
  cases hi2
  simp only at hs
  obtain ⟨hs1, hs2, hs3⟩ := hs
  unfold y6 at hr
  split at hr
  · rename_i xs hxs
    split at hr
    · rename_i hwf
      simp only [ok, Option.some.injEq] at hr
      subst hr
      rw [hs1] at hxs
      have hrep := (qau g.pub w z zd hzd).cells
      have hrep0 := qa9 hrep hs1 hs2 n
      obtain ⟨arr, h1, h2, h3, h4⟩ := qdU (arr := (Array.range (n * ie.size)).map (z.cells[· % z.cells.size]!)) hs2 (qde hR hps) hrep0 (fun x hx => by rw [List.eq_of_mem_replicate hx]; exact hs1) hxs
      rw [List.length_replicate] at h4
      have hrun : (Go.Instr.buildSlice t n (ps.map fun (i, x) => (i, a.eval x))).run P w = .ok (.slice (some ⟨w.heap.size, 0, none⟩) n n) (w.alloc (.cells arr e)) := by
        by_cases hn : n = 0
        · subst hn
          refine qeK hu hie ?_
          rw [Nat.zero_mul, qeI] at h1
          simpa using h1
        · have : 0 < n * ie.size := Nat.mul_pos (by omega) hs2
          exact Go.run_buildSlice (P := P) w t e n _ arr ie z hu hie hzz (by simpa using hs3) (by omega) (by simpa using h1)
      have hlen := h2.length
      rw [z8 xs _ h3] at hlen
      by_cases hx0 : xs = []
      case pos =>
        subst hx0
        simp only [qvQ] at h4
        subst h4
        have hR' := hR.alloc none 0 (.cells arr e)
        have hrun2 : (Go.execOp a.eval o).run P w = .ok (.value (.slice (some ⟨w.heap.size, 0, none⟩) 0 0)) (w.alloc (.cells arr e)) := by
          simp only [Go.execOp, ho, Sem.run_bind, hrun, Result.andThen_ok, Sem.run_pure]
        exact ⟨.slice (some ⟨w.heap.size, 0, none⟩) 0 0, _, _, β, .value hrun2, hR'.putV hd (.s (.fsl [] ⟨w.heap.size, 0, none⟩ (.sl0 _ 0))), qaQ hR.fr none 0 _⟩
      obtain ⟨g', k1, k2⟩ := qp8 (T := e) (fz := (0, 0)) (arr := arr) hd hR hx0 h3 h2 (by rw [List.take_length]) (qmO hwf h2)
      rw [h4] at k1
      exact ⟨_, _, g', β, .value (by simp only [Go.execOp, ho, Sem.run_bind, hrun, Result.andThen_ok, Sem.run_pure]), k1, k2⟩
    · cases hr
  · cases hr
end
end W

/-
  Texts and their bytes; rows that are made.
-/
set_option linter.unusedSimpArgs false
set_option linter.unusedVariables false
namespace W
open Go (World Value Addr IntKind Program TypeId FuncId Operand Act Oper Next Result Sem BinOp UnOp)
theorem qkZ (w : World) (arr : Array Value) (e : TypeId) (n : Nat) : (w.alloc (.cells arr e)).freeze ⟨w.heap.size, n, none⟩ 1 = w.alloc (.cells arr e (n, n + 1)) := by
  have h : ∀ f : Go.Obj → Go.Obj, (w.heap.push (.cells arr e)).modify w.heap.size f = w.heap.push (f (.cells arr e)) := by
    intro f
    apply Array.ext_getElem?
    intro i
    rw [Array.getElem?_modify, Array.getElem?_push, Array.getElem?_push]
    by_cases hi : i = w.heap.size
    · subst hi; simp
    · have h2 : w.heap.size ≠ i := fun h => hi h.symm
      simp [hi, h2]
  unfold World.freeze
  simp only [Nat.one_ne_zero, if_false]
  show ({ (w.alloc (.cells arr e)) with heap := (w.heap.push (.cells arr e)).modify w.heap.size _ } : World) = _
  rw [h]
  rfl
def toB (w : World) (z : ByteArray) (e : TypeId) : Array Value := z.data.map (fun b : UInt8 => Value.int .u8 (b.toNat : Int)) ++ Array.replicate (Go.grownCap w z.size 0 e - z.size) (.int .u8 0)
section
variable {P : Program} {M : Maps} {g : Gh} {w : World} {β : Nat → Nat} {st : St} {o : Oper} {a : Act}
theorem qif {src dst e : TypeId} {z : ByteArray} {d : Go.TypeDesc} (hs : P.underlying src = some d) (hd : P.underlying dst = some (.slice e)) (he : P.underlying e = some (.int .u8)) :
    (Go.convert src dst (.string z)).run P w = .ok (.slice (some ⟨w.heap.size, 0, none⟩) z.size (Go.grownCap w z.size 0 e))
      (w.drew.alloc (.cells (toB w z e) e
        ((toB w z e).size,
         (toB w z e).size + 1))) := by
  have h1 : (Go.convert src dst (.string z)).run P w = (Go.Conv.stringToBytes e z).run P w := by
    simp only [Go.convert, Sem.run_bind, Go.run_underlying hs, Go.run_underlying hd, Result.andThen_ok]
    cases d <;> simp [Go.run_underlying he]
  rw [h1]
  have hf : (Go.Question.appendCap z.size 0 e).forced = false := rfl
  unfold Go.Conv.stringToBytes
  simp only [Sem.run_bind, Go.run_choose, hf, qvA, if_false, Result.andThen_ok, Go.newRow, Go.run_newObj_alloc, Sem.run_pure, Go.markStringish, Go.run_shape]
  have hsh : (w.drew.alloc (.cells (toB w z e) e)).shape? w.heap.size =
      some (e, (toB w z e).size) := by
    unfold World.shape?
    have := z1 w.drew (.cells (toB w z e) e)
    have e0 : w.drew.heap.size = w.heap.size := rfl
    rw [e0] at this
    rw [this]
  have hfr := qkZ w.drew (toB w z e) e (toB w z e).size
  show ((match World.shape? (w.drew.alloc (.cells (toB w z e) e)) w.heap.size with
    | some (_, n) => Go.freeze { block := w.heap.size, off := n } 1
    | _ => pure ()).run P _).andThen _ = _
  rw [hsh]
  simp only [Go.run_freeze, Result.andThen_ok]
  have e0 : w.drew.heap.size = w.heap.size := rfl
  rw [e0] at hfr
  exact congrArg (fun W => Result.ok (Value.slice (some ⟨w.heap.size, 0, none⟩) z.size (Go.grownCap w z.size 0 e)) W) hfr
theorem qpB (hd : kp o a) (hR : Rel M g w β st a.tmps) {src dst e : TypeId} {x : Operand} {x' : O} (hx : opnd M false x = some x') (hs : P.underlying src = some .string) (hdt : P.underlying dst = some (.slice e)) (he : P.underlying e = some (.int .u8))
    (ho : o.op = .convert src dst x) {r : Or} (hr : qeC x' st = some r) : Left1 P M g w o a r := by
  have h1 := kr hR hx
  unfold qeC at hr
  split at hr
  · rename_i t hz
    rw [hz] at h1
    obtain ⟨z, e1, f1⟩ := qb8 h1.inv_d
    simp only [ok, Option.some.injEq] at hr
    subst hr
    have hrun := qif (P := P) (w := w) (z := z) hs hdt he
    have hsm : SameMem w w.drew := ⟨rfl, rfl, rfl⟩
    have hR' := hR.sameMem hsm
    have hsrc := qfe (P := P) (g := g) (w := w) (z := z)
    rw [f1] at hsrc
    have hlen : (t.map fun n : Nat => D.i .u8 n).length = z.size := by rw [← f1]; simp
    have hge := Go.grownCap_ge w z.size 0 e
    have hd1 : z.data.size = z.size := rfl
    obtain ⟨g', k1, k2⟩ := qg6 (T := e) (cap := Go.grownCap w z.size 0 e) (arr := toB w z e)
      (fz := ((toB w z e).size,
         (toB w z e).size + 1)) hd hR' hsrc.sz (hsrc.rep.mono (hsm.grow g).pub (hsm.grow g).cell)
      (by simp only [toB, Array.toList_append, Array.toList_map]; exact List.take_left) (by rw [hlen]; exact hge) (by simp [toB]; omega) hsrc.one (fun j hj => by
        have : ¬ ((toB w z e).size ≤ j) := by simp [toB]; omega
        simp only [this, decide_false, Bool.false_and])
    rw [hlen] at k1
    refine ⟨_, _, g', β, .value ?_, k1, (hsm.evo g).trans k2⟩
    simp only [Go.execOp, ho, Sem.run_bind, e1, hrun, Result.andThen_ok, Sem.run_pure]
    rfl
  · cases hr
theorem qk4 (hd : kp o a) (hR : Rel M g w β st a.tmps) {src dst e : TypeId} {x : Operand} {x' : O} (hx : opnd M false x = some x') (hs : P.underlying src = some .string) (hdt : P.underlying dst = some (.slice e)) (he : P.underlying e = some (.int .u8))
    (ho : o.op = .convert src dst x) {r : Or} (hr : qaT x' st = some r) : Left1 P M g w o a r := by
  have h1 := kr hR hx
  unfold qaT at hr
  split at hr
  · rename_i t hz
    rw [hz] at h1
    obtain ⟨z, e1, f1⟩ := qb8 h1.inv_d
    simp only [okH, Option.some.injEq] at hr
    subst hr
    have hrun := qif (P := P) (w := w) (z := z) hs hdt he
    have hsm : SameMem w w.drew := ⟨rfl, rfl, rfl⟩
    have hR' := hR.sameMem hsm
    have hsrc := qfe (P := P) (g := g) (w := w) (z := z)
    rw [f1] at hsrc
    have hge := Go.grownCap_ge w z.size 0 e
    have hd1 : z.data.size = z.size := rfl
    have hlen : (t.map fun n : Nat => V.d (.i .u8 n)).length = z.size := by rw [← f1]; simp
    have hds : (t.map fun n : Nat => V.d (.i .u8 n)) = (t.map fun n : Nat => D.i .u8 n).map V.d := by simp
    have hflat : (t.map fun n : Nat => D.i .u8 n).flatMap D.cells = (t.map fun n : Nat => D.i .u8 n) := by
      generalize t = t'
      induction t' with
      | nil => rfl
      | cons y l ih => rw [qvM, List.flatMap_cons, ih]; rfl
    have hrep := hsrc.rep.mono (hsm.grow g).pub (hsm.grow g).cell
    rw [hflat] at hrep
    have hC := qfg (M := M) (g := g) (w := w.drew) (ds := t.map fun n : Nat => D.i .u8 n) (vs := z.data.map (fun b : UInt8 => Value.int .u8 (b.toNat : Int))) (by simpa using hrep) (fun i => Loc.ocell g.n i)
    obtain ⟨k1, k2⟩ := qkh (cs := t.map fun n : Nat => V.d (.i .u8 n)) (arr := toB w z e) hd hR' e ((toB w z e).size, (toB w z e).size + 1) (fun j hj => by
        have : ¬ ((toB w z e).size ≤ j) := by rw [hlen] at hj; simp [toB]; omega
        simp only [this, decide_false, Bool.false_and]) (by rw [hlen]; simp [toB]) (fun i y u hy hu => by
        have hi : i < z.size := by rw [← hlen]; exact (List.getElem?_eq_some_iff.1 hy).1
        rw [hds] at hy
        refine hC i y u hy ?_
        unfold toB at hu
        rwa [Array.getElem?_append_left (by simpa using hi)] at hu)
    have e0 : w.drew.heap.size = w.heap.size := rfl
    rw [e0] at k1 k2
    refine ⟨.slice (some ⟨w.heap.size, 0, none⟩) z.size (Go.grownCap w z.size 0 e), _, g.withObj w.heap.size, β, .value ?_, ?_, (hsm.evo g).trans k2⟩
    · simp only [Go.execOp, ho, Sem.run_bind, e1, hrun, Result.andThen_ok, Sem.run_pure]
    · have hv : RepV M (g.withObj w.heap.size) (w.drew.alloc (.cells (toB w z e) e ((toB w z e).size, (toB w z e).size + 1))) β (.rs st.H.length 0 t.length t.length) (.slice (some ⟨w.heap.size, 0, none⟩) z.size (Go.grownCap w z.size 0 e)) := by
        have ht : t.length = z.size := by simpa using hlen
        have := RepS.rs (M := M) (g := g.withObj w.heap.size) (w := w.drew.alloc (.cells (toB w z e) e ((toB w z e).size, (toB w z e).size + 1))) g.n 0 z.size z.size (Go.grownCap w z.size 0 e) (Nat.lt_succ_self _) (qvC _) hge
        rw [← hR.n, ht]
        simpa [Gh.withObj, Gh.φ] using RepV.s (β := β) this
      exact k1.putV hd hv
  · cases hr
theorem qfq {pub : Nat → Nat} : ∀ {xs : List D} {t : List Nat} {vs : List Value}, qaS xs = some t → RepDL pub w (xs.flatMap D.cells) vs → vs = (t.map fun n : Nat => (n : Int)).map (Value.int .u8) ∧ (∀ x ∈ xs, x.cells.length = 1) ∧ (∀ n ∈ t, n < 256) ∧ t.length = xs.length
  | [], t, vs, h, hr => by
    simp only [qaS, Option.some.injEq] at h
    subst h
    cases hr
    exact ⟨rfl, by simp, by simp, rfl⟩
  | x :: xs, t, vs, h, hr => by
    unfold qaS at h
    split at h
    · rename_i heq; cases heq
    · rename_i n l heq
      simp only [List.cons.injEq] at heq
      obtain ⟨rfl, rfl⟩ := heq
      split at h
      · rename_i hn
        cases hb : qaS xs with
        | none => simp [hb] at h
        | some t' =>
          simp only [hb, qvH, Option.some.injEq] at h
          subst h
          simp only [List.flatMap_cons, D.cells, List.singleton_append] at hr
          cases hr with
          | cons _ v _ vs' h1 h2 =>
            have e := y5 h1
            obtain ⟨i1, i2, i3, i4⟩ := qfq hb h2
            refine ⟨?_, ?_, ?_, by simp [i4]⟩
            · rw [e, i1]; simp [Int.toNat_of_nonneg hn.1]
            · intro y hy
              rcases List.mem_cons.1 hy with h | h
              · subst h; rfl
              · exact i2 y h
            · intro m hm
              rcases List.mem_cons.1 hm with h | h
              · subst h; omega
              · exact i3 m h
      · cases h
    · cases h
theorem qjU : ∀ (ns : List Nat) (s : ByteArray), ((ns.map fun n : Nat => (n : Int)).foldl (fun r n => r.push (UInt8.ofNat n.toNat)) s).data.toList = s.data.toList ++ ns.map UInt8.ofNat
  | [], s => by simp
  | n :: ns, s => by
    simp only [qvM, List.foldl_cons]
    rw [qjU ns]
    simp [ByteArray.push]
theorem qf4 {ns : List Nat} (h : ∀ n ∈ ns, n < 256) : ((ns.map fun n : Nat => (n : Int)).foldl (fun r n => r.push (UInt8.ofNat n.toNat)) ByteArray.empty).data.toList.map (·.toNat) = ns := by
  rw [qjU]
  simp only [List.map_append, List.map_map]
  have : (ByteArray.empty.data.toList.map (·.toNat)) = [] := rfl
  rw [this, List.nil_append]
  conv => rhs; rw [← List.map_id ns]
  apply List.map_congr_left
  intro n hn
  have := h n hn
  simp [UInt8.toNat_ofNat']
  omega
theorem qgZ {M : Maps} {g : Gh} {w : World} : ∀ {cs : List V} {vs : List Value} {ds : List D}, qaA cs = some ds → cs.length = vs.length → (∀ (i : Nat) x v, cs[i]? = some x → vs[i]? = some v → RepS M g w (yS x) v) → RepDL g.pub w ds vs
  | [], [], ds, h, _, _ => by simp only [qaA, Option.some.injEq] at h; subst h; exact .nil
  | [], _ :: _, _, _, hl, _ => by simp at hl
  | _ :: _, [], _, _, hl, _ => by simp at hl
  | x :: cs, v :: vs, ds, h, hl, hr => by
    have h0 := hr 0 x v rfl rfl
    have hrest : ∀ (i : Nat) y u, cs[i]? = some y → vs[i]? = some u → RepS M g w (yS y) u := fun i y u hy hu => hr (i + 1) y u (by simpa using hy) (by simpa using hu)
    cases x with
    | d y =>
      simp only [qaA] at h
      split at h
      · rename_i r hr1
        simp only [Option.some.injEq] at h; subst h
        cases h0 with
        | d _ _ h0 => exact .cons _ _ _ _ h0 (qgZ hr1 (by simpa using hl) hrest)
      · cases h
    | osl y =>
      simp only [qaA] at h
      split at h
      · rename_i r hr1
        simp only [Option.some.injEq] at h; subst h
        cases h0 with
        | d _ _ h0 => exact .cons _ _ _ _ h0 (qgZ hr1 (by simpa using hl) hrest)
      · cases h
    | fsl y =>
      simp only [qaA] at h
      split at h
      · rename_i r hr1
        simp only [Option.some.injEq] at h; subst h
        cases h0 with
        | fsl _ ad h0 => exact .cons _ _ _ _ h0 (qgZ hr1 (by simpa using hl) hrest)
      · cases h
    | _ => simp [qaA] at h
theorem qgx {M : Maps} {g : Gh} {w : World} {cs : List V} {ds : List D} {b off n : Nat} {arr : Array Value} {T : TypeId} {fz : Nat × Nat} (hds : qaA ((cs.drop off).take n) = some ds) (hl : cs.length ≤ arr.size) (hle : off + n ≤ cs.length)
    (hb : w.heap[b]? = some (.cells arr T fz)) (hr : ∀ (i : Nat) x v, cs[i]? = some x → arr[i]? = some v → RepS M g w (yS x) v) :
    ∃ vs : List Value, vs.length = n ∧ RepDL g.pub w ds vs ∧ ∀ (j : Nat) v, vs[j]? = some v → w.cell? ⟨b, off + j, none⟩ = some v := by
  refine ⟨(arr.toList.drop off).take n, by simp; omega, qgZ (M := M) hds (by simp; omega) (fun i x v hx hv => ?_), fun j v hj => ?_⟩
  · have hi : i < n := by
      have := (List.getElem?_eq_some_iff.1 hx).1
      simp at this; omega
    refine hr (off + i) x v ?_ ?_
    · simpa [List.getElem?_take, hi, List.getElem?_drop] using hx
    · simpa [List.getElem?_take, hi, List.getElem?_drop] using hv
  · have hj' : j < n := by
      have := (List.getElem?_eq_some_iff.1 hj).1
      simp at this; omega
    have : arr[off + j]? = some v := by simpa [List.getElem?_take, hj', List.getElem?_drop] using hj
    simp [World.cell?, hb, this]
theorem qjs : ∀ {ds : List D} {t : List Nat}, qaS ds = some t → ds.flatMap D.cells = ds
  | [], _, _ => rfl
  | x :: l, t, h => by
    cases x with
    | i k n =>
      cases k with
      | u8 =>
        simp only [qaS] at h
        split at h
        · cases hb : qaS l with
          | none => simp [hb] at h
          | some r => rw [List.flatMap_cons, qjs hb]; rfl
        · cases h
      | _ => simp [qaS] at h
    | _ => simp [qaS] at h
theorem qqp (hd : kp o a) (hR : Rel M g w β st a.tmps) {src dst e : TypeId} {x : Operand} {x' : O} (hx : opnd M false x = some x') (hs : P.underlying src = some (.slice e)) (hdt : P.underlying dst = some .string) (he : P.underlying e = some (.int .u8))
    (ho : o.op = .convert src dst x) {r : Or} (hr : qhp x' st = some r) : Left1 P M g w o a r := by
  have h1 := kr hR hx
  have hrun : ∀ {ad : Option Addr} {l c : Nat} {z : ByteArray}, a.eval x = .slice ad l c → (Go.Conv.bytesToString (.slice ad l c)).run P w = .ok (.string z) w → (Go.execOp a.eval o).run P w = .ok (.value (.string z)) w := by
    intro ad l c z hc hb
    have := Go.run_convert_bytes_string (P := P) w src dst e ad l c hs he hdt
    simp only [Go.execOp, ho, Sem.run_bind, hc, this, hb, Result.andThen_ok, Sem.run_pure]
  have cellsRun : ∀ {b off : Nat} {vs : List Value}, (∀ j v, vs[j]? = some v → w.cell? ⟨b, off + j, none⟩ = some v) → (Go.loadCells ⟨b, off, none⟩ vs.length).run P w = .ok vs.toArray w := fun {b off vs} h =>
    Go.run_loadCells_list (P := P) w ⟨b, off, none⟩ vs (fun j v hj => by rw [jp]; exact h j v hj)
  unfold qhp at hr
  split at hr
  · rename_i hz
    rw [hz] at h1
    have h2 := h1.inv_d
    generalize hc : a.eval x = cc at h2
    cases h2
    exact qt hd hR (.s (.d _ _ (.s [] ByteArray.empty rfl))) (hrun hc rfl) hr
  · rename_i xs hz
    rw [hz] at h1
    have h2 := h1.inv_d
    split at hr
    · rename_i t ht
      generalize hc : a.eval x = cc at h2
      cases h2 with
      | sl0 ad cap =>
        simp only [qaS, Option.some.injEq] at ht
        subst ht
        refine qt hd hR (.s (.d _ _ (.s [] ByteArray.empty rfl))) (hrun hc ?_) hr
        have := Go.run_bytesToString (P := P) w ad 0 cap [] rfl
        exact this
      | sl _ b off cap sz vs hne hsz hrep hcell hpub hcap hone =>
        obtain ⟨i1, i2, i3, i4⟩ := qfq ht hrep
        refine qt hd hR (.s (.d _ _ (.s t _ (qf4 i3)))) (hrun hc ?_) hr
        refine Go.run_bytesToString (P := P) w _ _ _ _ ?_
        have hl : vs.length = xs.length := by rw [i1]; simp [i4]
        rw [← hl, ← i1]
        exact cellsRun hcell
    · cases hr
  · rename_i id off n cap hz
    rw [hz] at h1
    split at hr
    · rename_i cs hob
      rw [qvD] at hr
      split at hr
      · rename_i hle
        have hle := Nat.le_of_ble_eq_true hle
        split at hr
        · rename_i ds hds
          split at hr
          · rename_i t ht
            generalize hc : a.eval x = cc at h1
            cases h1 with
            | s h1 =>
              cases h1 with
              | rs _ _ _ _ _ hid hcap hcap2 =>
                cases hR.h id _ hob with
                | cells _ arr T fz hb hz ho hp hl hr0 =>
                  have hsub : ∃ vs : List Value, vs.length = n ∧ RepDL g.pub w ds vs ∧ ∀ (j : Nat) v, vs[j]? = some v → w.cell? ⟨g.φ id, off + j, none⟩ = some v := qgx (M := M) (g := g) hds hl hle hb (fun i x v hx hv => (hr0 i x v hx hv).read)
                  obtain ⟨vs, hvl, hrep, hcell⟩ := hsub
                  obtain ⟨i1, i2, i3, i4⟩ := qfq ht (by rw [qjs ht]; exact hrep)
                  refine qt hd hR (.s (.d _ _ (.s t _ (qf4 i3)))) (hrun hc ?_) hr
                  refine Go.run_bytesToString (P := P) w _ _ _ _ ?_
                  rw [← hvl, ← i1]
                  exact cellsRun hcell
          · cases hr
        · cases hr
      · cases hr
    · cases hr
  · cases hr
theorem ql6 (hd : kp o a) (hR : Rel M g w β st a.tmps) {t e : TypeId} {x y : Operand} {x' y' : O} (hu : P.underlying t = some (.slice e)) {i : Go.TypeInfo} (hi : P.info? e = some i) {zd : D} (hz : yI P e = some zd) (hs : i.size = 1 ∧ i.bytes ≤ 262144)
    (hx : opnd M false x = some x') (hy : opnd M false y = some y') (ho : o.op = .makeSlice t x y) {r : Or} (hr : qbU zd x' y' st = some r) : Left1 P M g w o a r := by
  have h1 := kr hR hx
  have h2 := kr hR hy
  obtain ⟨i2, z, hi2, hzz, hzd⟩ := j9 hz
  rw [hi] at hi2
  cases hi2
  unfold qbU at hr
  split at hr
  · rename_i k1 n k2 m hv1 hv2
    rw [hv1] at h1; rw [hv2] at h2
    split at hr
    · rename_i hb
      split at hr
      · rename_i hnm
        subst hnm
        simp only [okH, Option.some.injEq] at hr
        subst hr
        have e1 := y5 h1.inv_d
        have e2 := y5 h2.inv_d
        have hrep := (qau g.pub w z zd hzd).cells
        have hc1 : zd.cells = [zd] := by
          have := hb.2.2.2
          cases zd <;> first | rfl | (simp [D.one] at this)
        have hw : IntKind.i64.wrap n = n := Go.wrap_small n hb.1 (by omega)
        obtain ⟨N, rfl⟩ : ∃ N : Nat, n = N := ⟨n.toNat, (Int.toNat_of_nonneg hb.1).symm⟩
        have hN : N ≤ 1073741824 := by have := hb.2.2.1; omega
        have hsmall : ¬ ((i.bytes : Int) * (N : Int) > 2 ^ 48) := by
          have h3 : i.bytes * N ≤ 262144 * 1073741824 := Nat.mul_le_mul hs.2 hN
          have h4 : ((i.bytes * N : Nat) : Int) ≤ 281474976710656 := by omega
          rw [Int.natCast_mul] at h4
          omega
        have hneg : ¬ ((N : Int) < 0) := by omega
        have hrun : (Go.Instr.makeSlice t (a.eval x) (a.eval y)).run P w = .ok (.slice (some ⟨w.heap.size, 0, none⟩) N N) (w.alloc (.cells ((Array.range N).map (z.cells[· % z.cells.size]!)) e)) := by
          have hai : ∀ (k : IntKind) (n : Int), (Go.asInt (.int k n)).run P w = .ok n w := fun _ _ => rfl
          rw [e1, e2]
          by_cases h0 : N = 0
          · subst h0
            have hai0 : ∀ (k : IntKind), (Go.asInt (.int k 0)).run P w = .ok 0 w := fun _ => rfl
            have hw0 : IntKind.i64.wrap 0 = 0 := by decide
            simp [Go.Instr.makeSlice, Go.run_underlying hu, Go.typeInfo, hi, hai0, hw0, Go.sizeOf, Go.newRow, qeI]
          · simp [Go.Instr.makeSlice, Go.run_underlying hu, Go.typeInfo, hi, hai, hw, hneg, hsmall, Go.sizeOf, hs.1, h0, qeX hi hzz, Go.newRow]
            intro hbad
            omega
        have hz0 := qa9 hrep (size := 1) (by rw [hc1]; rfl) (by omega) N
        have hz1 : (List.replicate N zd).flatMap D.cells = List.replicate N zd := by
          clear hz0 hrun hsmall hneg hN hw e1 e2 hb hv1 hv2 h1 h2
          induction N with
          | zero => rfl
          | succ N ih => rw [List.replicate_succ, List.flatMap_cons, ih, hc1]; rfl
        rw [hz1, Nat.mul_one] at hz0
        have hz2 := qfg (M := M) hz0 (fun i => Loc.ocell g.n i)
        have hlen : ((List.replicate N zd).map V.d).length = ((Array.range N).map (z.cells[· % z.cells.size]!)).size := by simp
        obtain ⟨k1, k2⟩ := qgN hd hR e (Nat.le_of_eq hlen) hz2
        refine ⟨.slice (some ⟨w.heap.size, 0, none⟩) N N, _, g.withObj w.heap.size, β, .value (w' := w.alloc (.cells ((Array.range N).map (z.cells[· % z.cells.size]!)) e)) (by simp only [Go.execOp, ho, Sem.run_bind, hrun, Result.andThen_ok, Sem.run_pure]), ?_, k2⟩
        have hv : RepV M (g.withObj w.heap.size) (w.alloc (.cells ((Array.range N).map (z.cells[· % z.cells.size]!)) e)) β (.rs st.H.length 0 (N : Int).toNat (N : Int).toNat) (.slice (some ⟨w.heap.size, 0, none⟩) N N) := by
          have := RepS.rs (M := M) (g := g.withObj w.heap.size) (w := w.alloc (.cells ((Array.range N).map (z.cells[· % z.cells.size]!)) e)) g.n 0 N N N (Nat.lt_succ_self _) (qvC _) (qvC _)
          rw [← hR.n]
          simpa [Gh.withObj, Gh.φ] using RepV.s (β := β) this
        have e3 : List.replicate (N : Int).toNat (V.d zd) = (List.replicate N zd).map V.d := by simp
        rw [e3]
        exact k1.putV hd hv
      · cases hr
    · cases hr
  · cases hr
theorem qkz (hd : kp o a) (hR : Rel M g w β st a.tmps) {t xt : TypeId} {t' : Nat} (hm : look M.tm t = some t') (hinj : M.tm.all (fun p => p.2 != t' || p.1 == t) = true) {dd : Go.TypeDesc} (hu : P.underlying t = some dd) (hni : ∀ m, dd ≠ .interface m)
    {zd : D} (hz : yI P t = some zd) {x : Operand} {x' : O} (hx : opnd M false x = some x') (ho : o.op = .typeAssert x xt t true) {r : Or} (hr : qaJ t' zd x' st = some r) : Left1 P M g w o a r := by
  have h1 := kr hR hx
  obtain ⟨i2, z, hi2, hzz, hzd⟩ := j9 hz
  have hrz : (Go.zeroValue t).run P w = .ok z w := qeX hi2 hzz
  have hzr : RepS M g w (.d zd) z := .d _ _ (qau g.pub w z zd hzd)
  have hb : ∀ b, RepS M g w (.d (.b b)) (.bool b) := fun b => .d _ _ (.b b)
  unfold qaJ at hr
  split at hr
  · rename_i t2 v hv
    rw [hv] at h1
    generalize hc : a.eval x = c at h1
    cases h1 with
    | s h3 => cases h3 with
      | ifc _ t3 _ c3 hlk hrep =>
        by_cases he : t2 = t'
        · subst he
          have ht : t3 = t := by
            have key : ∀ (l : List (Nat × Nat)), l.all (fun p => p.2 != t2 || p.1 == t) = true → look l t3 = some t2 → t3 = t := by
              intro l
              induction l with
              | nil => intro _ h; cases h
              | cons p l ih =>
                intro hall hl
                simp only [List.all_cons, qvB] at hall
                simp only [look, qvD] at hl
                split at hl
                · rename_i hbq
                  simp only [Option.some.injEq] at hl
                  have := hall.1
                  simp only [hl, bne_self_eq_false, Bool.false_or, beq_iff_eq] at this
                  rw [← this]; exact qvJ hbq
                · exact ih hall.2 hl
            exact key _ hinj hlk
          subst ht
          simp only [Nat.beq_refl, cond_true] at hr
          refine qt hd hR (.s (.tup _ #[c3, .bool true] (.cons _ _ _ _ hrep (.cons _ _ _ _ (hb true) .nil)))) ?_ hr
          simp only [Go.execOp, ho, hc, Go.Instr.typeAssert, Sem.run_bind, Go.run_underlying hu, Result.andThen_ok]
          cases dd <;> first | (simp [Sem.run_bind, Sem.run_pure]; done) | exact absurd rfl (hni _)
        · have hbe : qvG t2 t' = false := by
            cases hq : qvG t2 t' with
            | false => rfl
            | true => exact absurd (qvJ hq) he
          simp only [hbe, cond_false] at hr
          have hne : t3 ≠ t := fun e => by
            subst e
            rw [hm] at hlk
            simp only [Option.some.injEq] at hlk
            exact he hlk.symm
          refine qt hd hR (.s (.tup _ #[z, .bool false] (.cons _ _ _ _ hzr (.cons _ _ _ _ (hb false) .nil)))) ?_ hr
          simp only [Go.execOp, ho, hc, Go.Instr.typeAssert, Sem.run_bind, Go.run_underlying hu, Result.andThen_ok]
          cases dd <;> first | (simp [Sem.run_bind, Sem.run_pure, hne, hrz]; done) | exact absurd rfl (hni _)
  · rename_i hv
    rw [hv] at h1
    have h3 := h1.inv_d
    generalize hc : a.eval x = c at h3
    cases h3
    refine qt hd hR (.s (.tup _ #[z, .bool false] (.cons _ _ _ _ hzr (.cons _ _ _ _ (hb false) .nil)))) ?_ hr
    simp only [Go.execOp, ho, hc, Go.Instr.typeAssert, Sem.run_bind, Go.run_underlying hu, Result.andThen_ok]
    cases dd <;> first | (simp [Sem.run_bind, Sem.run_pure, hrz]; done) | exact absurd rfl (hni _)
  · cases hr
theorem qke : ∀ {xs : List D}, D.ones xs = true → xs.flatMap D.cells = xs
  | [], _ => rfl
  | x :: l, h => by
    simp only [D.ones, qvB] at h
    rw [List.flatMap_cons, qke h.2]
    have := h.1
    cases x <;> first | rfl | (simp [D.one] at this)
theorem qkv (hd : kp o a) (hR : Rel M g w β st a.tmps) {t e : TypeId} {n : Nat} {ps : Array (Nat × Operand)} (ho : o.op = .buildSlice t n ps) (hu : P.underlying t = some (.slice e)) {l : L} (hl : lay P e = some l) {zd : D} (hz : yI P e = some zd)
    (hs : zd.cells.length = l.n ∧ 0 < l.n ∧ n * l.n ≤ 16777216) (h1n : l.n = 1) {ps' : List (Nat × O)} (hps : qcE M ps.toList = some ps')
    {r : Or} (hr : qaU zd n ps' st = some r) : Left1 P M g w o a r := by
  obtain ⟨ie, d, hie, hue, rfl⟩ := y3 hl
  obtain ⟨i2, z, hi2, hzz, hzd⟩ := j9 hz
  rw [hie] at hi2
  cases hi2
  simp only at hs h1n
  obtain ⟨hs1, hs2, hs3⟩ := hs
  unfold qaU at hr
  split at hr
  · rename_i xs hxs
    split at hr
    · rename_i hwf
      simp only [okH, Option.some.injEq] at hr
      subst hr
      rw [hs1] at hxs
      have hrep := (qau g.pub w z zd hzd).cells
      have hrep0 := qa9 hrep hs1 hs2 n
      obtain ⟨arr, h1, h2, h3, h4⟩ := qdU (arr := (Array.range (n * ie.size)).map (z.cells[· % z.cells.size]!)) hs2 (qde hR hps) hrep0 (fun x hx => by rw [List.eq_of_mem_replicate hx]; exact hs1) hxs
      rw [List.length_replicate] at h4
      have hn0 : n ≠ 0 := by
        intro e; subst e
        exact hwf.2.2 (List.eq_nil_of_length_eq_zero h4)
      have hrun : (Go.Instr.buildSlice t n (ps.map fun (i, x) => (i, a.eval x))).run P w = .ok (.slice (some ⟨w.heap.size, 0, none⟩) n n) (w.alloc (.cells arr e)) := by
        have : 0 < n * ie.size := Nat.mul_pos (by omega) hs2
        exact Go.run_buildSlice (P := P) w t e n _ arr ie z hu hie hzz (by simpa using hs3) (by omega) (by simpa using h1)
      rw [qke hwf.2.1] at h2
      have hz2 := qfg (M := M) h2 (fun i => Loc.ocell g.n i)
      have hlen : (xs.map V.d).length = arr.size := by
        have := h2.length
        simpa using this
      obtain ⟨k1, k2⟩ := qgN hd hR e (Nat.le_of_eq hlen) hz2
      refine ⟨.slice (some ⟨w.heap.size, 0, none⟩) n n, _, g.withObj w.heap.size, β, .value (w' := w.alloc (.cells arr e)) (by simp only [Go.execOp, ho, Sem.run_bind, hrun, Result.andThen_ok, Sem.run_pure]), ?_, k2⟩
      have hv : RepV M (g.withObj w.heap.size) (w.alloc (.cells arr e)) β (.rs st.H.length 0 xs.length xs.length) (.slice (some ⟨w.heap.size, 0, none⟩) n n) := by
        have := RepS.rs (M := M) (g := g.withObj w.heap.size) (w := w.alloc (.cells arr e)) g.n 0 n n n (Nat.lt_succ_self _) (qvC _) (qvC _)
        rw [← hR.n, h4]
        simpa [Gh.withObj, Gh.φ] using RepV.s (β := β) this
      exact k1.putV hd hv
    · cases hr
  · cases hr
end
end W

/-
  Rows that may be written: made, grown, turned into data.
-/
set_option linter.unusedSimpArgs false
set_option linter.unusedVariables false
namespace W
open Go (World Value Addr IntKind Program TypeId FuncId Operand Act Oper Next Result Sem BinOp UnOp)
section
variable {P : Program} {M : Maps} {g : Gh} {w : World} {β : Nat → Nat} {st : St} {o : Oper} {a : Act}
theorem Rel.kill {tmps : Array Value} (hR : Rel M g w β st tmps) (id lo : Nat) : Rel M g w β { st with H := k9 st.H id .dead, lo := lo } tmps := by
  refine ⟨by simpa [k9] using hR.n, hR.e, fun i o2 ho2 => ?_, hR.fresh, hR.gl⟩
  simp only [k9, List.getElem?_set] at ho2
  split at ho2
  · split at ho2
    · cases ho2; exact .dead
    · cases ho2
  · exact hR.h i o2 ho2
theorem Rel.adopt {tmps : Array Value} (hR : Rel M g w β st tmps) {id : Nat} (hdead : st.H[id]? = some .dead) {b c : Nat} (ho : g.own b = some (.oblk id)) (hb : b < w.heap.size) {w' : World} (hw : Wr g w w' b) {ob : Obj}
    (hrep : RepO M (g.withObj b c) w' g.n ob) : Rel M (g.withObj b c) w' β { st with H := st.H ++ [ob] } tmps ∧ Evo g w (g.withObj b c) w' := by
  have hg : Grow g w (g.withObj b c) w' := ⟨by rw [hw.size]; exact qvC _, fun _ => qvC _, hw.grow.cell⟩
  have hk : ∀ ℓ, ℓ ≠ .oblk id → Kept g w (g.withObj b c) w' ℓ := fun ℓ hℓ => ⟨fun x hx => by
    have hne : x ≠ b := fun e => by subst e; rw [ho] at hx; exact hℓ (Option.some.inj hx).symm
    exact ⟨by simp [Gh.withObj, hne, hx], hw.other x hne, rfl⟩⟩
  have hn : g.n ≤ (g.withObj b c).n := Nat.le_succ _
  have hφ : ∀ id, id < g.n → (g.withObj b c).Φ id = g.Φ id := fun id hi => by
    have : id ≠ g.n := by omega
    simp [Gh.withObj, this]
  refine ⟨⟨?_, fun k => ?_, fun i ob' hob => ?_, fun x hx => ?_, hR.gl.mono hg⟩, hg, hn, hφ, fun x hx hxo => ?_, hw.io⟩
  · show g.n + 1 = (st.H ++ [ob]).length
    simp [hR.n]
  · exact (hR.e k).mono hg hn hφ (hk _ (by simp)) (hk _ (by simp)) (fun i => hk _ (by simp))
  · rw [List.getElem?_append] at hob
    split at hob
    · rename_i hlt
      by_cases hi : i = id
      · subst hi
        rw [hdead] at hob; cases hob
        exact .dead
      · exact (hR.h i ob' hob).mono hg hn hφ (by rw [hR.n]; exact hlt) (hk _ (by simp [hi])) (fun i => hk _ (by simp))
    · rename_i hge
      have : i - st.H.length = 0 := by
        rcases Nat.eq_zero_or_pos (i - st.H.length) with h0 | h0
        · exact h0
        · rw [List.getElem?_eq_none (by simp; omega)] at hob; cases hob
      rw [this] at hob
      simp only [qvS, Option.some.injEq] at hob
      subst hob
      have : i = g.n := by rw [hR.n]; omega
      rw [this]; exact hrep
  · rw [hw.size] at hx
    have hne : x ≠ b := by omega
    have := hR.fresh x hx
    simpa [Gh.withObj, hne] using this
  · have hne : x ≠ b := fun e => by
      subst e; rw [ho] at hxo
      rcases hxo with h | h <;> cases h
    exact ⟨by simp [Gh.withObj, hne], hw.other x hne, rfl⟩
theorem qjf {tmps : Array Value} (hR : Rel M g w β st tmps) (l : L) {cs : List V} {arr : Array Value} (T : TypeId) {c : Nat} (hl : cs.length ≤ arr.size) (hc : c ≤ arr.size)
    (hr : ∀ (i : Nat) y u, cs[i]? = some y → arr[i]? = some u → RepS M g w y u) :
    Rel M (g.withObj w.heap.size c) (w.alloc (.cells arr T)) β { st with H := st.H ++ [.row l cs] } tmps ∧ Evo g w (g.withObj w.heap.size c) (w.alloc (.cells arr T)) := by
  have hf := hR.fr
  refine hR.newObj (.row l cs) (.cells arr T) ?_
  have hg : Grow g w (g.withObj w.heap.size c) (w.alloc (.cells arr T)) := ⟨by simp, fun _ => qvC _, fun b off ho => by
    have hb : b < w.heap.size := by
      rcases Nat.lt_or_ge b w.heap.size with h | h
      · exact h
      · rw [(hf.f b h).2] at ho; omega
    exact yk (zC w _ hb) off⟩
  refine .row l cs arr T ?_ ?_ ?_ hl ?_ (fun i y u hy hu => (hr i y u hy hu).mono hg (Nat.le_succ _) (fun id hi => ?_) (hr i y u hy hu).ref)
  · simp only [Gh.withObj, Gh.φ, if_true]; exact z1 w _
  · simp [Gh.withObj, Gh.φ]
  · simp only [Gh.withObj, Gh.φ, if_true]; exact (hf.f _ (qvC _)).2
  · simpa [Gh.withObj, Gh.ζ] using hc
  · have : id ≠ g.n := by omega
    simp [Gh.withObj, this]
theorem qi4 {l : L} {v : V} {c : Value} {ys : List D} (h : RepV M g w β v c) (hs : qhy l v = some ys) (hh : zj l.n ys = true) : ∃ news, Src P g w l.n c ys news := by
  unfold qhy at hs
  split at hs
  · simp only [Option.some.injEq] at hs; subst hs
    have h2 := h.inv_d
    cases h2
    exact ⟨[], qk1 _⟩
  · simp only [Option.some.injEq] at hs; subst hs
    exact qfB h.inv_d hh
  · rw [qvD] at hs
    split at hs
    · rename_i t h1
      simp only [Option.some.injEq] at hs; subst hs
      obtain ⟨z, e1, f1⟩ := qb8 h.inv_d
      have := qfe (P := P) (g := g) (w := w) (z := z)
      rw [f1] at this
      rw [e1, qvJ h1]
      exact ⟨_, this⟩
    · cases hs
  · cases hs
theorem qfz {ys : List D} {news : List Value} (h : RepDL g.pub w (ys.flatMap D.cells) news) : ∀ (i : Nat) y u, (qb3 ys)[i]? = some y → news[i]? = some u → RepS M g w y u := fun i y u hy hu => by
  obtain ⟨u', hu', hr⟩ := (RepSL.ofD (M := M) h).get i y hy
  rw [hu] at hu'; cases hu'
  exact hr
theorem qb9 {ys : List D} {n : Nat} (h : ∀ x ∈ ys, x.cells.length = n) : (qb3 ys).length = ys.length * n := by
  rw [qb3, List.length_map, z8 ys _ h]
theorem qlq (hd : kp o a) (hR : Rel M g w β st a.tmps) {t u e : TypeId} {i : Go.TypeInfo} {z : Value} (ht : P.underlying t = some (.slice e)) (hu : qim P u) (hi : P.info? e = some i) (hz : i.zero = some z) (hzs : z.cells.size = i.size)
    {x y : Operand} {c : Go.Call} (ho : o.op = .call c) (hcal : c.callee = .builtin .append) (hargs : c.args.toList = [x, y]) (hats : c.argTypes.toList = [t, u]) {l : L} (hl : l.n = i.size)
    {x' y' : O} (hx : opnd M false x = some x') (hy : opnd M false y = some y') {r : Or} (hr : qaD l i.bytes x' y' st = some r) : Left1 P M g w o a r := by
  have h1 := kr hR hx
  have h2 := kr hR hy
  have hsm : SameMem w w.drew := ⟨rfl, rfl, rfl⟩
  unfold qaD at hr
  split at hr
  · rename_i ys hys
    split at hr
    · rename_i hxv
      rw [hxv] at h1
      rw [qvD] at hr
      split at hr
      · rename_i hb
        simp only [qvB] at hb
        obtain ⟨news, hs⟩ := qi4 (P := P) h2 hys hb.1
        rw [hl] at hs
        have hxe : a.eval x = .slice none 0 0 := by
          have h3 := h1.inv_d
          generalize a.eval x = cc at h3
          cases h3; rfl
        split at hr
        · exact qt hd hR (.s (.d _ _ .nil)) (jW (args := []) (ats := []) ho hcal hargs hats (fun ty => by rw [hxe]; exact qg0 ht hu hi hs)) hr
        · rename_i y0 ys0
          simp only [okH, Option.some.injEq] at hr
          subst hr
          have hR' := hR.sameMem hsm
          have hln : news.length = (y0 :: ys0).length * i.size := by rw [← hs.rep.length, z8 _ _ hs.sz]
          have hgc := qcy w hzs (y0 :: ys0).length 0 e hln
          have hge := Go.grownCap_ge w (y0 :: ys0).length 0 e
          obtain ⟨k1, k2⟩ := qjf hR' l (cs := qb3 (y0 :: ys0)) (arr := news.toArray ++ Go.Builtin.zeroCells z.cells (Go.grownCap w (y0 :: ys0).length 0 e - (y0 :: ys0).length)) e (c := Go.grownCap w (y0 :: ys0).length 0 e * i.size)
            (by rw [qb9 hs.sz]; exact Nat.le_trans (Nat.mul_le_mul_right _ hge) hgc) hgc (fun j q v hq hv => by
              have hj : j < news.length := by
                have := (List.getElem?_eq_some_iff.1 hq).1
                rw [qb9 hs.sz] at this
                rw [hln]; exact this
              refine qfz (hs.rep.mono (hsm.grow g).pub (hsm.grow g).cell) j q v hq ?_
              rw [Array.getElem?_append_left (by simpa using hj)] at hv
              simpa using hv)
          have e0 : w.drew.heap.size = w.heap.size := rfl
          rw [e0] at k1 k2
          refine ⟨.slice (some ⟨w.heap.size, 0, none⟩) (y0 :: ys0).length (Go.grownCap w (y0 :: ys0).length 0 e), _, _, β, .value (jW (args := []) (ats := []) ho hcal hargs hats (fun ty => ?_)), k1.putV hd (.s ?_), (hsm.evo g).trans k2⟩
          · rw [hxe]
            have hrun' := qaN (ty := ty) ht hu hi hz hs (base := none) (sLen := 0) (sCap := 0) (olds := []) rfl (by simp) (by rw [qvF]; exact hb.2)
            simpa using hrun'
          · have := RepS.row (M := M) (g := g.withObj w.heap.size (Go.grownCap w (y0 :: ys0).length 0 e * i.size)) (w := w.drew.alloc (.cells (news.toArray ++ Go.Builtin.zeroCells z.cells (Go.grownCap w (y0 :: ys0).length 0 e - (y0 :: ys0).length)) e)) g.n i.size (y0 :: ys0).length (Go.grownCap w (y0 :: ys0).length 0 e) (Nat.lt_succ_self _) hge (by simp [Gh.withObj, Gh.ζ])
            rw [← hR.n, hl]
            simpa [Gh.withObj, Gh.φ] using this
      · cases hr
    · rename_i id sz len hxv
      rw [hxv] at h1
      split at hr
      · rename_i l' cs hob
        rw [qvD] at hr
        split at hr
        · rename_i hb
          simp only [qvB] at hb
          obtain ⟨hb1, hb2, hb3, hb4⟩ := hb
          obtain ⟨news, hs⟩ := qi4 (P := P) h2 hys hb3
          have hsz : sz = i.size := (qvJ hb1).trans hl
          have hcl : cs.length = len * sz := qvJ hb2
          subst hsz
          rw [hl] at hs
          simp only [okH, Option.some.injEq] at hr
          subst hr
          generalize hxe : a.eval x = xc at h1
          cases h1 with
          | s h1 =>
          cases h1 with
          | row _ _ _ cap hid hcap hζ =>
          cases hR.h id _ hob with
          | row _ _ arr T hbk hown hpub hle hζa hcr =>
          have hln : news.length = ys.length * i.size := by rw [← hs.rep.length, z8 _ _ hs.sz]
          have hlt : g.φ id < w.heap.size := (Array.getElem?_eq_some_iff.1 hbk).1
          have hRk := hR.kill id (min st.lo id)
          by_cases hroom : len + ys.length ≤ cap
          · have hmul : len * i.size + ys.length * i.size ≤ cap * i.size := by rw [← Nat.add_mul]; exact Nat.mul_le_mul_right _ hroom
            have hst := yC P (g.φ id) (len * i.size) T (0, 0) news 0 arr w hbk (fun j _ _ => by simp) (by omega) hs.one
            simp only [Nat.add_zero] at hst
            have hw := Wr.setRow (w := w) (arr.toList.take (len * i.size) ++ news ++ arr.toList.drop (len * i.size + news.length)).toArray hpub
            have hdead : ({ st with H := k9 st.H id .dead, lo := min st.lo id } : St).H[id]? = some .dead := by
              simp only [k9, List.getElem?_set]
              simp [(List.getElem?_eq_some_iff.1 hob).1]
            have hRow := Go.setRow_heap w (g.φ id) arr (arr.toList.take (len * i.size) ++ news ++ arr.toList.drop (len * i.size + news.length)).toArray T (0, 0) hbk
            have hgr : Grow g w (g.withObj (g.φ id) (g.ζ id)) (w.setRow (g.φ id) (arr.toList.take (len * i.size) ++ news ++ arr.toList.drop (len * i.size + news.length)).toArray) := ⟨by rw [hw.size]; exact qvC _, fun _ => qvC _, hw.grow.cell⟩
            have hφ : ∀ id', id' < g.n → (g.withObj (g.φ id) (g.ζ id)).Φ id' = g.Φ id' := fun id' hi => by
              have : id' ≠ g.n := by omega
              simp [Gh.withObj, this]
            have up : ∀ {q : V} {v : Value}, RepS M g w q v → RepS M (g.withObj (g.φ id) (g.ζ id)) (w.setRow (g.φ id) (arr.toList.take (len * i.size) ++ news ++ arr.toList.drop (len * i.size + news.length)).toArray) q v := fun h => h.mono hgr (Nat.le_succ _) hφ h.ref
            have hsa : arr.size ≤ (arr.toList.take (len * i.size) ++ news ++ arr.toList.drop (len * i.size + news.length)).toArray.size := by simp; omega
            have eφ : (g.withObj (g.φ id) (g.ζ id)).φ g.n = g.φ id := by simp [Gh.withObj, Gh.φ]
            obtain ⟨k1, k2⟩ := hRk.adopt hdead (b := g.φ id) (c := g.ζ id) hown hlt hw (ob := .row l' (cs ++ qb3 ys)) (.row _ _ _ T (by rw [eφ]; exact hRow) (by rw [eφ]; simp [Gh.withObj]) (by rw [eφ]; exact hpub)
              (by rw [List.length_append, qb9 hs.sz]; simp; omega) (by
                have : (g.withObj (g.φ id) (g.ζ id)).ζ g.n = g.ζ id := by simp [Gh.withObj, Gh.ζ]
                rw [this]; exact Nat.le_trans hζa hsa) (fun j q v hq hv => by
                simp only [List.getElem?_toArray] at hv
                have t1 : (arr.toList.take (len * i.size)).length = cs.length := by simp; omega
                simp only [List.append_assoc] at hv
                rw [List.getElem?_append, t1] at hv
                rw [List.getElem?_append] at hq
                split at hq
                · rename_i hj
                  simp only [hj, if_true] at hv
                  rw [List.getElem?_take] at hv
                  simp only [show j < len * i.size by omega, if_true] at hv
                  exact up (hcr j q v hq (by simpa using hv))
                · rename_i hj
                  simp only [hj, if_false] at hv
                  have hj2 : j - cs.length < news.length := by
                    have := (List.getElem?_eq_some_iff.1 hq).1
                    rw [qb9 hs.sz] at this
                    omega
                  rw [List.getElem?_append_left hj2] at hv
                  exact up (qfz hs.rep _ q v hq hv)))
            refine ⟨.slice (some ⟨g.φ id, 0, none⟩) (len + ys.length) cap, _, _, β, .value (jW (args := []) (ats := []) ho hcal hargs hats (fun ty => ?_)), k1.putV hd (.s ?_), k2⟩
            · rw [hxe]
              exact qeA ht hu hi hs hroom (by rw [qvF]; exact hst)
            · have := RepS.row (M := M) (g := g.withObj (g.φ id) (g.ζ id)) (w := w.setRow (g.φ id) (arr.toList.take (len * i.size) ++ news ++ arr.toList.drop (len * i.size + news.length)).toArray) g.n i.size (len + ys.length) cap (Nat.lt_succ_self _) hroom (by
                have : (g.withObj (g.φ id) (g.ζ id)).ζ g.n = g.ζ id := by simp [Gh.withObj, Gh.ζ]
                rw [this]; exact hζ)
              rw [← hR.n]
              simpa [Gh.withObj, Gh.φ] using this
          · have hlv : (arr.toList.take (len * i.size)).length = len * i.size := by simp; omega
            have hold : ∀ w', SameMem w w' → (Go.Builtin.firstCells i.size len (.slice (some ⟨g.φ id, 0, none⟩) len cap)).run P w' = .ok (arr.toList.take (len * i.size)).toArray w' := fun w' hw' =>
              Go.run_firstCells_some (P := P) w' i.size len _ _ _ _ hlv (fun j v hj => by
                rw [jp, qvF]
                have hj' := (List.getElem?_eq_some_iff.1 hj).1
                rw [List.getElem?_take] at hj
                simp only [show j < len * i.size by omega, if_true] at hj
                simp only [World.cell?, hw'.heap, hbk]
                simpa using hj)
            have hR' := hRk.sameMem hsm
            have hlall : (arr.toList.take (len * i.size) ++ news).length = (len + ys.length) * i.size := by rw [List.length_append, hlv, hln, Nat.add_mul]
            have hgc := qcy w hzs (len + ys.length) cap e hlall
            have hge := Go.grownCap_ge w (len + ys.length) cap e
            have earr : (arr.toList.take (len * i.size)).toArray ++ news.toArray ++ Go.Builtin.zeroCells z.cells (Go.grownCap w (len + ys.length) cap e - (len + ys.length)) = (arr.toList.take (len * i.size) ++ news).toArray ++ Go.Builtin.zeroCells z.cells (Go.grownCap w (len + ys.length) cap e - (len + ys.length)) := by
              congr 1; apply Array.ext'; simp
            obtain ⟨k1, k2⟩ := qjf hR' l' (cs := cs ++ qb3 ys) (arr := (arr.toList.take (len * i.size) ++ news).toArray ++ Go.Builtin.zeroCells z.cells (Go.grownCap w (len + ys.length) cap e - (len + ys.length))) e (c := Go.grownCap w (len + ys.length) cap e * i.size)
              (by rw [List.length_append, qb9 hs.sz, hcl, ← Nat.add_mul]; exact Nat.le_trans (Nat.mul_le_mul_right _ hge) hgc) hgc (fun j q v hq hv => by
                have hj : j < (arr.toList.take (len * i.size) ++ news).length := by
                  have := (List.getElem?_eq_some_iff.1 hq).1
                  rw [List.length_append, qb9 hs.sz, hcl, ← Nat.add_mul] at this
                  rw [hlall]; exact this
                rw [Array.getElem?_append_left (by simpa using hj)] at hv
                simp only [List.getElem?_toArray] at hv
                have t1 : (arr.toList.take (len * i.size)).length = cs.length := by omega
                rw [List.getElem?_append, t1] at hv
                rw [List.getElem?_append] at hq
                split at hq
                · rename_i hj
                  simp only [hj, if_true] at hv
                  rw [List.getElem?_take] at hv
                  simp only [show j < len * i.size by omega, if_true] at hv
                  have h5 := hcr j q v hq (by simpa using hv)
                  exact h5.mono (hsm.grow g) (qvC _) (fun _ _ => rfl) h5.ref
                · rename_i hj
                  simp only [hj, if_false] at hv
                  exact qfz (hs.rep.mono (hsm.grow g).pub (hsm.grow g).cell) _ q v hq hv)
            have e0 : w.drew.heap.size = w.heap.size := rfl
            rw [e0] at k1 k2
            refine ⟨.slice (some ⟨w.heap.size, 0, none⟩) (len + ys.length) (Go.grownCap w (len + ys.length) cap e), _, _, β, .value (jW (args := []) (ats := []) ho hcal hargs hats (fun ty => ?_)), k1.putV hd (.s ?_), (hsm.evo g).trans k2⟩
            · rw [hxe]
              have := qaN (ty := ty) ht hu hi hz hs (hold _ hsm) (by omega) hb4
              rw [earr] at this
              exact this
            · have := RepS.row (M := M) (g := g.withObj w.heap.size (Go.grownCap w (len + ys.length) cap e * i.size)) (w := w.drew.alloc (.cells ((arr.toList.take (len * i.size) ++ news).toArray ++ Go.Builtin.zeroCells z.cells (Go.grownCap w (len + ys.length) cap e - (len + ys.length))) e)) g.n i.size (len + ys.length) (Go.grownCap w (len + ys.length) cap e) (Nat.lt_succ_self _) hge (by simp [Gh.withObj, Gh.ζ])
              rw [← hR.n]
              simpa [Gh.withObj, Gh.φ] using this
        · cases hr
      · cases hr
    · cases hr
  · cases hr
theorem qmZ (hd : kp o a) (hR : Rel M g w β st a.tmps) {t e : TypeId} {n : Nat} {ps : Array (Nat × Operand)} (ho : o.op = .buildSlice t n ps) (hu : P.underlying t = some (.slice e)) {l : L} (hl : lay P e = some l) {zd : D} (hz : yI P e = some zd)
    (hs : zd.cells.length = l.n ∧ 0 < l.n ∧ n * l.n ≤ 16777216) {ps' : List (Nat × O)} (hps : qcE M ps.toList = some ps')
    {r : Or} (hr : qcY l zd n ps' st = some r) : Left1 P M g w o a r := by
  obtain ⟨ie, d, hie, hue, rfl⟩ := y3 hl
  obtain ⟨i2, z, hi2, hzz, hzd⟩ := j9 hz
  rw [hie] at hi2
  cases hi2
  simp only at hs
  obtain ⟨hs1, hs2, hs3⟩ := hs
  unfold qcY at hr
  split at hr
  · rename_i xs hxs
    split at hr
    · rename_i hwf
      simp only [okH, Option.some.injEq] at hr
      subst hr
      rw [hs1] at hxs
      have hrep := (qau g.pub w z zd hzd).cells
      have hrep0 := qa9 hrep hs1 hs2 n
      obtain ⟨arr, h1, h2, h3, h4⟩ := qdU (arr := (Array.range (n * ie.size)).map (z.cells[· % z.cells.size]!)) hs2 (qde hR hps) hrep0 (fun x hx => by rw [List.eq_of_mem_replicate hx]; exact hs1) hxs
      rw [List.length_replicate] at h4
      have hn0 : n ≠ 0 := by
        intro e; subst e
        exact hwf.2 (List.eq_nil_of_length_eq_zero h4)
      have hrun : (Go.Instr.buildSlice t n (ps.map fun (i, x) => (i, a.eval x))).run P w = .ok (.slice (some ⟨w.heap.size, 0, none⟩) n n) (w.alloc (.cells arr e)) := by
        have : 0 < n * ie.size := Nat.mul_pos (by omega) hs2
        exact Go.run_buildSlice (P := P) w t e n _ arr ie z hu hie hzz (by simpa using hs3) (by omega) (by simpa using h1)
      have hlen : (qb3 xs).length = arr.size := by
        have := h2.length
        simpa [qb3] using this
      have hln : arr.size = n * ie.size := by rw [← hlen, qb9 h3, h4]
      obtain ⟨k1, k2⟩ := qjf hR ⟨ie.size, qgh d⟩ (cs := qb3 xs) (arr := arr) e (c := n * ie.size) (Nat.le_of_eq hlen) (by rw [hln]; exact qvC _) (fun j q v hq hv => qfz h2 j q v hq (by simpa using hv))
      refine ⟨.slice (some ⟨w.heap.size, 0, none⟩) n n, _, _, β, .value (w' := w.alloc (.cells arr e)) (by simp only [Go.execOp, ho, Sem.run_bind, hrun, Result.andThen_ok, Sem.run_pure]), k1.putV hd (.s ?_), k2⟩
      have := RepS.row (M := M) (g := g.withObj w.heap.size (n * ie.size)) (w := w.alloc (.cells arr e)) g.n ie.size n n (Nat.lt_succ_self _) (qvC _) (by simp [Gh.withObj, Gh.ζ])
      rw [← hR.n, h4]
      simpa [Gh.withObj, Gh.φ] using this
    · cases hr
  · cases hr
end
end W

/-
  Rows become data.
-/
set_option linter.unusedSimpArgs false
set_option linter.unusedVariables false
namespace W
open Go (World Value Addr IntKind Program TypeId FuncId Operand Act Oper Next Result Sem BinOp UnOp)
section
variable {P : Program} {M : Maps} {g : Gh} {w : World} {β : Nat → Nat} {st : St} {o : Oper} {a : Act}
theorem qjq {l : L} (hn : 0 < l.n) (ha : l.agg = true ∨ l.n = 1) : ∀ (n : Nat) {ds : List D}, ds.length = n * l.n → D.ones ds = true → (chunk l n ds).flatMap D.cells = ds ∧ (∀ x ∈ chunk l n ds, x.cells.length = l.n) ∧ (chunk l n ds).length = n
  | 0, ds, h, _ => by
    have : ds = [] := List.eq_nil_of_length_eq_zero (by simpa using h)
    subst this
    exact ⟨rfl, by simp [chunk], rfl⟩
  | n + 1, ds, h, h1 => by
    have hm : (n + 1) * l.n = n * l.n + l.n := Nat.succ_mul _ _
    have hones : ∀ (k : Nat) (ds : List D), D.ones ds = true → D.ones (ds.drop k) = true := by
      intro k
      induction k with
      | zero => intro ds h; exact h
      | succ k ih => intro ds h; cases ds with
        | nil => rfl
        | cons x l => simp only [D.ones, qvB] at h; exact ih l h.2
    obtain ⟨i1, i2, i3⟩ := qjq hn ha n (ds := ds.drop l.n) (by rw [List.length_drop]; omega) (hones _ _ h1)
    have hc : D.cells (bif l.agg then .agg (ds.take l.n) else ds.headD .nil) = ds.take l.n ∧ (ds.take l.n).length = l.n := by
      refine ⟨?_, by rw [List.length_take]; omega⟩
      cases hb : l.agg with
      | true => rfl
      | false =>
        have hn1 : l.n = 1 := by rcases ha with h | h; · rw [hb] at h; cases h
                                 · exact h
        cases ds with
        | nil => simp at h; omega
        | cons x r =>
          simp only [D.ones, qvB] at h1
          simp only [cond_false, List.headD_cons, hn1, List.take_succ_cons, List.take_zero]
          exact qd5 h1.1
    refine ⟨?_, fun x hx => ?_, by simp [chunk, i3]⟩
    · rw [chunk, List.flatMap_cons, hc.1, i1, List.take_append_drop]
    · rw [chunk] at hx
      rcases List.mem_cons.1 hx with rfl | hx
      · rw [hc.1]; exact hc.2
      · exact i2 x hx
def Gh.pubd (g : Gh) (b k : Nat) : Gh := { n := g.n, Φ := g.Φ, pub := fun x => if x = b then k else g.pub x, own := fun x => if x = b then none else g.own x }
def Kept' (g : Gh) (w : World) (g' : Gh) (w' : World) : Prop := ∀ ℓ, (∀ id, ℓ ≠ .oblk id) → Kept g w g' w' ℓ
theorem Rel.freeze {tmps : Array Value} (hR : Rel M g w β st tmps) {id sz len : Nat} {l : L} {cs : List V} {ds : List D} (hob : st.H[id]? = some (.row l cs)) (hds : qaA cs = some ds) (hones : D.ones ds = true) (hcl : cs.length = len * sz) (hl : l.n = sz) (hlen : 0 < len) (hsz : 0 < sz) (ha : l.agg = true ∨ sz = 1) (lo : Nat) :
    ∃ g', Rel M g' w β { st with H := k9 st.H id .dead, lo := lo } tmps ∧ Evo g w g' w ∧ Kept' g w g' w ∧ ∀ c, RepS M g w (.row id sz len) c → RepS M g' w (.d (.sl (chunk l len ds))) c := by
  subst hl
  cases hR.h id _ hob with
  | row _ _ arr T hb ho hp hle hζ hr =>
  have hbl : g.φ id < w.heap.size := (Array.getElem?_eq_some_iff.1 hb).1
  have hg : Grow g w (g.pubd (g.φ id) arr.size) w := ⟨qvC _, fun x => by
    show g.pub x ≤ (if x = g.φ id then arr.size else g.pub x)
    split
    · rename_i e; subst e; rw [hp]; exact Nat.zero_le _
    · exact qvC _, fun _ _ _ => rfl⟩
  have hk : ∀ ℓ, ℓ ≠ .oblk id → Kept g w (g.pubd (g.φ id) arr.size) w ℓ := fun ℓ hℓ => ⟨fun x hx => by
    have hne : x ≠ g.φ id := by
      intro e; subst e
      rw [ho] at hx
      exact hℓ (Option.some.inj hx).symm
    exact ⟨by simp [Gh.pubd, hne]; exact hx, rfl, by simp [Gh.pubd, hne]⟩⟩
  have hE : Evo g w (g.pubd (g.φ id) arr.size) w := ⟨hg, qvC _, fun _ _ => rfl, fun x hx hxo => by
    have hne : x ≠ g.φ id := by
      intro e; subst e; rw [ho] at hxo
      rcases hxo with h | h <;> cases h
    exact ⟨by simp [Gh.pubd, hne], rfl, by simp [Gh.pubd, hne]⟩, rfl, rfl⟩
  refine ⟨g.pubd (g.φ id) arr.size, ⟨by simpa [k9, Gh.pubd] using hR.n, fun k => ?_, fun i ob hi => ?_, fun x hx => ?_, hR.gl.mono hg⟩, hE, fun ℓ h => hk ℓ (h id), fun c hc => ?_⟩
  · exact (hR.e k).mono hg (qvC _) (fun _ _ => rfl) (hk _ (by simp)) (hk _ (by simp)) (fun i => hk _ (by simp))
  · simp only [k9, List.getElem?_set] at hi
    split at hi
    · split at hi
      · cases hi; exact .dead
      · cases hi
    · rename_i hne
      exact (hR.h i ob hi).mono hg (qvC _) (fun _ _ => rfl) (by rw [hR.n]; exact (List.getElem?_eq_some_iff.1 hi).1) (hk _ (by simp; exact fun e => hne e.symm)) (fun i => hk _ (by simp))
  · have hne : x ≠ g.φ id := by omega
    have := hR.fresh x hx
    simpa [Gh.pubd, hne] using this
  · cases hc with
    | row _ _ _ cap hid hcap hζ2 =>
    obtain ⟨vs, hvl, hrep, hcell⟩ := qgx (M := M) (g := g) (off := 0) (n := cs.length) (cs := cs) (by simpa using hds) hle (by simp) hb (fun i x v hx hv => by
      have h := hr i x v hx hv
      have e : yS x = x := by cases h <;> rfl
      rw [e]; exact h)
    have hdl : ds.length = len * l.n := by rw [hrep.length, hvl, hcl]
    obtain ⟨c1, c2, c3⟩ := qjq hsz ha len hdl hones
    have hrep' : RepDL (g.pubd (g.φ id) arr.size).pub w ds vs := hrep.mono hg.pub hg.cell
    refine .d _ _ ?_
    have e : Value.slice (some ⟨g.φ id, 0, none⟩) len cap = Value.slice (some ⟨g.φ id, 0, none⟩) (chunk l len ds).length cap := by rw [c3]
    show RepD _ _ _ (Value.slice (some ⟨g.φ id, 0, none⟩) len cap)
    rw [e]
    refine .sl _ (g.φ id) 0 cap l.n vs (by intro e; rw [e] at c3; simp at c3; omega) c2 (by rw [c1]; exact hrep') hcell ?_ (by rw [c3]; exact hcap) (hrep.ones hones)
    show 0 + vs.length ≤ (if g.φ id = g.φ id then arr.size else _)
    rw [if_pos rfl, hvl]
    omega
theorem Rel.reslot {tmps : Array Value} (hR : Rel M g w β st tmps) {n : Nat} {v : V} (hv : RepT M g w β n v (tmps.getD n Go.undef)) : Rel M g w β { st with env := (n, v) :: st.env } tmps :=
  ⟨hR.n, fun k => by
    show RepT M g w β k (get k ((n, v) :: st.env)) _
    rw [kD]
    split
    · rename_i e; subst e; exact hv
    · exact hR.e k, hR.h, hR.fresh, hR.gl⟩
theorem Kept'.trans {g g' g'' : Gh} {w w' w'' : World} (h : Kept' g w g' w') (h' : Kept' g' w' g'' w'') : Kept' g w g'' w'' := fun ℓ hℓ => ⟨fun b hb => by
  obtain ⟨k1, k2, k3⟩ := (h ℓ hℓ).k b hb
  obtain ⟨j1, j2, j3⟩ := (h' ℓ hℓ).k b k1
  exact ⟨j1, j2.trans k2, j3.trans k3⟩⟩
theorem qlr {tmps : Array Value} {s : Nat} {arr : Array Value} : ∀ (l : List V) (k : Nat) {g : Gh} {H : List Obj} {lo : Nat} {l' : List V} {H' : List Obj} {lo' : Nat}, Rel M g w β ⟨st.env, H, lo⟩ tmps →
    (∀ (i : Nat) x v, l[i]? = some x → arr[k + i]? = some v → RepC M g w (.bcell s (k + i)) x v) → qh0 l H lo = some (l', H', lo') →
    ∃ g', Rel M g' w β ⟨st.env, H', lo'⟩ tmps ∧ Evo g w g' w ∧ Kept' g w g' w ∧ l'.length = l.length ∧ (∀ (i : Nat) x v, l'[i]? = some x → arr[k + i]? = some v → RepC M g' w (.bcell s (k + i)) x v)
  | [], k, g, H, lo, l', H', lo', hR, hr, h => by
    simp only [qh0, Option.some.injEq, Prod.mk.injEq] at h
    obtain ⟨rfl, rfl, rfl⟩ := h
    exact ⟨g, hR, Evo.refl g w, fun ℓ _ => Kept.refl g w ℓ, rfl, hr⟩
  | v :: l, k, g, H, lo, l', H', lo', hR, hr, h => by
    simp only [qh0] at h
    split at h
    · rename_i v' H1 lo1 h1
      split at h
      · rename_i r H2 lo2 h2
        simp only [Option.some.injEq, Prod.mk.injEq] at h
        obtain ⟨rfl, rfl, rfl⟩ := h
        have step : ∃ g1, Rel M g1 w β ⟨st.env, H1, lo1⟩ tmps ∧ Evo g w g1 w ∧ Kept' g w g1 w ∧ ∀ u, arr[k]? = some u → RepC M g1 w (.bcell s k) v' u := by
          have h0 : ∀ u, arr[k]? = some u → RepC M g w (.bcell s k) v u := fun u hu => hr 0 v u rfl hu
          by_cases hrow : ∃ id sz len, v = .row id sz len
          · obtain ⟨id, sz, len, rfl⟩ := hrow
            obtain ⟨l0, cs, ds, e1, e2, e3, e4, e5, e6, e7, e8, rfl, rfl, rfl⟩ := qiJ h1
            obtain ⟨g1, k1, k2, k3, k4⟩ := hR.freeze (st := ⟨st.env, H, lo⟩) e1 e2 e3 e4 e5 e6 e7 e8 (min lo id)
            refine ⟨g1, k1, k2, k3, fun u hu => ?_⟩
            cases h0 u hu with
            | s h => exact .s (k4 _ h)
          · have e : qhs v H lo = some (v, H, lo) := by
              cases v <;> first | rfl | exact absurd ⟨_, _, _, rfl⟩ hrow
            rw [e] at h1
            simp only [Option.some.injEq, Prod.mk.injEq] at h1
            obtain ⟨rfl, rfl, rfl⟩ := h1
            exact ⟨g, hR, Evo.refl g w, fun ℓ _ => Kept.refl g w ℓ, h0⟩
        obtain ⟨g1, k1, k2, k3, k4⟩ := step
        obtain ⟨g2, j1, j2, j3, j4, j5⟩ := qlr l (k + 1) (g := g1) k1 (fun i x v hx hv => by
          have := hr (i + 1) x v (by simpa using hx) (by rw [← hv]; congr 1; omega)
          rw [show k + 1 + i = k + (i + 1) by omega]
          exact this.mono k2.toGrow k2.n k2.φ (k3 _ (by simp))) h2
        refine ⟨g2, j1, k2.trans j2, k3.trans j3, by simp [j4], fun i x v hx hv => ?_⟩
        cases i with
        | zero =>
          simp only [qvS, Option.some.injEq] at hx
          subst hx
          exact (k4 v hv).mono j2.toGrow j2.n j2.φ (j3 _ (by simp))
        | succ i =>
          have := j5 i x v (by simpa using hx) (by rw [← hv]; congr 1; omega)
          rwa [show k + 1 + i = k + (i + 1) by omega] at this
      · cases h
    · cases h
theorem qty {tmps : Array Value} (hR : Rel M g w β st tmps) {n : Nat} {r : Or} (hr : eFz n st = some r) : r.pan = false ∧ ∃ g', Rel M g' w β r.st tmps ∧ Evo g w g' w := by
  unfold eFz at hr
  split at hr
  · rename_i cs hbox
    split at hr
    · rename_i cs' H' lo' h1
      simp only [okH, Option.some.injEq] at hr
      subst hr
      have hs := hR.e n
      rw [hbox] at hs
      obtain ⟨arr, hr0⟩ : ∃ arr : Array Value, (∃ T, w.heap[β n]? = some (.cells arr T (0, 0))) ∧ cs.length = arr.size ∧ (∀ (i : Nat) x v, cs[i]? = some x → arr[i]? = some v → RepC M g w (.bcell n i) x v) := by
        generalize tmps.getD n Go.undef = c at hs
        cases hs with
        | s h => cases h
        | box _ arr T hb ho hp hl hr => exact ⟨arr, ⟨T, hb⟩, hl, hr⟩
      obtain ⟨⟨T0, hb0⟩, hl0, hr0⟩ := hr0
      obtain ⟨g', k1, k2, k3, k4, k5⟩ := qlr (st := st) (s := n) (arr := arr) cs 0 (g := g) (H := st.H) (lo := st.lo) hR (fun i x v hx hv => by
        rw [qvF] at hv ⊢; exact hr0 i x v hx hv) h1
      refine ⟨rfl, g', Rel.reslot (st := ⟨st.env, H', lo'⟩) k1 ?_, k2⟩
      have hs' := k1.e n
      have e : get n (⟨st.env, H', lo'⟩ : St).env = .box cs := hbox
      rw [e] at hs'
      generalize tmps.getD n Go.undef = c at hs'
      cases hs' with
      | s h => cases h
      | box _ arr' T hb ho hp hl hr =>
        have : arr' = arr := by
          rw [hb0] at hb
          simp only [Option.some.injEq, Go.Obj.cells.injEq] at hb
          exact hb.1.symm
        subst this
        exact .box cs' arr' T hb ho hp (k4.trans hl) (fun i x v hx hv => by
          have := k5 i x v hx (by rw [qvF]; exact hv)
          rwa [qvF] at this)
    · cases hr
  · rename_i id sz len hrow
    split at hr
    · rename_i v' H' lo' h1
      simp only [okH, Option.some.injEq] at hr
      subst hr
      obtain ⟨l0, cs, ds, e1, e2, e3, e4, e5, e6, e7, e8, rfl, rfl, rfl⟩ := qiJ h1
      obtain ⟨g1, k1, k2, k3, k4⟩ := hR.freeze e1 e2 e3 e4 e5 e6 e7 e8 (min st.lo id)
      refine ⟨rfl, g1, k1.reslot ?_, k2⟩
      have hs := hR.e n
      rw [hrow] at hs
      generalize tmps.getD n Go.undef = c at hs
      cases hs with
      | s h => exact .s (k4 _ h)
    · cases hr
  · simp only [okH, Option.some.injEq] at hr
    subst hr
    exact ⟨rfl, g, hR, Evo.refl g w⟩
end
end W

/-
  Calls: what goes in, what comes back, whose it is meanwhile.
-/
set_option linter.unusedSimpArgs false
set_option linter.unusedVariables false
namespace W
open Go (World Value Addr IntKind Program TypeId FuncId Operand Act Oper Next Result Sem BinOp UnOp Ending Exit)
structure RelH (M : Maps) (g : Gh) (w : World) (H : List Obj) : Prop where
  n : g.n = H.length
  h : ∀ id o, H[id]? = some o → RepO M g w id o
  fresh : ∀ b, w.heap.size ≤ b → g.own b = none ∧ g.pub b = 0
  gl : GlOk M g w
theorem Rel.toH {M : Maps} {g : Gh} {w : World} {β : Nat → Nat} {st : St} {tmps : Array Value} (h : Rel M g w β st tmps) : RelH M g w st.H := ⟨h.n, h.h, h.fresh, h.gl⟩
inductive RepA (M : Maps) (g : Gh) (w : World) (j : Nat) : V → Value → Prop
  | s {v : V} {c : Value} (h : RepS M g w v c) : RepA M g w j v c
  | osl {xs : List D} {c : Value} (h : OwnSl g w (.slot j) xs c) : RepA M g w j (.osl xs) c
inductive ArgsRep (M : Maps) (g : Gh) (w : World) : Nat → List V → List Value → Prop
  | nil (j : Nat) : ArgsRep M g w j [] []
  | cons {j : Nat} {v : V} {c : Value} {vs : List V} {cs : List Value} (h : RepA M g w j v c) (hl : ArgsRep M g w (j + 1) vs cs) : ArgsRep M g w j (v :: vs) (c :: cs)
def zW (M : Maps) (g : Gh) (w : World) (r : Cr) : Ending → World → Prop
  | .returned v, w' => r.pan = false ∧ ∃ g', RelH M g' w' r.H ∧ Evo g w g' w' ∧ RepA M g' w' 0 r.v v
  | .panicked ch, w' => r.pan = true ∧ ∃ g' cv, ch = [{ v := cv, recovered := false }] ∧ RelH M g' w' r.H ∧ Evo g w g' w' ∧ RepA M g' w' 0 r.v cv
  | .outgrown, _ => False
def qt9 (P : Program) (f : FuncId) (args : Array Value) (w : World) (R : Ending → World → Prop) : Prop :=
  ∀ (o : Oper) (a : Act) (K : Act → World → Prop) (Q : Exit → Act → World → Prop), (∀ v w', R (.returned v) w' → K (a.put o.dst v) w') → (∀ ch w', R (.panicked ch) w' → Q (.panic ch) a w') →
    o.upon P a K Q ((Go.callFunc f args).run P w)
def yc (P : Program) (M : Maps) (call : Call) : Prop :=
  ∀ (i : Nat) (vs : List V) (H : List Obj) (r : Cr), call i vs H = some r → ∀ f', look M.fm f' = some i → ∀ g w argv, ArgsRep M g w 0 vs argv → RelH M g w H →
    qt9 P f' argv.toArray w (zW M g w r)
def js (hand : Nat → Option Nat) : Option Loc → Option Loc
  | some (.slot n) => match hand n with
    | some j => some (.slot j)
    | none => some .out
  | some (.bblk _) => some .out
  | some (.bcell _ _) => some .out
  | x => x
def kV (hand : Nat → Option Nat) (g : Gh) : Gh := { g with own := fun b => js hand (g.own b) }
def qiC (d : Option Nat) : Option Loc → Option Loc
  | some (.slot 0) => d.map .slot
  | some (.slot _) => none
  | some (.bblk _) => none
  | some (.bcell _ _) => none
  | x => x
def qbA (hand : Nat → Option Nat) (d : Option Nat) (old new : Option Loc) : Option Loc :=
  match old with
  | some (.slot n) => match hand n with
    | some _ => qiC d new
    | none => some (.slot n)
  | some (.bblk n) => some (.bblk n)
  | some (.bcell n i) => some (.bcell n i)
  | _ => qiC d new
def qam (hand : Nat → Option Nat) (d : Option Nat) (g g2 : Gh) : Gh := { g2 with own := fun b => qbA hand d (g.own b) (g2.own b) }
theorem OwnSl.relabel {g g' : Gh} {w : World} {ℓ ℓ' : Loc} {xs : List D} {c : Value} (h : OwnSl g w ℓ xs c) (hp : g'.pub = g.pub) (ho : ∀ b, g.own b = some ℓ → g'.own b = some ℓ') : OwnSl g' w ℓ' xs c := by
  cases h with
  | mk b off cap sz vs arr T fz hne hsz hr hc hp' hcap hone ho' hb ha hff =>
    exact .mk xs b off cap sz vs arr T fz hne hsz (hp ▸ hr) hc (hp ▸ hp') hcap hone (ho b ho') hb ha hff
  | full ad h => exact .full xs ad (hp ▸ h)
section
variable {P : Program} {M : Maps} {g g2 : Gh} {w w2 : World} {hand : Nat → Option Nat} {d : Option Nat}
theorem qgb : Grow g w (kV hand g) w := ⟨qvC _, fun _ => qvC _, fun _ _ _ => rfl⟩
theorem qmd (id : Nat) : Kept g w (kV hand g) w (.oblk id) := ⟨fun b h => ⟨by simp [kV, h, js], rfl, rfl⟩⟩
theorem qmr (id i : Nat) : Kept g w (kV hand g) w (.ocell id i) := ⟨fun b h => ⟨by simp [kV, h, js], rfl, rfl⟩⟩
theorem qiN {H : List Obj} (h : RelH M g w H) : RelH M (kV hand g) w H :=
  ⟨h.n, fun id o ho => (h.h id o ho).mono qgb (qvC _) (fun _ _ => rfl) (by rw [h.n]; exact (List.getElem?_eq_some_iff.1 ho).1) (qmd id) (fun i => qmr id i),
    fun b hb => by
      have := h.fresh b hb
      exact ⟨by simp [kV, this.1, js], this.2⟩, h.gl.mono qgb⟩
theorem qeE (hE : Evo (kV hand g) w g2 w2) {b : Nat} (hb : b < w.heap.size) (ho : js hand (g.own b) = some .out) : g2.own b = some .out ∧ w2.heap[b]? = w.heap[b]? ∧ g2.pub b = g.pub b := by
  obtain ⟨h1, h2, h3⟩ := hE.keep b hb (.inr ho)
  exact ⟨h1.trans ho, h2, h3⟩
theorem qk9 (hf : Fresh g w) {b : Nat} {ℓ : Loc} (h : g.own b = some ℓ) : b < w.heap.size := by
  rcases Nat.lt_or_ge b w.heap.size with hlt | hge
  · exact hlt
  · rw [(hf.f b hge).1] at h; cases h
theorem qjW (hE : Evo (kV hand g) w g2 w2) : Grow g w (qam hand d g g2) w2 := ⟨hE.size, hE.pub, hE.cell⟩
theorem qjO (hf : Fresh g w) (hE : Evo (kV hand g) w g2 w2) {k : Nat} (hk : hand k = none) : Kept g w (qam hand d g g2) w2 (.slot k) := ⟨fun b h => by
  obtain ⟨h1, h2, h3⟩ := qeE hE (qk9 hf h) (by rw [h]; simp [js, hk])
  exact ⟨by simp [qam, h, qbA, hk], h2, h3⟩⟩
theorem qkV (hf : Fresh g w) (hE : Evo (kV hand g) w g2 w2) (k : Nat) : Kept g w (qam hand d g g2) w2 (.bblk k) := ⟨fun b h => by
  obtain ⟨h1, h2, h3⟩ := qeE hE (qk9 hf h) (by rw [h]; simp [js])
  exact ⟨by simp [qam, h, qbA], h2, h3⟩⟩
theorem qjM (hf : Fresh g w) (hE : Evo (kV hand g) w g2 w2) (k i : Nat) : Kept g w (qam hand d g g2) w2 (.bcell k i) := ⟨fun b h => by
  obtain ⟨h1, h2, h3⟩ := qeE hE (qk9 hf h) (by rw [h]; simp [js])
  exact ⟨by simp [qam, h, qbA], h2, h3⟩⟩
theorem qi9 (hf : Fresh g w) (hE : Evo (kV hand g) w g2 w2) {b : Nat} {ℓ : Loc} (h : g2.own b = some ℓ) (hℓ : ℓ ≠ .out) : qbA hand d (g.own b) (g2.own b) = qiC d (some ℓ) := by
  have key : js hand (g.own b) ≠ some .out := fun ho => by
    have hb : b < w.heap.size := by
      cases hg : g.own b with
      | none => rw [hg] at ho; simp [js] at ho
      | some l => exact qk9 hf hg
    have := (qeE hE hb ho).1
    rw [h] at this
    exact hℓ (Option.some.inj this)
  rw [h]
  cases hg : g.own b with
  | none => rfl
  | some l =>
    rw [hg] at key
    cases l with
    | slot n =>
      cases hh : hand n with
      | none => simp [js, hh] at key
      | some j => simp [qbA, hh]
    | bblk n => simp [js] at key
    | bcell n i => simp [js] at key
    | oblk | ocell | out => rfl
theorem qey : Grow g2 w2 (qam hand d g g2) w2 := ⟨qvC _, fun _ => qvC _, fun _ _ _ => rfl⟩
theorem qlp (hf : Fresh g w) (hE : Evo (kV hand g) w g2 w2) (id : Nat) : Kept g2 w2 (qam hand d g g2) w2 (.oblk id) := ⟨fun b h => ⟨by
  show qbA hand d (g.own b) (g2.own b) = _
  rw [qi9 hf hE h (by simp)]; rfl, rfl, rfl⟩⟩
theorem qmK (hf : Fresh g w) (hE : Evo (kV hand g) w g2 w2) (id i : Nat) : Kept g2 w2 (qam hand d g g2) w2 (.ocell id i) := ⟨fun b h => ⟨by
  show qbA hand d (g.own b) (g2.own b) = _
  rw [qi9 hf hE h (by simp)]; rfl, rfl, rfl⟩⟩
theorem qpk (hf : Fresh g w) (hE : Evo (kV hand g) w g2 w2) {H : List Obj} (h : RelH M g2 w2 H) : RelH M (qam hand d g g2) w2 H :=
  ⟨h.n, fun id o ho => (h.h id o ho).mono qey (qvC _) (fun _ _ => rfl) (by rw [h.n]; exact (List.getElem?_eq_some_iff.1 ho).1) (qlp hf hE id) (fun i => qmK hf hE id i),
    fun b hb => by
      have h2 := h.fresh b hb
      have h1 := hf.f b (Nat.le_trans hE.size hb)
      exact ⟨by simp [qam, h1.1, h2.1, qbA, qiC], h2.2⟩, h.gl.mono qey⟩
theorem qfa (hf : Fresh g w) (hE : Evo (kV hand g) w g2 w2) : Evo g w (qam hand d g g2) w2 :=
  ⟨qjW hE, hE.n, hE.φ, fun b hb ho => by
    have he : js hand (g.own b) = g.own b := by rcases ho with h | h <;> rw [h] <;> rfl
    have ho' : (kV hand g).own b = none ∨ (kV hand g).own b = some .out := by
      show js hand (g.own b) = none ∨ js hand (g.own b) = some .out
      rw [he]; exact ho
    obtain ⟨h1, h2, h3⟩ := hE.keep b hb ho'
    have h1' : g2.own b = g.own b := by rw [h1]; exact he
    refine ⟨?_, h2, h3⟩
    show qbA hand d (g.own b) (g2.own b) = g.own b
    rw [h1']
    rcases ho with h | h <;> rw [h] <;> rfl, hE.io⟩
theorem qmP (hf : Fresh g w) (hE : Evo (kV hand g) w g2 w2) {n : Nat} (hd : d = some n) {xs : List D} {c : Value} (h : OwnSl g2 w2 (.slot 0) xs c) : OwnSl (qam hand d g g2) w2 (.slot n) xs c := by
  refine h.relabel rfl (fun b ho => ?_)
  show qbA hand d (g.own b) (g2.own b) = _
  rw [qi9 hf hE ho (by simp), hd]
  rfl
end
def yJ : Nat → List O → Nat → Option Nat
  | _, [], _ => none
  | j, .mv m :: l, n => if m = n then some j else yJ (j + 1) l n
  | j, _ :: l, n => yJ (j + 1) l n
theorem qbv : ∀ {l : List O} {j n : Nat} {k : Nat}, yJ j l n = some k → n ∈ ji l
  | [], _, _, _, h => by simp [yJ] at h
  | .mv m :: l, j, n, k, h => by
    simp only [yJ] at h
    split at h
    · rename_i e; simp [ji, e]
    · simp only [ji, List.mem_cons]; exact .inr (qbv h)
  | .t m :: l, j, n, k, h => qbv (l := l) (j := j + 1) h
  | .c m :: l, j, n, k, h => qbv (l := l) (j := j + 1) h
  | .f m :: l, j, n, k, h => qbv (l := l) (j := j + 1) h
  | .g _ _ :: l, j, n, k, h => qbv (l := l) (j := j + 1) h
theorem qg9 : ∀ {l : List Nat}, qi3 l = true → l.Nodup
  | [], _ => List.nodup_nil
  | n :: l, h => by
    simp only [qi3, qvB, Bool.not_eq_true', List.any_eq_false] at h
    refine List.nodup_cons.2 ⟨fun hm => h.1 n hm (by simp), qg9 h.2⟩
theorem zp : ∀ (l : List O) (e : Env) (k : Nat), get k (spentAll l e) = if k ∈ ji l then .undef else get k e
  | [], e, k => by simp [spentAll, ji]
  | .mv m :: l, e, k => by
    simp only [spentAll, spent, ji, List.mem_cons]
    rw [zp l, kD]
    by_cases h1 : k ∈ ji l <;> by_cases h2 : k = m <;> simp [h1, h2]
  | .t m :: l, e, k => zp l e k
  | .c m :: l, e, k => zp l e k
  | .f m :: l, e, k => zp l e k
  | .g _ _ :: l, e, k => zp l e k
section
variable {P : Program} {M : Maps} {g : Gh} {w : World} {β : Nat → Nat} {st : St} {o : Oper} {a : Act}
theorem qgy {v : V} {c : Value} {hand : Nat → Option Nat} (h : RepS M g w v c) : RepS M (kV hand g) w v c := h.mono qgb (qvC _) (fun _ _ => rfl) h.ref
theorem qeH {hand : Nat → Option Nat} : ∀ {vs : List V} {cs : List Value} (j : Nat), RepSL M g w vs cs → ArgsRep M (kV hand g) w j vs cs
  | _, _, j, .nil => .nil j
  | _, _, j, .cons _ _ _ _ h hl => .cons (.s (qgy h)) (qeH (j + 1) hl)
theorem qfn : ∀ {vs : List V} {cs : List Value} {vs' : List V} {cs' : List Value} {j : Nat}, ArgsRep M g w j vs cs → ArgsRep M g w (j + vs.length) vs' cs' → ArgsRep M g w j (vs ++ vs') (cs ++ cs')
  | [], _, _, _, j, .nil _, h' => by simpa using h'
  | _ :: vs, _, _, _, j, .cons h hl, h' => .cons h (qfn hl (by
      simp only [qvP] at h'
      rwa [show j + 1 + vs.length = j + (vs.length + 1) by omega]))
theorem RepV.leavesS {v : V} {c : Value} (h : RepV M g w β v c) (hv : v.leaves = true) : RepS M g w v c := by
  cases h with
  | s h => exact h
  | lp => simp [V.leaves, V.ok] at hv
  | cp => simp [V.leaves, V.ok] at hv
theorem qi7 (hR : Rel M g w β st a.tmps) {hand : Nat → Option Nat} {m : Nat → Bool} : ∀ {xs : List Operand} {os : List O} (i j : Nat), opnds M m i xs = some os → V.allLeave (os.map (rd st.env)) = true → (ji os).Nodup →
    (∀ n ∈ ji os, hand n = yJ j os n) → ArgsRep M (kV hand g) w j (os.map (rd st.env)) (xs.map a.eval)
  | [], os, i, j, h, _, _, _ => by simp only [opnds, Option.some.injEq] at h; subst h; exact .nil j
  | x :: xs, os, i, j, h, hl, hnd, hh => by
    simp only [opnds] at h
    split at h
    · rename_i y r hy hr
      simp only [Option.some.injEq] at h
      subst h
      simp only [qvM, V.allLeave, qvB] at hl ⊢
      have h1 := qfv hR hy
      have hnd' : (ji r).Nodup := by
        cases y with
        | mv n => exact (List.nodup_cons.1 hnd).2
        | _ => exact hnd
      have ih := qi7 hR (hand := hand) (i + 1) (j + 1) hr hl.2 hnd' (fun n hn => by
        cases y with
        | mv n' =>
          have hne : n' ≠ n := fun e => (List.nodup_cons.1 hnd).1 (e ▸ hn)
          rw [hh n (by simp [ji, hn])]
          simp [yJ, hne]
        | t _ => rw [hh n hn]; rfl
        | c _ => rw [hh n hn]; rfl
        | f _ => rw [hh n hn]; rfl
        | g _ _ => rw [hh n hn]; rfl)
      refine .cons ?_ ih
      generalize hv : rd st.env y = v at h1 hl
      cases h1 with
      | v h1 => exact .s (qgy (h1.leavesS hl.1))
      | own h1 =>
        rename_i n xs'
        have hn : hand n = some j := by rw [hh n (by simp [ji])]; simp [yJ]
        exact .osl (h1.relabel rfl (fun b ho => by simp [kV, ho, js, hn]))
    · cases h
end
end W

/-
  A call, as the caller sees it; a function's body, as the call sees it.
-/
set_option linter.unusedSimpArgs false
set_option linter.unusedVariables false
namespace W
open Go (World Value Addr IntKind Program TypeId FuncId Operand Act Oper Next Result Sem BinOp UnOp Ending Exit)
theorem qit {a b : List V} : V.allLeave (a ++ b) = (V.allLeave a && V.allLeave b) := by
  induction a with
  | nil => simp [V.allLeave]
  | cons v l ih => simp [V.allLeave, ih, Bool.and_assoc]
section
variable {P : Program} {M : Maps} {g : Gh} {w : World} {β : Nat → Nat} {st : St} {o : Oper} {a : Act} {call : Call}
theorem Rel.restRel (hR : Rel M g w β st a.tmps) {os : List O} {j : Nat} {g2 : Gh} {w2 : World} (hE : Evo (kV (yJ j os) g) w g2 w2) {H' : List Obj} (hH : RelH M g2 w2 H') {lo : Nat} (d : Option Nat) :
    Rel M (qam (yJ j os) d g g2) w2 β { env := W.spentAll os st.env, H := H', lo := lo } a.tmps := by
  have hf := hR.fr
  have hrh := qpk (d := d) hf hE hH
  refine ⟨hrh.n, fun k => ?_, hrh.h, hrh.fresh, hrh.gl⟩
  show RepT M _ w2 β k (get k (W.spentAll os st.env)) _
  rw [zp]
  by_cases hk : k ∈ ji os
  · simp only [hk, if_true]; exact .s (.undef _)
  · simp only [hk, if_false]
    have hh : yJ j os k = none := by
      cases hq : yJ j os k with
      | none => rfl
      | some q => exact absurd (qbv hq) hk
    refine (hR.e k).mono (qjW hE) ?_ ?_ (qjO hf hE hh) (qkV hf hE k) (fun i => qjM hf hE k i)
    · exact hE.n
    · exact hE.φ
theorem Rel.putCall (hd : kp o a) (hR : Rel M g w β st a.tmps) {os : List O} {j : Nat} {g2 : Gh} {w2 : World} (hE : Evo (kV (yJ j os) g) w g2 w2) {H' : List Obj} (hH : RelH M g2 w2 H') {v : V} {c : Value} (hv : RepA M g2 w2 0 v c) {lo : Nat} :
    ∃ g', Rel M g' w2 β (put o.dst v { env := W.spentAll os st.env, H := H', lo := lo }) (a.put o.dst c).tmps ∧ Evo g w g' w2 := by
  have hf := hR.fr
  have hrel : ∀ d, Rel M (qam (yJ j os) d g g2) w2 β { env := W.spentAll os st.env, H := H', lo := lo } a.tmps := fun d => hR.restRel hE hH d
  cases hv with
  | s hv =>
    refine ⟨_, (hrel none).putV hd (.s ?_), qfa hf hE⟩
    exact hv.mono qey (qvC _) (fun _ _ => rfl) hv.ref
  | osl hv =>
    rw [yb (by intro cs e; cases e), Act.put_tmps]
    cases hdst : o.dst with
    | none => exact ⟨_, hrel none, qfa hf hE⟩
    | some n => exact ⟨_, (hrel (some n)).lay (hd n hdst) (.osl (qmP hf hE rfl hv)), qfa hf hE⟩
theorem qqF (hcs : yc P M call) (hd : kp o a) (hR : Rel M g w β st a.tmps) {c : Go.Call} {f : Operand} {f' : O} {m : Nat → Bool} {l : List O} (hcal : c.callee = .value f) (hf : opnd M false f = some f')
    (hx : opnds M m 0 c.args.toList = some l) (hnd : qi3 (ji l) = true) (ho : o.op = .call c) {r : Or} (hr : qcH call f' l st = some r) {K : Act → World → Prop} {Q : Exit → Act → World → Prop}
    (hK : r.pan = false → ∀ c w' g' β', Rel M g' w' β' (put o.dst r.v r.st) (a.put o.dst c).tmps → Evo g w g' w' → K (a.put o.dst c) w')
    (hQ : r.pan = true → ∀ cv w' g' β', Rel M g' w' β' r.st a.tmps → Evo g w g' w' → RepA M g' w' 0 r.v cv → Q (.panic [{ v := cv, recovered := false }]) a w') :
    o.wp P a w K Q := by
  have h1 := kr hR hf
  unfold qcH at hr
  split at hr
  · rename_i i first cap hfv
    simp only at hr
    split at hr
    · rename_i hl
      split at hr
      · rename_i q hq
        simp only [Option.some.injEq] at hr
        subst hr
        rw [hfv] at h1
        generalize hfe : a.eval f = fc at h1
        cases h1 with
        | s h1 => cases h1 with
          | fn _ f2 _ _ fv cv hlook hr1 hr2 =>
            simp only [qit, qvB] at hl
            let hand := yJ first.length l
            have ha1 : ArgsRep M (kV hand g) w 0 first fv.toList := qeH 0 hr1
            have ha2 : ArgsRep M (kV hand g) w first.length (l.map (rd st.env)) (c.args.toList.map a.eval) :=
              qi7 hR 0 first.length hx hl.1.2 (qg9 hnd) (fun _ _ => rfl)
            have ha3 := qeH (hand := hand) (first ++ l.map (rd st.env)).length hr2
            have hargs := qfn (qfn ha1 (by simpa using ha2)) (by simpa using ha3)
            have hdoes := hcs i _ _ q hq f2 hlook (kV hand g) w _ hargs (qiN hR.toH)
            have hrun : (Go.execOp a.eval o).run P w = (Go.callFunc f2 (fv.toList ++ c.args.toList.map a.eval ++ cv.toList).toArray).run P w := by
              have e : (fv.toList ++ c.args.toList.map a.eval ++ cv.toList).toArray = fv ++ c.args.map a.eval ++ cv := by
                apply Array.ext'; simp
              rw [e]
              simp only [Go.execOp, ho, Go.resolve, hcal, hfe, Go.Deferred.ofValue, Sem.run_bind, Sem.run_pure, Result.andThen_ok, Go.invoke]
            unfold Oper.wp
            rw [hrun]
            refine hdoes o a K Q (fun v w' hp => ?_) (fun ch w' hp => ?_)
            · obtain ⟨hpan, g', hH, hE, hv⟩ := hp
              obtain ⟨g3, h3, h4⟩ := hR.putCall hd hE hH hv
              exact hK hpan v w' g3 β h3 h4
            · obtain ⟨hpan, g', cv', rfl, hH, hE, hv⟩ := hp
              refine hQ hpan cv' w' (qam hand (some 0) g g') β (hR.restRel hE hH (some 0)) (qfa hR.fr hE) ?_
              simp only at hv ⊢
              generalize q.v = qv at hv
              cases hv with
              | s hv => exact .s (hv.mono qey (qvC _) (fun _ _ => rfl) hv.ref)
              | osl hv => exact .osl (qmP hR.fr hE rfl hv)
      · cases hr
    · cases hr
  · cases hr
theorem RepO.shrink {g2 : Gh} {w2 : World} {id : Nat} {ob : Obj} (h : RepO M g2 w2 id ob) (h0 : RepO M g w id ob) (hn : g.n ≤ g2.n) (hid : id < g.n) : RepO M { g2 with n := g.n } w2 id ob := by
  have hg : Grow g2 w2 { g2 with n := g.n } w2 := ⟨qvC _, fun _ => qvC _, fun _ _ _ => rfl⟩
  cases h with
  | cells cs arr T fz hb hz ho hp hl hr =>
    cases h0 with
    | cells _ arr0 T0 fz0 hb0 hz0 ho0 hp0 hl0 hr0 =>
      refine .cells cs arr T fz hb hz ho hp hl (fun i x v hx hv => ?_)
      have hlt : i < arr0.size := Nat.lt_of_lt_of_le (List.getElem?_eq_some_iff.1 hx).1 hl0
      have h1 := hr0 i x arr0[i] hx (by simp [hlt])
      cases hr i x v hx hv with
      | s h2 =>
        cases h1 with
        | s h1 => exact .s (h2.mono hg (qvC _) (fun _ _ => rfl) h1.ref)
        | osl _ => cases h2
      | osl h2 => exact .osl (h2.relabel rfl (fun _ h => h))
  | row l cs arr T hb ho hp hl hζ hr =>
    cases h0 with
    | row _ _ arr0 T0 hb0 ho0 hp0 hl0 hζ0 hr0 =>
      refine .row l cs arr T hb ho hp hl hζ (fun i x v hx hv => ?_)
      have hlt : i < arr0.size := Nat.lt_of_lt_of_le (List.getElem?_eq_some_iff.1 hx).1 hl0
      exact (hr i x v hx hv).mono hg (qvC _) (fun _ _ => rfl) (hr0 i x arr0[i] hx (by simp [hlt])).ref
  | dead => exact .dead
  | map es ents clock hb ho hr =>
    cases h0 with
    | map _ ents0 clock0 hb0 ho0 hr0 =>
      refine .map es ents clock hb ho ?_
      clear hb hb0
      generalize ents.toList = l at hr
      generalize ents0.toList = l0 at hr0
      induction hr generalizing l0 with
      | nil => exact .nil
      | cons k x e es ents hk hgk hx hl ih =>
        cases hr0 with
        | cons _ _ e0 _ l0' hk0 hgk0 hx0 hl0 =>
          exact .cons k x e es ents (hk.mono (fun _ => qvC _) (fun _ _ _ => rfl)) hgk (hx.mono hg (qvC _) (fun _ _ => rfl) hx0.ref) (ih _ hl0)
theorem qkE (n : Nat) (H : List Obj) (v : V) : settle n H v = v ∨ ∃ id off len cap cs ds, v = .rs id off len cap ∧ n ≤ id ∧ H[id]? = some (.cells cs) ∧ off + len ≤ cs.length ∧ 0 < len ∧ qaA ((cs.drop off).take len) = some ds ∧ D.ones ds = true ∧ settle n H v = .d (.sl ds) := by
  cases v with
  | rs id off len cap =>
    simp only [settle]
    cases hn : Nat.ble n id with
    | false => exact .inl (by simp)
    | true =>
      simp only [cond_true, qoh]
      split
      · rename_i cs hcs
        cases hb : (Nat.ble (off + len) cs.length && Nat.blt 0 len) with
        | false => exact .inl (by simp)
        | true =>
          simp only [cond_true]
          simp only [qvB] at hb
          split
          · rename_i ds hds
            cases ho : D.ones ds with
            | false => exact .inl (by simp)
            | true =>
              exact .inr ⟨id, off, len, cap, cs, ds, rfl, Nat.le_of_ble_eq_true hn, hcs, Nat.le_of_ble_eq_true hb.1, by have := Nat.le_of_ble_eq_true hb.2; omega, hds, ho, by simp⟩
          · exact .inl rfl
      · exact .inl rfl
  | _ => exact .inl rfl
def Gh.settled (g : Gh) (n b k : Nat) : Gh := { n := n, Φ := g.Φ, pub := fun x => if x = b then k else g.pub x, own := fun x => if x = b then none else g.own x }
theorem qjJ {H : List Obj} {st2 : St} {g2 : Gh} {w2 : World} (h0 : RelH M g w H) (h2 : RelH M g2 w2 st2.H) (hE : Evo g w g2 w2) (hold : ∀ id, id < H.length → st2.H[id]? = H[id]?)
    {id off len cap : Nat} {c : Value} (hv : RepA M g2 w2 0 (.rs id off len cap) c) {cs : List V} {ds : List D} (hid : H.length ≤ id) (hob : st2.H[id]? = some (.cells cs)) (hle : off + len ≤ cs.length) (hpos : 0 < len)
    (hds : qaA ((cs.drop off).take len) = some ds) (hones : D.ones ds = true) :
    ∃ g', RelH M g' w2 H ∧ Evo g w g' w2 ∧ RepA M g' w2 0 (.d (.sl ds)) c := by
  cases h2.h id _ hob with
  | cells _ arr T fz hb hz ho hp hl hr =>
    have hbl : g2.φ id < w2.heap.size := (Array.getElem?_eq_some_iff.1 hb).1
    let g' := g2.settled g.n (g2.φ id) arr.size
    have hg : Grow g2 w2 g' w2 := ⟨qvC _, fun x => by
      show g2.pub x ≤ (if x = g2.φ id then arr.size else g2.pub x)
      split
      · rename_i e; subst e; rw [hp]; exact Nat.zero_le _
      · exact qvC _, fun _ _ _ => rfl⟩
    have hg1 : Grow { g2 with n := g.n } w2 g' w2 := ⟨hg.size, hg.pub, hg.cell⟩
    have hk : ∀ ℓ, ℓ ≠ .oblk id → Kept { g2 with n := g.n } w2 g' w2 ℓ := fun ℓ hℓ => ⟨fun x hx => by
      have hne : x ≠ g2.φ id := by
        intro e; subst e
        have hx' : g2.own (g2.φ id) = some ℓ := hx
        rw [ho] at hx'
        exact hℓ (Option.some.inj hx').symm
      exact ⟨by simp [g', Gh.settled, hne]; exact hx, rfl, by simp [g', Gh.settled, hne]⟩⟩
    have hgn : g'.n = g.n := rfl
    refine ⟨g', ⟨h0.n, fun i ob hi => ?_, fun x hx => ?_, h2.gl.mono hg⟩, ⟨⟨hE.size, fun x => Nat.le_trans (hE.pub x) (hg.pub x), hE.cell⟩, qvC _, hE.φ, fun x hx hxo => ?_, hE.io⟩, ?_⟩
    · have hlt : i < H.length := (List.getElem?_eq_some_iff.1 hi).1
      have e := hold i hlt
      have hgl : i < g.n := by rw [h0.n]; exact hlt
      exact ((h2.h i ob (e ▸ hi)).shrink (h0.h i ob hi) hE.n hgl).mono hg1 (qvC _) (fun _ _ => rfl) hgl (hk _ (by simp; omega)) (fun j => hk _ (by simp))
    · have hne : x ≠ g2.φ id := by omega
      have := h2.fresh x hx
      simpa [g', Gh.settled, hne] using this
    · obtain ⟨k1, k2, k3⟩ := hE.keep x hx hxo
      have hne : x ≠ g2.φ id := by
        intro e; subst e
        rw [ho] at k1
        rcases hxo with h | h <;> rw [h] at k1 <;> cases k1
      exact ⟨by simp [g', Gh.settled, hne]; exact k1, k2, by simp [g', Gh.settled, hne]; exact k3⟩
    · cases hv with
      | s hv =>
        cases hv with
        | rs _ _ _ _ c2 hidn hcap0 hcap2 =>
          have hcap := Nat.le_trans hcap0 hcap2
          obtain ⟨vs, hvl, hrep, hcell⟩ := qgx (M := M) (g := g2) hds hl hle hb (fun i x v hx hv => (hr i x v hx hv).read)
          have hdl : ds.length = len := by rw [hrep.length, hvl]
          have hflat : ∀ (l : List D), D.ones l = true → l.flatMap D.cells = l ∧ ∀ x ∈ l, x.cells.length = 1 := by
            intro l
            induction l with
            | nil => intro _; exact ⟨rfl, fun x hx => by simp at hx⟩
            | cons y l ih =>
              intro h
              simp only [D.ones, qvB] at h
              obtain ⟨i1, i2⟩ := ih h.2
              refine ⟨by rw [List.flatMap_cons, i1, qd5 h.1]; rfl, fun x hx => ?_⟩
              rcases List.mem_cons.1 hx with rfl | hx
              · rw [qd5 h.1]; rfl
              · exact i2 x hx
          obtain ⟨f1, f2⟩ := hflat ds hones
          have hrep' : RepDL g'.pub w2 ds vs := hrep.mono hg.pub hg.cell
          refine .s (.d _ _ ?_)
          rw [← hdl]
          refine .sl ds (g2.φ id) off c2 1 vs (by intro e; rw [e] at hdl; simp at hdl; omega) f2 (by rw [f1]; exact hrep') hcell ?_ (by omega) (hrep.ones hones)
          show off + vs.length ≤ (if g2.φ id = g2.φ id then arr.size else _)
          rw [if_pos rfl, hvl]
          exact Nat.le_trans hle hl
theorem qjk {H : List Obj} {st2 : St} {g2 : Gh} {w2 : World} (h0 : RelH M g w H) (h2 : RelH M g2 w2 st2.H) (hE : Evo g w g2 w2) (hlo : ∀ id, id < st2.lo → id < H.length → st2.H[id]? = H[id]?)
    {pan : Bool} {v : V} {c : Value} (hv : RepA M g2 w2 0 v c) {r : Cr} (hr : leave H pan v st2 = some r) :
    r.pan = pan ∧ ∃ g', RelH M g' w2 r.H ∧ Evo g w g' w2 ∧ RepA M g' w2 0 r.v c := by
  unfold leave at hr
  cases hl : v.leaves with
  | false => simp [hl] at hr
  | true =>
    simp only [hl, cond_true] at hr
    cases hs : (Nat.ble (settle H.length st2.H v).ref H.length && Nat.ble H.length st2.lo) with
    | false =>
      simp only [hs, cond_false, Option.some.injEq] at hr
      subst hr
      exact ⟨rfl, g2, h2, hE, hv⟩
    | true =>
      simp only [hs, cond_true, Option.some.injEq] at hr
      subst hr
      simp only [qvB] at hs
      have hs1 := Nat.le_of_ble_eq_true hs.1
      have hs2 := Nat.le_of_ble_eq_true hs.2
      rcases qkE H.length st2.H v with hset | ⟨id, off, len, cap, cs, ds, rfl, k1, k2, k3, k4, k5, k6, k7⟩
      case inr =>
        rw [k7]
        exact ⟨rfl, qjJ h0 h2 hE (fun i hi => hlo i (by omega) hi) hv k1 k2 k3 k4 k5 k6⟩
      rw [hset] at hs1 ⊢
      have hg : Grow g2 w2 { g2 with n := g.n } w2 := ⟨qvC _, fun _ => qvC _, fun _ _ _ => rfl⟩
      refine ⟨rfl, { g2 with n := g.n }, ⟨h0.n, fun id ob hob => ?_, h2.fresh, h2.gl.mono hg⟩, ⟨⟨hE.size, hE.pub, hE.cell⟩, qvC _, hE.φ, hE.keep, hE.io⟩, ?_⟩
      · have hlt : id < H.length := (List.getElem?_eq_some_iff.1 hob).1
        have e := hlo id (by omega) hlt
        exact (h2.h id ob (e ▸ hob)).shrink (h0.h id ob hob) hE.n (by rw [h0.n]; exact hlt)
      · cases hv with
        | s hv => exact .s (hv.mono hg (qvC _) (fun _ _ => rfl) (by rw [h0.n]; exact hs1))
        | osl hv => exact .osl (hv.relabel rfl (fun _ h => h))
end
end W

/-
  Every operation.
-/
set_option linter.unusedSimpArgs false
set_option linter.unusedVariables false
namespace W
open Go (World Value Addr IntKind Program TypeId FuncId Operand Act Oper Next Result Sem BinOp UnOp Ending Exit)
section
variable {P : Program} {M : Maps} {g : Gh} {w : World} {β : Nat → Nat} {st : St} {o : Oper} {a : Act} {call : Call}
structure Ends (P : Program) (M : Maps) (g : Gh) (w : World) (o : Oper) (a : Act) (r : Or) (K : Act → World → Prop) (Q : Exit → Act → World → Prop) : Prop where
  k : r.pan = false → ∀ c w' g' β', Rel M g' w' β' (put o.dst r.v r.st) (a.put o.dst c).tmps → Evo g w g' w' → K (a.put o.dst c) w'
  q : r.pan = true → ∀ cv w' g' β', Rel M g' w' β' r.st a.tmps → Evo g w g' w' → RepA M g' w' 0 r.v cv → Q (.panic [{ v := cv, recovered := false }]) a w'
theorem Left1.wp {r : Or} {K : Act → World → Prop} {Q : Exit → Act → World → Prop} (h : Left1 P M g w o a r) (hp : r.pan = false) (he : Ends P M g w o a r K Q) : o.wp P a w K Q := by
  obtain ⟨c, w', g', β', hy, hR, hE⟩ := h
  exact hy.wp (he.k hp c w' g' β' hR hE)
theorem qo9 (hR : Rel M g w β st a.tmps) {x : Operand} {x' : O} (hx : opnd M false x = some x') (ho : o.op = .panic x) {r : Or} (hr : qga x' st = some r) {K : Act → World → Prop} {Q : Exit → Act → World → Prop}
    (he : Ends P M g w o a r K Q) : o.wp P a w K Q := by
  have h1 := kr hR hx
  unfold qga at hr
  split at hr
  · rename_i t y hv
    simp only [Option.some.injEq] at hr
    subst hr
    rw [hv] at h1
    generalize hc : a.eval x = c at h1
    cases h1 with
    | s h1 =>
      have h2 := h1
      cases h1 with
      | ifc _ t' _ cv ht hcv =>
        have hrun : (Go.execOp a.eval o).run P w = .halt (.panic (.iface t' cv)) w := by
          simp only [Go.execOp, ho, hc, Go.Instr.panic, Sem.run_bind]
          rfl
        unfold Oper.wp
        rw [hrun]
        exact he.q rfl _ w g β hR (Evo.refl g w) (.s h2)
  · cases hr
theorem qju (hd : kp o a) (hR : Rel M g w β st a.tmps) {c : Go.Call} (hcal : c.callee = .builtin .append) {t u e : TypeId} (hats : c.argTypes.toList = [t, u]) (ht : P.underlying t = some (.slice e)) (hu : qim P u)
    {i : Go.TypeInfo} (hi : P.info? e = some i) {zd : D} (hz : yI P e = some zd) (hzl : zd.cells.length = i.size) (ho : o.op = .call c) {k : OpK} (htr : qkA M P e i c.args.toList = some k) {r : Or} (hr : qy call k st = some r) : k.mayPan = false ∧ Left1 P M g w o a r := by
  unfold qkA at htr
  split at htr
  · rename_i l x' y' hl hx
    split at htr
    · rename_i hs
      simp only [Option.some.injEq] at htr
      subst htr
      obtain ⟨x, y, hargs, hx1, hy1⟩ := qj6 hx
      obtain ⟨i2, z, hi2, hzz, hzd⟩ := j9 hz
      rw [hi] at hi2
      cases hi2
      have hzs : z.cells.size = i.size := by
        have := (qau g.pub w z zd hzd).cells.length
        rw [hzl] at this
        simpa using this.symm
      exact ⟨rfl, qlq hd hR ht hu hi hzz hzs ho hcal hargs hats hs.1 hx1 hy1 hr⟩
    · cases htr
  · cases htr
theorem qnM (hcs : yc P M call) (hd : kp o a) (hR : Rel M g w β st a.tmps) {A : Ann} {m : Nat → Bool} {loc : Bool} {k : OpK} (htr : jZ M P A m loc o.op = some k) (hloc : loc = true → o.dst ≠ none)
    {r : Or} (hr : qy call k st = some r) {K : Act → World → Prop} {Q : Exit → Act → World → Prop} (he : Ends P M g w o a r K Q) : o.wp P a w K Q := by
  have fin : k.mayPan = false → Left1 P M g w o a r → o.wp P a w K Q := fun hk h => h.wp (qps hr hk) he
  cases hop : o.op with
  | move x =>
    simp only [hop, jZ, Option.map_eq_some_iff] at htr
    obtain ⟨y, hy, rfl⟩ := htr
    exact fin rfl (qkB hd hR hy (.inl hop) hr)
  | assign x =>
    simp only [hop, jZ, Option.map_eq_some_iff] at htr
    obtain ⟨y, hy, rfl⟩ := htr
    exact fin rfl (qkB hd hR hy (.inr hop) hr)
  | pick c x y =>
    simp only [hop, jZ, qvI, qvE, qvO, Option.some.injEq] at htr
    obtain ⟨c', hc, x', hx, y', hy, rfl⟩ := htr
    exact fin rfl (qq8 hd hR hc hx hy hop hr)
  | alloc t =>
    simp only [hop, jZ, qvI, qvE, qvO, Option.some.injEq] at htr
    obtain ⟨z, hz, rfl⟩ := htr
    exact fin rfl (qpy hd hR hz hop hloc hr)
  | box t x =>
    simp only [hop, jZ, qvI, qvE, qvO, Option.some.injEq] at htr
    obtain ⟨x', hx, rfl⟩ := htr
    exact fin rfl (qr9 hd hR hx hop hloc hr)
  | build t ps =>
    simp only [hop, jZ] at htr
    split at htr
    · rename_i fs hu
      split at htr
      · rename_i hpl
        split at htr
        · simp only [qvI, qvE, qvO, Option.some.injEq] at htr
          obtain ⟨z, hz, ps', hps, rfl⟩ := htr
          exact fin rfl (qhz hd hR hop hu hpl hz hps hr)
        · simp only [qvI, qvE, qvO, Option.some.injEq] at htr
          obtain ⟨z, hz, ps', hps, rfl⟩ := htr
          exact fin rfl (qip hd hR hop hu hpl hz hps hr)
      · cases htr
    · rename_i n e hu
      simp only [qvI, qvE, qvO, Option.some.injEq] at htr
      obtain ⟨z, hz, l, hl, ps', hps, rfl⟩ := htr
      exact fin rfl (qiM hd hR hop hu hl hz hps hr)
    · cases htr
  | buildSlice t n ps =>
    simp only [hop, jZ] at htr
    split at htr
    · rename_i e hu
      split at htr
      · rename_i l z hl hz
        split at htr
        · rename_i hs
          split at htr
          · simp only [qvI, qvE, qvO, Option.some.injEq] at htr
            obtain ⟨ps', hps, rfl⟩ := htr
            exact fin rfl (qmZ hd hR hop hu hl hz hs hps hr)
          · split at htr
            · simp only [qvI, qvE, qvO, Option.some.injEq] at htr
              obtain ⟨ps', hps, rfl⟩ := htr
              exact fin rfl (qjN hd hR hop hu hl hz hs hps hr)
            · split at htr
              · split at htr
                · rename_i h1n
                  simp only [qvI, qvE, qvO, Option.some.injEq] at htr
                  obtain ⟨ps', hps, rfl⟩ := htr
                  exact fin rfl (qkv hd hR hop hu hl hz hs h1n hps hr)
                · cases htr
              simp only [qvI, qvE, qvO, Option.some.injEq] at htr
              obtain ⟨ps', hps, rfl⟩ := htr
              exact fin rfl (qji hd hR hop hu hl hz hs hps hr)
        · cases htr
      · cases htr
    · cases htr
  | load t x =>
    simp only [hop, jZ] at htr
    split at htr
    · simp only [qvI, qvE, qvO, Option.some.injEq] at htr
      obtain ⟨l, hl, x', hx, rfl⟩ := htr
      refine fin rfl ?_
      simp only [qy, qcF] at hr
      split at hr
      · rename_i y hy
        refine qlX hd hR hl hx (sl := none) hop ?_
        unfold qaZ
        rw [hy]
        exact hr
      · cases hr
    simp only [qvI, qvE, qvO, Option.some.injEq] at htr
    obtain ⟨l, hl, x', hx, rfl⟩ := htr
    refine fin rfl ?_
    simp only [qy] at hr
    cases hm : m 9 with
    | false => rw [hm] at hr; exact qlX hd hR hl hx hop hr
    | true => rw [hm] at hr; exact qnm hd hR hl hx hop hr
  | store t p x =>
    simp only [hop, jZ, qvI, qvE, qvO, Option.some.injEq] at htr
    obtain ⟨l, hl, p', hp, x', hx, rfl⟩ := htr
    exact fin rfl (qpd hd hR hl hp hx hop hr)
  | nilCheck x =>
    simp only [hop, jZ, Option.map_eq_some_iff] at htr
    obtain ⟨y, hy, rfl⟩ := htr
    exact fin rfl (qkG hd hR hy hop hr)
  | binOp op t x y yt =>
    simp only [hop, jZ, qvI, qvE, qvO, Option.some.injEq] at htr
    obtain ⟨kd, hk, x', hx, y', hy, rfl⟩ := htr
    exact fin rfl (qrJ hd hR hx hy hk hop hr)
  | unOp op t x =>
    simp only [hop, jZ, qvI, qvE, qvO, Option.some.injEq] at htr
    obtain ⟨x', hx, rfl⟩ := htr
    exact fin rfl (qt0 hd hR hx hop hr)
  | convert s t x =>
    simp only [hop, jZ] at htr
    split at htr
    · rename_i k1 k2 h1 h2
      simp only [qvI, qvE, qvO, Option.some.injEq] at htr
      obtain ⟨x', hx, rfl⟩ := htr
      exact fin rfl (qp7 hd hR hx h1 h2 hop hr)
    · rename_i h1 h2
      simp only [qvI, qvE, qvO, Option.some.injEq] at htr
      obtain ⟨x', hx, rfl⟩ := htr
      exact fin rfl (qoO hd hR hx h1 h2 hop hr)
    · rename_i e h1 h2
      split at htr
      · rename_i h3
        split at htr
        · simp only [qvI, qvE, qvO, Option.some.injEq] at htr
          obtain ⟨x', hx, rfl⟩ := htr
          exact fin rfl (qk4 hd hR hx h1 h2 h3 hop hr)
        · simp only [qvI, qvE, qvO, Option.some.injEq] at htr
          obtain ⟨x', hx, rfl⟩ := htr
          exact fin rfl (qpB hd hR hx h1 h2 h3 hop hr)
      · cases htr
    · rename_i e h1 h2
      split at htr
      · rename_i h3
        simp only [qvI, qvE, qvO, Option.some.injEq] at htr
        obtain ⟨x', hx, rfl⟩ := htr
        exact fin rfl (qqp hd hR hx h1 h2 h3 hop hr)
      · cases htr
    · cases htr
  | typeAssert x xt t c =>
    cases c with
    | false => simp [hop, jZ] at htr
    | true =>
      simp only [hop, jZ] at htr
      split at htr
      · cases htr
      · cases htr
      · rename_i dd hni hu
        split at htr
        · rename_i t' ht
          split at htr
          · rename_i hinj
            simp only [qvI, qvE, qvO, Option.some.injEq] at htr
            obtain ⟨z, hz, x', hx, rfl⟩ := htr
            exact fin rfl (qkz hd hR ht hinj hu (fun m e => hni m e) hz hx hop hr)
          · cases htr
        · cases htr
  | makeInterface t x =>
    simp only [hop, jZ] at htr
    split at htr
    · cases htr
    · cases htr
    · rename_i dd hni hu
      simp only [qvI, qvE, qvO, Option.some.injEq] at htr
      obtain ⟨t', ht, x', hx, rfl⟩ := htr
      exact fin rfl (qo1 hd hR ht hu (fun m e => hni m e) hx hop hr)
  | makeFunc fn xs ys =>
    cases fn with
    | func f =>
      simp only [hop, jZ, qvI, qvE, qvO, Option.some.injEq] at htr
      obtain ⟨f', hf, xs', hx, ys', hy, rfl⟩ := htr
      exact fin rfl (qru hd hR hf hx hy hop hr)
    | _ => simp [hop, jZ] at htr
  | makeMap t x =>
    cases x with
    | none =>
      simp only [hop, jZ] at htr
      split at htr
      · simp only [Option.some.injEq] at htr
        subst htr
        exact fin rfl (qpb hd hR hop hr)
      · cases htr
    | some x => simp [hop, jZ] at htr
  | makeSlice t x y =>
    simp only [hop, jZ] at htr
    split at htr
    · rename_i e hu
      split at htr
      · rename_i i z hi hz
        split at htr
        · rename_i hs
          simp only [qvI, qvE, qvO, Option.some.injEq] at htr
          obtain ⟨x', hx, y', hy, rfl⟩ := htr
          exact fin rfl (ql6 hd hR hu hi hz hs hx hy hop hr)
        · cases htr
      · cases htr
    · cases htr
  | slice t x lo hi mx =>
    cases mx with
    | some z =>
      cases hi with
      | none => simp [hop, jZ] at htr
      | some h =>
        simp only [hop, jZ] at htr
        split at htr
        · rename_i e hu
          simp only [qvI, qvE, qvO, Option.some.injEq] at htr
          obtain ⟨l, hl, x', hx, lo', hlo, hi', hhi, mx', hmx, rfl⟩ := htr
          exact fin rfl (qnO hd hR hu hl hx hlo hhi hmx hop hr)
        · cases htr
    | none =>
      simp only [hop, jZ] at htr
      split at htr
      · rename_i hu
        simp only [qvI, qvE, qvO, Option.some.injEq] at htr
        obtain ⟨x', hx, lo', hlo, hi', hhi, rfl⟩ := htr
        refine fin rfl ?_
        exact qny hd hR hu hx hlo hhi hop hr
      · rename_i e hu
        simp only [qvI, qvE, qvO, Option.some.injEq] at htr
        obtain ⟨l, hl, x', hx, lo', hlo, hi', hhi, rfl⟩ := htr
        exact fin rfl (qnh hd hR hu hl hx hlo hhi hop hr)
      · rename_i n e hu
        split at htr
        · rename_i i hi1
          split at htr
          · rename_i h1s
            simp only [qvI, qvE, qvO, Option.some.injEq] at htr
            obtain ⟨x', hx, lo', hlo, hi', hhi, rfl⟩ := htr
            exact fin rfl (qm1 hd hR hu hi1 h1s hx hlo hhi hop hr)
          · cases htr
        · cases htr
      · cases htr
  | fieldAddr t x f =>
    simp only [hop, jZ] at htr
    split at htr
    · rename_i fs hu
      split at htr
      · rename_i fd hfd
        split at htr
        · rename_i l hl
          split at htr
          · cases htr
          · rename_i h0
            simp only [qvI, qvE, qvO, Option.some.injEq] at htr
            obtain ⟨x', hx, rfl⟩ := htr
            exact fin rfl (qjL hd hR hu hfd hl h0 hx hop hr)
        · cases htr
      · cases htr
    · cases htr
  | field t x f =>
    simp only [hop, jZ] at htr
    split at htr
    · rename_i fs hu
      split at htr
      · rename_i fd hfd
        simp only [qvI, qvE, qvO, Option.some.injEq] at htr
        obtain ⟨x', hx, l, hl, rfl⟩ := htr
        exact fin rfl (qoF hd hR hu hfd hl hx hop hr)
      · cases htr
    · cases htr
  | indexAddr t x i =>
    simp only [hop, jZ] at htr
    split at htr
    · rename_i e hu
      simp only [qvI, qvE, qvO, Option.some.injEq] at htr
      obtain ⟨x', hx, i', hi, l, hl, rfl⟩ := htr
      exact fin rfl (qjx hd hR hu hl hx hi hop hr)
    · rename_i n e hu
      simp only [qvI, qvE, qvO, Option.some.injEq] at htr
      obtain ⟨x', hx, i', hi, l, hl, rfl⟩ := htr
      exact fin rfl (qiR hd hR hu hl hx hi hop hr)
    · cases htr
  | index t x i =>
    simp only [hop, jZ] at htr
    split at htr
    · rename_i hu
      simp only [qvI, qvE, qvO, Option.some.injEq] at htr
      obtain ⟨x', hx, i', hi, rfl⟩ := htr
      exact fin rfl (qoP hd hR hu hx hi hop hr)
    · cases htr
  | lookup t x i c =>
    simp only [hop, jZ] at htr
    split at htr
    · rename_i k e hu
      simp only [qvI, qvE, qvO, Option.some.injEq] at htr
      obtain ⟨kk, hk, z, hz, x', hx, i', hi, rfl⟩ := htr
      exact fin rfl (qnx hd hR hu hk hz hx hi hop hr)
    · cases htr
  | mapUpdate t p i x =>
    simp only [hop, jZ] at htr
    split at htr
    · rename_i k e hu
      simp only [qvI, qvE, qvO, Option.some.injEq] at htr
      obtain ⟨kk, hk, p', hp, i', hi, x', hx, rfl⟩ := htr
      exact fin rfl (qf0 hd hR hu hk hp hi hx (.inl hop) hr)
    · cases htr
  | insert t p i x =>
    simp only [hop, jZ] at htr
    split at htr
    · rename_i k e hu
      simp only [qvI, qvE, qvO, Option.some.injEq] at htr
      obtain ⟨kk, hk, p', hp, i', hi, x', hx, rfl⟩ := htr
      exact fin rfl (qf0 hd hR hu hk hp hi hx (.inr hop) hr)
    · cases htr
  | extract t i =>
    cases t with
    | tmp t =>
      simp only [hop, jZ, Option.some.injEq] at htr
      subst htr
      exact fin rfl (qlh hd hR hop hr)
    | _ => simp [hop, jZ] at htr
  | panic x =>
    simp only [hop, jZ, qvI, qvE, qvO, Option.some.injEq] at htr
    obtain ⟨x', hx, rfl⟩ := htr
    exact qo9 hR hx hop hr he
  | call c =>
    simp only [hop, jZ] at htr
    split at htr
    · rename_i hcal
      split at htr
      · rename_i s hats
        split at htr
        · rename_i hu
          simp only [qvI, qvE, qvO, Option.some.injEq] at htr
          obtain ⟨l, hl, rfl⟩ := htr
          refine fin rfl ?_
          rcases l with _ | ⟨x', _ | ⟨y', l⟩⟩
          · simp [qy, eBi] at hr
          · exact qrE hd hR hcal hats hu hl hop hr
          · simp [qy, eBi] at hr
        · rename_i e hu
          simp only [qvI, qvE, qvO, Option.some.injEq] at htr
          obtain ⟨l, hl, rfl⟩ := htr
          refine fin rfl ?_
          rcases l with _ | ⟨x', _ | ⟨y', l⟩⟩
          · simp [qy, eBi] at hr
          · exact qqd hd hR hcal hats hu hl hop hr
          · simp [qy, eBi] at hr
        · rename_i k e hu
          simp only [qvI, qvE, qvO, Option.some.injEq] at htr
          obtain ⟨l, hl, rfl⟩ := htr
          refine fin rfl ?_
          rcases l with _ | ⟨x', _ | ⟨y', l⟩⟩
          · simp [qy, eBi] at hr
          · exact qq1 hd hR hcal hats hu hl hop hr
          · simp [qy, eBi] at hr
        · cases htr
      · cases htr
    · rename_i hcal
      simp only [qvI, qvE, qvO, Option.some.injEq] at htr
      obtain ⟨l, hl, rfl⟩ := htr
      refine fin rfl ?_
      have hr' : (match qkK (l.map (rd st.env)) with | some v => ok v st | none => none) = some r := hr
      split at hr'
      · rename_i v hv
        exact qrX hd hR hcal hl hop hv hr'
      · cases hr'
    · rename_i hcal
      simp only [qvI, qvE, qvO, Option.some.injEq] at htr
      obtain ⟨l, hl, rfl⟩ := htr
      refine fin rfl ?_
      have hr' : (match qhJ (l.map (rd st.env)) with | some v => ok v st | none => none) = some r := hr
      split at hr'
      · rename_i v hv
        exact qsu hd hR hcal hl hop hv hr'
      · cases hr'
    · rename_i hcal
      split at htr
      · rename_i s u hats
        split at htr
        · rename_i e e2 hu hu2
          split at htr
          · rename_i i z hi hz
            split at htr
            · rename_i hzl
              split at htr
              · obtain ⟨k1, k2⟩ := qju hd hR hcal hats hu (.inr ⟨_, hu2⟩) hi hz hzl hop htr hr
                exact fin k1 k2
              simp only [qvI, qvE, qvO, Option.some.injEq] at htr
              obtain ⟨l, hl, rfl⟩ := htr
              refine fin rfl ?_
              rcases l with _ | ⟨x', _ | ⟨y', _ | ⟨z', l⟩⟩⟩
              · simp [qy, eBi] at hr
              · simp [qy, eBi] at hr
              · exact qjt hd hR hcal hats hu (.inr ⟨_, hu2⟩) hi hz hzl hl hop hr
              · simp [qy, eBi] at hr
            · cases htr
          · cases htr
        · rename_i e hu hu2
          split at htr
          · rename_i i z hi hz
            split at htr
            · rename_i hzl
              split at htr
              · obtain ⟨k1, k2⟩ := qju hd hR hcal hats hu (.inl hu2) hi hz hzl hop htr hr
                exact fin k1 k2
              simp only [qvI, qvE, qvO, Option.some.injEq] at htr
              obtain ⟨l, hl, rfl⟩ := htr
              refine fin rfl ?_
              rcases l with _ | ⟨x', _ | ⟨y', _ | ⟨z', l⟩⟩⟩
              · simp [qy, eBi] at hr
              · simp [qy, eBi] at hr
              · exact qjt hd hR hcal hats hu (.inl hu2) hi hz hzl hl hop hr
              · simp [qy, eBi] at hr
            · cases htr
          · cases htr
        · cases htr
      · cases htr
    · rename_i f hcal
      simp only [qvI, qvE, qvO] at htr
      obtain ⟨f', hf, l, hl, htr⟩ := htr
      split at htr
      · rename_i hnd
        simp only [Option.some.injEq] at htr
        subst htr
        exact qqF hcs hd hR hcal hf hl hnd hop hr he.k he.q
      · cases htr
    · cases htr
  | _ => simp [hop, jZ] at htr
end
end W

/-
  Frames of functions and of a range's rounds: what holds of an operation in the one holds in the other.
-/
set_option linter.unusedSimpArgs false
set_option linter.unusedVariables false
namespace W
open Go (World Value Addr IntKind Program TypeId FuncId Operand Act Oper Next Result Sem BinOp UnOp Ending Exit Code Fence)
inductive WF : Fence → Prop
  | wide : WF Fence.wide
  | round (l : Nat) : WF (Fence.wide.inRound l)
theorem WF.fn {F : Fence} (h : WF F) (f : FuncId) : F.fn f := by cases h <;> trivial
theorem WF.depth {F : Fence} (h : WF F) : F.depth.isSome = true → ∀ {p : Prop}, p := by cases h <;> (intro h; cases h)
theorem WF.room {F : Fence} (h : WF F) (n : Nat) : F.room n := by cases h <;> exact Go.room_wide n
theorem WF.steps {F : Fence} (h : WF F) {P : Program} {m m' : Go.Machine} : Go.StepsIn (Go.Machine.fenced P F) P m m' ↔ Go.Steps P m m' := by
  cases h with
  | wide => exact Go.stepsIn_wide
  | round l => rw [Go.fenced_inRound]; exact Go.stepsIn_wide
theorem WF.comes {F : Fence} (h : WF F) {P : Program} {m m' : Go.Machine} {e : Ending} : Go.ComesIn (Go.Machine.fenced P F) P m m' e ↔ Go.Comes P m m' e := by
  cases h with
  | wide => exact Go.comesIn_wide
  | round l => rw [Go.fenced_inRound]; exact Go.comesIn_wide
theorem WF.calls {F : Fence} (h : WF F) {n : Nat} {P : Program} {f : FuncId} {args : Array Value} {w : World} {R : Ending → World → Prop} : Go.CallsIn F n P f args w R ↔ Go.Calls P f args w R :=
  ⟨fun hc cs => let ⟨e, w', fr, r, s, x⟩ := hc.2 cs (h.room _); ⟨e, w', fr, r, h.comes.1 s, x⟩,
   fun hc => ⟨h.fn f, fun cs _ => let ⟨e, w', fr, r, s, x⟩ := hc cs; ⟨e, w', fr, r, h.comes.2 s, x⟩⟩⟩
def qdg (o : Go.Op) : Prop := ∀ c, o ≠ .defer c
theorem qgA {F : Fence} (hF : WF F) {n : Nat} {P : Program} {o : Oper} {a : Act} {w : World} {K : Act → World → Prop} {Q : Exit → Act → World → Prop} (hnd : F.round = none ∨ qdg o.op) (h : o.wp P a w K Q) :
    o.wpIn F n P a w K Q := by
  refine ⟨fun f _ => hF.fn f, ?_⟩
  have e : o.semAt F.round a.eval = Go.execOp a.eval o := by
    rcases hnd with h1 | h1
    · rw [h1]; rfl
    · exact Oper.semAt_eq _ _ _ h1
  rw [e]
  unfold Oper.wp at h
  generalize (Go.execOp a.eval o).run P w = r at h
  cases r with
  | ok x w' =>
    cases x <;> simp only [Oper.upon, Oper.uponIn] at h ⊢ <;> first
      | exact h
      | exact ⟨fun hd => hF.depth hd, hF.calls.2 h⟩
      | exact ⟨fun hd => hF.depth hd, fun c cs hr => let ⟨v, w', r, s⟩ := h c cs; ⟨v, w', r, hF.steps.2 s⟩⟩
      | exact h.elim
  | halt x w' => cases x <;> simp only [Oper.upon, Oper.uponIn] at h ⊢ <;> exact h
inductive MarksOk (g : Gh) (w0 w : World) : List Go.Deferred → Prop
  | nil : MarksOk g w0 w []
  | cons {d : Go.Deferred} {ms : List Go.Deferred} (r : Nat) (ht : d.target = .collected r) (hlo : w0.heap.size ≤ r) (hb : w.heap[r]? = some (.deferred (some []))) (ho : g.own r = none)
      (hf : ∀ d' ∈ ms, d'.target ≠ .collected r) (hl : MarksOk g w0 w ms) : MarksOk g w0 w (d :: ms)
theorem MarksOk.lt {g : Gh} {w0 w : World} {ms : List Go.Deferred} (h : MarksOk g w0 w ms) : ∀ d ∈ ms, ∃ r, d.target = .collected r ∧ w0.heap.size ≤ r ∧ r < w.heap.size := by
  induction h with
  | nil => intro d hd; cases hd
  | cons r ht hlo hb ho hf hl ih =>
    intro d hd
    rcases List.mem_cons.1 hd with rfl | hd
    · exact ⟨r, ht, hlo, (Array.getElem?_eq_some_iff.1 hb).1⟩
    · exact ih d hd
theorem MarksOk.mono {g g' : Gh} {w0 w w' : World} {ms : List Go.Deferred} (h : MarksOk g w0 w ms) (hE : Evo g w g' w') : MarksOk g' w0 w' ms := by
  induction h with
  | nil => exact .nil
  | cons r ht hlo hb ho hf hl ih =>
    obtain ⟨k1, k2, _⟩ := hE.keep r (Array.getElem?_eq_some_iff.1 hb).1 (.inl ho)
    exact .cons r ht hlo (k2.trans hb) (k1.trans ho) hf ih
theorem MarksOk.base {g : Gh} {w0 w0' w : World} (hs : w0'.heap.size ≤ w0.heap.size) {ms : List Go.Deferred} (h : MarksOk g w0 w ms) : MarksOk g w0' w ms := by
  induction h with
  | nil => exact .nil
  | cons r ht hlo hb ho hf hl ih => exact .cons r ht (Nat.le_trans hs hlo) hb ho hf ih
theorem MarksOk.append {g1 g2 : Gh} {w0 w1 w2 : World} (hE : Evo g1 w1 g2 w2) (hs : w0.heap.size ≤ w1.heap.size) {ms1 : List Go.Deferred} (h1 : MarksOk g1 w0 w1 ms1) : ∀ {ms2 : List Go.Deferred}, MarksOk g2 w1 w2 ms2 → MarksOk g2 w0 w2 (ms2 ++ ms1)
  | [], _ => h1.mono hE
  | d :: ms2, .cons r ht hlo hb ho hf hl => by
    refine .cons r ht (Nat.le_trans hs hlo) hb ho (fun d' hd' => ?_) (MarksOk.append hE hs h1 hl)
    rcases List.mem_append.1 hd' with h | h
    · exact hf d' h
    · obtain ⟨r', hr', _, hlt⟩ := h1.lt d' h
      rw [hr']
      intro e
      cases e
      omega
theorem qrc {w : World} {r : Nat} {o o' : Go.Obj} (h : w.heap[r]? = some o) (ho : o.isCells = false) (ho' : o'.isCells = false) (a : Addr) : (w.putObj r o').cell? a = w.cell? a := by
  by_cases e : a.block = r
  · have h1 : (w.putObj r o').heap[a.block]? = some o' := by rw [e]; exact Go.World.putObj_heap_same (Array.getElem?_eq_some_iff.1 h).1
    have h2 : w.heap[a.block]? = some o := by rw [e]; exact h
    simp only [World.cell?, h1, h2]
    cases o <;> cases o' <;> simp_all [Go.Obj.isCells]
  · have h1 : (w.putObj r o').heap[a.block]? = w.heap[a.block]? := Go.World.putObj_heap_other e
    simp only [World.cell?, h1]
section
variable {M : Maps} {g : Gh} {w : World} {r : Nat} {o o' : Go.Obj}
theorem qf1 : (w.putObj r o').heap.size = w.heap.size := by simp [World.putObj]
theorem qbb (h : w.heap[r]? = some o) (ho : o.isCells = false) (ho' : o'.isCells = false) : Grow g w g (w.putObj r o') := ⟨by rw [qf1]; exact qvC _, fun _ => qvC _, fun b x _ => qrc h ho ho' _⟩
theorem qdP (hown : g.own r = none) (ℓ : Loc) : Kept g w g (w.putObj r o') ℓ := ⟨fun b hb => ⟨hb, Go.World.putObj_heap_other (fun e => by subst e; rw [hb] at hown; cases hown), rfl⟩⟩
theorem qma {H : List Obj} (hH : RelH M g w H) (h : w.heap[r]? = some o) (ho : o.isCells = false) (ho' : o'.isCells = false) (hown : g.own r = none) : RelH M g (w.putObj r o') H :=
  ⟨hH.n, fun id ob hob => (hH.h id ob hob).mono (qbb h ho ho') (qvC _) (fun _ _ => rfl) (by rw [hH.n]; exact (List.getElem?_eq_some_iff.1 hob).1) (qdP hown _) (fun i => qdP hown _),
    fun b hb => hH.fresh b (by rw [qf1] at hb; exact hb), hH.gl.mono (qbb h ho ho')⟩
theorem qiA {g0 : Gh} {w0 : World} (hE : Evo g0 w0 g w) (hlo : w0.heap.size ≤ r) (h : w.heap[r]? = some o) (ho : o.isCells = false) (ho' : o'.isCells = false) : Evo g0 w0 g (w.putObj r o') :=
  ⟨hE.toGrow.trans (qbb h ho ho'), hE.n, hE.φ, fun b hb hx => by
    obtain ⟨h1, h2, h3⟩ := hE.keep b hb hx
    exact ⟨h1, (Go.World.putObj_heap_other (by omega)).trans h2, h3⟩, hE.io.1, hE.io.2⟩
theorem qiB {β : Nat → Nat} {st : St} {tmps : Array Value} (hR : Rel M g w β st tmps) (h : w.heap[r]? = some o) (ho : o.isCells = false) (ho' : o'.isCells = false) (hown : g.own r = none) : Rel M g (w.putObj r o') β st tmps := by
  have hH := qma hR.toH h ho ho' hown
  refine ⟨hH.n, fun k => ?_, hH.h, hH.fresh, hH.gl⟩
  exact (hR.e k).mono (qbb h ho ho') (qvC _) (fun _ _ => rfl) (qdP hown _) (qdP hown _) (fun i => qdP hown _)
end
end W

/-
  Regions in their order, code, loops.
-/
set_option linter.unusedSimpArgs false
set_option linter.unusedVariables false
namespace W
open Go (World Value Addr IntKind Program TypeId FuncId Operand Act Oper Next Result Sem BinOp UnOp Ending Exit Code Fence)
def DefOk (g : Gh) (w0 w : World) (ds ds' : List Go.Deferred) : Prop := ∃ ms, ds' = ms ++ ds ∧ MarksOk g w0 w ms
theorem DefOk.refl {g : Gh} {w0 w : World} {ds : List Go.Deferred} : DefOk g w0 w ds ds := ⟨[], rfl, .nil⟩
theorem DefOk.same {g : Gh} {w0 w : World} {ds ds' : List Go.Deferred} (h : ds' = ds) : DefOk g w0 w ds ds' := by subst h; exact .refl
theorem DefOk.trans {g1 g2 : Gh} {w0 w1 w2 : World} {d0 d1 d2 : List Go.Deferred} (hs : w0.heap.size ≤ w1.heap.size) (h1 : DefOk g1 w0 w1 d0 d1) (hE : Evo g1 w1 g2 w2) (h2 : DefOk g2 w1 w2 d1 d2) : DefOk g2 w0 w2 d0 d2 := by
  obtain ⟨m1, rfl, k1⟩ := h1
  obtain ⟨m2, rfl, k2⟩ := h2
  exact ⟨m2 ++ m1, by simp, k1.append hE hs k2⟩
theorem DefOk.mono {g g' : Gh} {w0 w w' : World} {ds ds' : List Go.Deferred} (h : DefOk g w0 w ds ds') (hE : Evo g w g' w') : DefOk g' w0 w' ds ds' := by
  obtain ⟨ms, h1, h2⟩ := h
  exact ⟨ms, h1, h2.mono hE⟩
structure Good (nd : Prop) (M : Maps) (g : Gh) (w : World) (a : Act) (st' : St) (a' : Act) (w' : World) : Prop where
  r : ∃ g' β', Rel M g' w' β' st' a'.tmps ∧ Evo g w g' w' ∧ DefOk g' w w' a.defers a'.defers
  size : a'.tmps.size = a.tmps.size
  d : nd → a'.defers = a.defers
structure BadEnd (nd : Prop) (M : Maps) (g : Gh) (w : World) (a : Act) (v : V) (st' : St) (ch : List Go.PanicEntry) (a' : Act) (w' : World) : Prop where
  r : ∃ g' cv β', ch = [{ v := cv, recovered := false }] ∧ Rel M g' w' β' st' a'.tmps ∧ Evo g w g' w' ∧ RepA M g' w' 0 v cv ∧ DefOk g' w w' a.defers a'.defers
  size : a'.tmps.size = a.tmps.size
  d : nd → a'.defers = a.defers
def Post (nd : Prop) (M : Maps) (g : Gh) (w : World) (a : Act) (e : Ex) (st' : St) : Exit → Act → World → Prop := fun x a' w' =>
  match e, x with
  | .nrm, .normal => Good nd M g w a st' a' w'
  | .exit id, .exit id' => id' = id ∧ Good nd M g w a st' a' w'
  | .ret, .ret => Good nd M g w a st' a' w'
  | .pan v, .panic ch => BadEnd nd M g w a v st' ch a' w'
  | _, _ => False
theorem Good.trans {nd nd' : Prop} {M : Maps} {g g1 : Gh} {w w1 : World} {a a1 : Act} {st' : St} {a' : Act} {w' : World} (hE : Evo g w g1 w1) (hs : a1.tmps.size = a.tmps.size) (hd : DefOk g1 w w1 a.defers a1.defers) (hd' : nd → a1.defers = a.defers) (hn : nd → nd') (h : Good nd' M g1 w1 a1 st' a' w') : Good nd M g w a st' a' w' :=
  let ⟨⟨g', β', h1, h2, h4⟩, h3, h5⟩ := h
  ⟨⟨g', β', h1, hE.trans h2, hd.trans hE.size h2 h4⟩, h3.trans hs, fun k => (h5 (hn k)).trans (hd' k)⟩
theorem Good.weak {nd nd' : Prop} {M : Maps} {g : Gh} {w : World} {a : Act} {st' : St} {a' : Act} {w' : World} (hn : nd → nd') (h : Good nd' M g w a st' a' w') : Good nd M g w a st' a' w' := ⟨h.r, h.size, fun k => h.d (hn k)⟩
theorem Post.trans {nd nd' : Prop} {M : Maps} {g g1 : Gh} {w w1 : World} {a a1 : Act} {e : Ex} {st' : St} (hE : Evo g w g1 w1) (hs : a1.tmps.size = a.tmps.size) (hd : DefOk g1 w w1 a.defers a1.defers) (hd' : nd → a1.defers = a.defers) (hn : nd → nd') {x : Exit} {a' : Act} {w' : World}
    (h : Post nd' M g1 w1 a1 e st' x a' w') : Post nd M g w a e st' x a' w' := by
  unfold Post at *
  split at h
  · exact h.trans hE hs hd hd' hn
  · exact ⟨h.1, h.2.trans hE hs hd hd' hn⟩
  · exact h.trans hE hs hd hd' hn
  · obtain ⟨⟨g', cv, β', h1, h2, h3, h4, h5⟩, h6, h7⟩ := h
    exact ⟨⟨g', cv, β', h1, h2, hE.trans h3, h4, hd.trans hE.size h3 h5⟩, h6.trans hs, fun k => (h7 (hn k)).trans (hd' k)⟩
  · exact h.elim
theorem Post.weak {nd nd' : Prop} {M : Maps} {g : Gh} {w : World} {a : Act} {e : Ex} {st' : St} (hn : nd → nd') {x : Exit} {a' : Act} {w' : World} (h : Post nd' M g w a e st' x a' w') : Post nd M g w a e st' x a' w' :=
  h.trans (Evo.refl g w) rfl .refl (fun _ => rfl) hn
theorem jq (a : Act) (d : Option Nat) (c : Value) : (a.put d c).tmps.size = a.tmps.size := by cases d <;> simp [Act.put]
theorem jd (a : Act) (d : Option Nat) (c : Value) : (a.put d c).defers = a.defers := by cases d <;> rfl
section
variable {P : Program} {M : Maps} {g : Gh} {w : World} {β : Nat → Nat} {st : St} {a : Act} {call : Call}
theorem qaB (hR : Rel M g w β st a.tmps) {ops : Array Oper} {o : Oper} {g' : Option (Nat × Bool)} (hg : gOf ops o.guard = some g') {b : Bool} (hw : wanted g' st.env = some b) :
    Go.Region.wanted o (Go.yielded ops a.tmps) = b := by
  unfold Go.Region.wanted
  cases ho : o.guard with
  | none =>
    rw [ho] at hg
    simp only [gOf, Option.some.injEq] at hg
    subst hg
    simpa [wanted] using hw
  | some jw =>
    obtain ⟨j, want⟩ := jw
    rw [ho] at hg
    simp only [gOf] at hg
    split at hg
    · rename_i o' ho'
      split at hg
      · rename_i d hd
        simp only [Option.some.injEq] at hg
        subst hg
        have hy : Go.yielded ops a.tmps j = match a.tmps[d]? with | some (.bool b) => some b | _ => none := by
          simp only [Go.yielded, ho', Option.bind_some, hd]
          rfl
        simp only [hy]
        have he := hR.e d
        simp only [wanted] at hw
        split at hw
        · rename_i z hz
          simp only [Option.some.injEq] at hw
          rw [hz] at he
          have hv : a.tmps.getD d Go.undef = .bool z := by
            generalize a.tmps.getD d Go.undef = c at he
            cases he with
            | s h => cases h with | d _ _ h => cases h; rfl
          rw [Array.getD_eq_getD_getElem?] at hv
          cases hq : a.tmps[d]? with
          | none => rw [hq] at hv; simp [Go.undef] at hv
          | some c =>
            rw [hq] at hv
            simp only [Option.getD_some] at hv
            subst hv
            rw [← hw]
            simp
        · rename_i hz
          simp only [Option.some.injEq] at hw
          rw [hz] at he
          have hv : a.tmps.getD d Go.undef = .tuple #[] := by
            generalize a.tmps.getD d Go.undef = c at he
            cases he with
            | s h => cases h with | tup _ vs h => 
              have : vs = #[] := Array.ext' (by
                generalize vs.toList = l at h
                cases h; rfl)
              rw [this]
          rw [Array.getD_eq_getD_getElem?] at hv
          rw [← hw]
          cases hq : a.tmps[d]? with
          | none => rfl
          | some c =>
            rw [hq] at hv
            simp only [Option.getD_some] at hv
            subst hv
            rfl
        · cases hw
      · cases hg
    · cases hg
theorem qgS (hR : Rel M g w β st a.tmps) {o : Oper} (hd : kp o a) : Rel M g w β (put o.dst (.tup []) st) (a.put o.dst Go.undef).tmps :=
  hR.putV hd (.s (.tup [] #[] .nil))
theorem qdz {g : Gh} {w0 w : World} (a : Act) (d : Option Nat) (c : Value) : DefOk g w0 w a.defers (a.put d c).defers := .same (jd a d c)
theorem qhc {a : Act} {d : Option Nat} {c : Value} {n : Nat} (h : d ≠ some n) : (a.put d c).tmps.getD n Go.undef = a.tmps.getD n Go.undef := by
  cases d with
  | none => rfl
  | some m =>
    have : m ≠ n := fun e => h (by rw [e])
    simp only [Act.put, Array.getD_eq_getD_getElem?]
    rw [Array.getElem?_setIfInBounds_ne this]
theorem qob (l : List Op) : ∀ (ns : List Nat) {st : St} {g : Gh} {e : Ex} {st' : St} {tmps : Array Value}, kj call ((ns.map fun n => (⟨none, .fz n, none⟩ : Op)) ++ l) st = some (e, st') → Rel M g w β st tmps →
    ∃ st1 g1, Rel M g1 w β st1 tmps ∧ Evo g w g1 w ∧ kj call l st1 = some (e, st')
  | [], st, g, e, st', tmps, h, hR => ⟨st, g, hR, Evo.refl g w, h⟩
  | n :: ns, st, g, e, st', tmps, h, hR => by
    simp only [qvM, List.cons_append, kj, wanted, qy] at h
    split at h
    · rename_i q hq
      obtain ⟨hp, g1, k1, k2⟩ := qty hR hq
      simp only [hp, cond_false, put] at h
      obtain ⟨st2, g2, j1, j2, j3⟩ := qob l ns h k1
      exact ⟨st2, g2, j1, k2.trans j2, j3⟩
    · cases h
theorem qoI (fz : List (Nat × Nat × Nat)) (rid i : Nat) : ∃ ns : List Nat, qqa fz rid i = ns.map fun n => (⟨none, .fz n, none⟩ : Op) := by
  refine ⟨(fz.filter fun (r, j, _) => r == rid && j == i).map (·.2.2), ?_⟩
  simp [qqa, List.map_map, Function.comp_def]
theorem qg8 (hcs : yc P M call) {A : Ann} {rid nt : Nat} {ops : Array Oper} {F : Fence} (hF : WF F) {n : Nat} (fz : List (Nat × Nat × Nat)) : ∀ (rest : List Oper) (i : Nat) (more : List Nat) (l : List Op) (st : St) (g : Gh) (w : World) (β : Nat → Nat) (a : Act), (∀ k o, rest[k]? = some o → ops[i + k]? = some o) →
    yL M P A rid ops i rest = some l → (∀ o ∈ rest, ∀ d, o.dst = some d → d < nt) → (∀ o ∈ rest, F.round = none ∨ qdg o.op) → nt ≤ a.tmps.size → ∀ (e : Ex) (st' : St), kj call (qlJ fz rid i l) st = some (e, st') → Rel M g w β st a.tmps →
    ∀ Q : Exit → Act → World → Prop, (∀ a' w', Good True M g w a st' a' w' → (∀ n, (∀ o ∈ rest, o.dst ≠ some n) → a'.tmps.getD n Go.undef = a.tmps.getD n Go.undef) → e = .nrm → Go.wpOpsIn F n P ops Q more a' w') → (∀ x a' w', Post True M g w a e st' x a' w' → e ≠ .nrm → Q x a' w') → Go.wpOpsIn F n P ops Q (List.range' i rest.length ++ more) a w
  | [], i, more, l, st, g, w, β, a, hget, htr, hdst, hnd, hnt, e, st', hrun, hR, Q, hK, hQ => by
    simp only [yL, Option.some.injEq] at htr
    subst htr
    simp only [qlJ, kj, Option.some.injEq, Prod.mk.injEq] at hrun
    obtain ⟨rfl, rfl⟩ := hrun
    exact hK _ _ ⟨⟨g, β, hR, Evo.refl g w, .refl⟩, rfl, fun _ => rfl⟩ (fun _ _ => rfl) rfl
  | o :: rest, i, more, l, st, g, w, β, a, hget, htr, hdst, hnd, hnt, e, st', hrun, hR, Q, hK, hQ => by
    simp only [yL] at htr
    split at htr
    · rename_i g' r hg hr
      simp only [Option.some.injEq] at htr
      subst htr
      have hoi : ops[i]? = some o := by simpa using hget 0 o rfl
      have hget' : ∀ k o, rest[k]? = some o → ops[i + 1 + k]? = some o := fun k o hk => by
        have := hget (k + 1) o (by simpa using hk)
        rwa [show i + (k + 1) = i + 1 + k by omega] at this
      have hd : kp o a := fun n hn => Nat.lt_of_lt_of_le (hdst o (by simp) n hn) hnt
      have hdst' : ∀ o ∈ rest, ∀ d, o.dst = some d → d < nt := fun o ho => hdst o (by simp [ho])
      have hnd' : ∀ o ∈ rest, F.round = none ∨ qdg o.op := fun o ho => hnd o (by simp [ho])
      rw [qvP, List.range'_succ, List.cons_append, Go.wpOpsIn_cons]
      unfold Go.wpOpIn
      simp only [hoi]
      obtain ⟨ns, hns⟩ := qoI fz rid i
      rw [qlJ, hns] at hrun
      obtain ⟨st0, g0, hR0, hE0, hrun⟩ := qob _ ns hrun hR
      have hK := fun a' w' (h : Good True M g0 w a st' a' w') => hK a' w' (h.trans hE0 rfl .refl (fun _ => rfl) id)
      have hQ := fun x a' w' (h : Post True M g0 w a e st' x a' w') => hQ x a' w' (h.trans hE0 rfl .refl (fun _ => rfl) id)
      clear hR
      revert hR0 hK hQ hrun
      clear hE0
      generalize g0 = g
      generalize st0 = st
      intro hR hrun hK hQ
      simp only [kj] at hrun
      split at hrun
      · rename_i hw
        rw [qaB hR hg hw]
        simp only [if_true]
        refine qgA hF (hnd o (by simp)) ?_
        split at hrun
        · rename_i q hq
          refine qnM hcs hd hR (qcT hq) (fun hloc hn => ?_) hq ⟨fun hp c w1 g1 β1 hR1 hE1 => ?_, fun hp cv w1 g1 β1 hR1 hE1 hv => ?_⟩
          · rw [hn] at hloc; simp at hloc
          · simp only [hp, cond_false] at hrun
            exact qg8 hcs hF fz rest (i + 1) more r _ g1 w1 β1 _ hget' hr hdst' hnd' (by rw [jq]; exact hnt) e st' hrun hR1 Q
              (fun a' w' hp hk he => hK a' w' (hp.trans hE1 (jq _ _ _) (qdz _ _ _) (fun _ => jd _ _ _) id) (fun n hn => (hk n (fun o ho => hn o (by simp [ho]))).trans (qhc (hn o (by simp)))) he) (fun x a' w' hpost => hQ x a' w' (hpost.trans hE1 (jq _ _ _) (qdz _ _ _) (fun _ => jd _ _ _) id))
          · simp only [hp, cond_true, Option.some.injEq, Prod.mk.injEq] at hrun
            obtain ⟨rfl, rfl⟩ := hrun
            exact hQ _ _ _ (show Post True M g w a (.pan q.v) q.st (.panic _) a w1 from ⟨⟨g1, cv, β1, rfl, hR1, hE1, hv, .refl⟩, rfl, fun _ => rfl⟩) (by simp)
        · cases hrun
      · rename_i hw
        rw [qaB hR hg hw]
        simp only [qvA, if_false]
        refine ⟨fun f _ => hF.fn f, ?_⟩
        exact qg8 hcs hF fz rest (i + 1) more r _ g w β _ hget' hr hdst' hnd' (by rw [jq]; exact hnt) e st' hrun (qgS hR hd) Q
          (fun a' w' hp hk he => hK a' w' (hp.trans (Evo.refl g w) (jq _ _ _) (qdz _ _ _) (fun _ => jd _ _ _) id) (fun n hn => (hk n (fun o ho => hn o (by simp [ho]))).trans (qhc (hn o (by simp)))) he) (fun x a' w' hpost => hQ x a' w' (hpost.trans (Evo.refl g w) (jq _ _ _) (qdz _ _ _) (fun _ => jd _ _ _) id))
      · cases hrun
    · cases htr
theorem qmg (rid : Nat) : ∀ (i : Nat) (l : List Op), qlJ [] rid i l = l
  | _, [] => rfl
  | i, o :: l => by rw [qlJ, qmg rid (i + 1) l]; rfl
theorem qfs (hcs : yc P M call) {A : Ann} {rid nt : Nat} {ops : Array Oper} {F : Fence} (hF : WF F) {n : Nat} : ∀ (rest : List Oper) (i : Nat) (more : List Nat) (l : List Op) (st : St) (g : Gh) (w : World) (β : Nat → Nat) (a : Act), (∀ k o, rest[k]? = some o → ops[i + k]? = some o) →
    yL M P A rid ops i rest = some l → (∀ o ∈ rest, ∀ d, o.dst = some d → d < nt) → (∀ o ∈ rest, F.round = none ∨ qdg o.op) → nt ≤ a.tmps.size → ∀ (e : Ex) (st' : St), kj call l st = some (e, st') → Rel M g w β st a.tmps →
    ∀ Q : Exit → Act → World → Prop, (∀ a' w', Good True M g w a st' a' w' → (∀ n, (∀ o ∈ rest, o.dst ≠ some n) → a'.tmps.getD n Go.undef = a.tmps.getD n Go.undef) → e = .nrm → Go.wpOpsIn F n P ops Q more a' w') → (∀ x a' w', Post True M g w a e st' x a' w' → e ≠ .nrm → Q x a' w') → Go.wpOpsIn F n P ops Q (List.range' i rest.length ++ more) a w :=
  fun rest i more l st g w β a hget htr hdst hnd hnt e st' hrun hR Q hK hQ => qg8 hcs hF [] rest i more l st g w β a hget htr hdst hnd hnt e st' (by rw [qmg]; exact hrun) hR Q hK hQ
theorem qsj (hcs : yc P M call) {A : Ann} {rid nt : Nat} {ops : Array Oper} {F : Fence} (hF : WF F) {n : Nat} {l : List Op} {st : St} {a : Act} (htr : yL M P A rid ops 0 ops.toList = some l) (hdst : ∀ o ∈ ops.toList, ∀ d, o.dst = some d → d < nt) (hnd : ∀ o ∈ ops.toList, F.round = none ∨ qdg o.op)
    (hnt : nt ≤ a.tmps.size) {e : Ex} {st' : St} (fz : List (Nat × Nat × Nat)) (hrun : kj call (qlJ fz rid 0 l) st = some (e, st')) (hR : Rel M g w β st a.tmps) {Q : Exit → Act → World → Prop} (hQ : ∀ x a' w', Post True M g w a e st' x a' w' → Q x a' w') : Go.wpOpsIn F n P ops Q (List.range ops.size) a w := by
  have := qg8 hcs hF (n := n) fz ops.toList 0 [] l st g w β a (fun k o hk => by simpa using hk) htr hdst hnd hnt e st' hrun hR Q (fun a' w' hg _ he => by subst he; exact hQ _ _ _ (show Post True M g w a .nrm st' .normal a' w' from hg)) (fun x a' w' hp _ => hQ x a' w' hp)
  rwa [List.append_nil, show List.range' 0 ops.toList.length = List.range ops.size by simp [List.range_eq_range']] at this
theorem qku (live : List Nat) (e : Env) (k : Nat) : get k (restrict live e) = (if k ∈ live then (match get k e with | .lp _ _ => .undef | v => v) else .undef) := by
  unfold restrict
  induction live with
  | nil => simp [get]
  | cons n l ih =>
    simp only [qvM, kD, ih]
    by_cases h : k = n
    · subst h; simp; cases get k e <;> rfl
    · simp [h]
theorem Rel.restrict {tmps : Array Value} (hR : Rel M g w β st tmps) (live : List Nat) : Rel M g w β { st with env := W.restrict live st.env } tmps := by
  refine ⟨hR.n, fun k => ?_, hR.h, hR.fresh, hR.gl⟩
  show RepT M g w β k (get k (W.restrict live st.env)) _
  rw [qku]
  split
  · have := hR.e k
    generalize get k st.env = v at this
    generalize tmps.getD k Go.undef = c at this
    cases this with
    | s h => cases h <;> exact .s (by constructor <;> assumption)
    | osl h => exact .osl h
    | lp s off => exact .s (.undef _)
    | cp x b off vs hr hc hp => exact .cp x b off vs hr hc hp
    | box cs arr T hb ho hp hl hr => exact .box cs arr T hb ho hp hl hr
  · exact .s (.undef _)
end
def qdq (P : Program) (M : Maps) (ex : C → St → Option (Ex × St)) : Prop :=
  ∀ (A : Ann) (blk : Nat) (code : Code) (c : C), trC M P A blk code = some c → ∀ st e st', ex c st = some (e, st') → ∀ g w β a nt, yR nt code = true → nt ≤ a.tmps.size → Rel M g w β st a.tmps →
    ∀ (F : Fence) (n : Nat), WF F → (F.round = none ∨ kc code = true) → ∀ Q : Exit → Act → World → Prop, (∀ x a' w', Post (kc code = true) M g w a e st' x a' w' → Q x a' w') → code.wpIn F n P Q a w
noncomputable def least (p : Nat → Prop) : Nat := open Classical in if h : ∃ n, p n ∧ ∀ m, m < n → ¬ p m then Classical.choose h else 0
theorem qev {p : Nat → Prop} {n : Nat} (h : p n) : p (least p) ∧ least p ≤ n := by
  have ex : ∃ n, p n ∧ ∀ m, m < n → ¬ p m := by
    induction n using Nat.strongRecOn with
    | _ n ih =>
      by_cases hm : ∃ m, m < n ∧ p m
      · obtain ⟨m, h1, h2⟩ := hm; exact ih m h1 h2
      · exact ⟨n, h, fun m h1 h2 => hm ⟨m, h1, h2⟩⟩
  unfold least
  rw [dif_pos ex]
  obtain ⟨h1, h2⟩ := Classical.choose_spec ex
  refine ⟨h1, ?_⟩
  rcases Nat.lt_or_ge n (Classical.choose ex) with hlt | hge
  · exact absurd h (h2 n hlt)
  · exact hge
def qoi (P : Program) (M : Maps) (call : Call) : Prop :=
  ∀ (A : Ann) (rid : Nat) (ops : Array Oper) (l : List Op), yL M P A rid ops 0 ops.toList = some l → qmV ops = true → qeu ops l = true →
    ∀ st e st', zg call (l.zipIdx.map fun (o, i) => (o, qa2 ops l o i, qer ops l i)) st = some (e, st') → ∀ g w β a nt, (∀ o ∈ ops.toList, ∀ d, o.dst = some d → d < nt) → nt ≤ a.tmps.size → Rel M g w β st a.tmps →
    ∀ (F : Fence) (n : Nat), WF F → (F.round = none ∨ kc (.region rid ops true) = true) → ∀ Q : Exit → Act → World → Prop, (∀ x a' w', Post True M g w a e st' x a' w' → Q x a' w') → (Code.region rid ops true).wpIn F n P Q a w
def qmT (P : Program) (M : Maps) (call : Call) : Prop :=
  ∀ (A : Ann) (rid : Nat) (ops : Array Oper) (l : List Op), yL M P A rid ops 0 ops.toList = some l → qmV ops = true → qeu ops l = true → qkr ops l = true →
    ∀ st st1 e st', zg call ((l.zipIdx.map fun (o, i) => (o, qa2 ops l o i, qer ops l i)).take (l.length - 1)) st = some (.nrm, st1) → kj call (l.drop (l.length - 1)) st1 = some (e, st') →
    ∀ g w β a nt, (∀ o ∈ ops.toList, ∀ d, o.dst = some d → d < nt) → nt ≤ a.tmps.size → Rel M g w β st a.tmps →
    ∀ (F : Fence) (n : Nat), WF F → (F.round = none ∨ kc (.region rid ops true) = true) → ∀ Q : Exit → Act → World → Prop, (∀ x a' w', Post True M g w a e st' x a' w' → Q x a' w') → (Code.region rid ops true).wpIn F n P Q a w
theorem qeZ {call : Call} : ∀ {l : List (Op × Bool × List Nat)} {st : St} {e : Ex} {st' : St}, zg call l st = some (e, st') → e = .nrm
  | [], st, e, st', h => by simp only [zg, Option.some.injEq, Prod.mk.injEq] at h; exact h.1.symm
  | (o, s, no) :: l, st, e, st', h => by
    simp only [zg] at h
    split at h
    · split at h
      · rw [qvD] at h
        split at h
        · cases h
        · split at h
          · exact qeZ h
          · cases h
      · cases h
    · exact qeZ h
    · cases h
theorem qd2 {nt : Nat} {rid : Nat} {ops : Array Oper} {b : Bool} (h : yR nt (.region rid ops b) = true) : ∀ o ∈ ops.toList, ∀ d, o.dst = some d → d < nt := fun o ho d hd => by
  simp only [yR, List.all_eq_true] at h
  have := h o ho
  rw [hd] at this
  simp only [Nat.blt_eq] at this
  exact this
theorem qn4 {F : Fence} {rid : Nat} {ops : Array Oper} {b : Bool} (h : F.round = none ∨ kc (.region rid ops b) = true) : ∀ o ∈ ops.toList, F.round = none ∨ qdg o.op := fun o ho => by
  rcases h with h | h
  · exact .inl h
  · refine .inr (fun c hc => ?_)
    simp only [kc, List.all_eq_true] at h
    have := h o ho
    rw [hc] at this
    cases this
def qmF (P : Program) (M : Maps) (ex : C → St → Option (Ex × St)) : Prop :=
  ∀ (k : Nat) (l : L) (f : Operand) (f' : O) (p0 p1 : Nat) (live : List Nat) (x y : Code) (a b : C) (A : Ann) (blk : Nat), look M.bk k = some l → opnd M false f = some f' → trC M P A blk x = some a → trC M P A blk y = some b → kc x = true → kc y = true →
    ∀ (c : V) (st : St) (n : Nat) (e : Ex) (st' : St), rd st.env f' = .fn k [] [c] → c.ok = true → qbu c st.H st.lo = some n → rounds (ex a) (ex b) l c p0 p1 (y7 live st.env) n st.H st.lo = some (e, st') →
    ∀ g w β act nt, p0 < nt → p1 < nt → yR nt x = true → yR nt y = true → nt ≤ act.tmps.size → Rel M g w β st act.tmps →
    ∀ m (Q : Exit → Act → World → Prop), (∀ x a' w', Post False M g w act e st' x a' w' → Q x a' w') → (Code.rangeFunc f #[p0, p1] x y).wpIn Fence.wide m P Q act w
theorem qmM {P : Program} {M : Maps} {pg : Pg} (hC : ∀ n, qdq P M (exec pg n) → yc P M (kQ pg (exec pg n))) (hO : ∀ n, yc P M (kQ pg (exec pg n)) → qoi P M (kQ pg (exec pg n)) ∧ qmT P M (kQ pg (exec pg n))) (hB : ∀ n, qdq P M (exec pg n) → qmF P M (exec pg n)) : ∀ n, qdq P M (exec pg n) := by
  intro n
  induction n using Nat.strongRecOn with
  | _ n IH =>
  cases n with
  | zero => intro A blk code c _ st e st' h; simp [exec] at h
  | succ n =>
    have ih := IH n (Nat.lt_succ_self n)
    have hcs := hC n ih
    intro A blk code c htr st e st' hrun g w β a nt hdst hnt hR F m hF hnd Q hQ
    have hrun : step (kQ pg (exec pg n)) (exec pg n) c st = some (e, st') := hrun
    cases code with
    | skip =>
      simp only [trC, Option.some.injEq] at htr
      subst htr
      simp only [step, Option.some.injEq, Prod.mk.injEq] at hrun
      obtain ⟨rfl, rfl⟩ := hrun
      exact Go.wpIn_skip (hQ _ _ _ (show Post _ M g w a .nrm st .normal a w from ⟨⟨g, β, hR, Evo.refl g w, .refl⟩, rfl, fun _ => rfl⟩))
    | region rid ops draw =>
      simp only [trC] at htr
      split at htr
      · rename_i l hl
        cases draw with
        | false =>
          simp only [qvA, if_false, Option.some.injEq] at htr
          subst htr
          refine Go.wpIn_region ?_
          exact qsj hcs hF hl (qd2 hdst) (qn4 hnd) hnt _ hrun hR (fun x a' w' hp => hQ x a' w' (hp.weak (fun _ => trivial)))
        | true =>
          simp only [if_true] at htr
          rw [qoU] at htr
          split at htr
          · rename_i hc
            simp only [qvB] at hc
            simp only [Option.some.injEq] at htr
            subst htr
            unfold qrh at hrun
            rw [qvD] at hrun
            split at hrun
            · rename_i hlast
              simp only [step] at hrun
              cases n with
              | zero => simp [exec] at hrun
              | succ k =>
                split at hrun
                · rename_i st1 h1
                  exact (hO k (hC k (IH k (by omega)))).2 A rid ops l hl hc.1 hc.2 hlast st st1 e st' h1 hrun g w β a nt (qd2 hdst) hnt hR F m hF hnd Q (fun x a' w' hp => hQ x a' w' (hp.weak (fun _ => trivial)))
                · rename_i hne
                  exfalso
                  have h2 : zg (kQ pg (exec pg k)) _ st = some (e, st') := hrun
                  have := qeZ h2
                  subst this
                  exact hne st' hrun
            · exact (hO _ hcs).1 A rid ops l hl hc.1 hc.2 st e st' hrun g w β a nt (qd2 hdst) hnt hR F m hF hnd Q (fun x a' w' hp => hQ x a' w' (hp.weak (fun _ => trivial)))
          · simp only [Option.some.injEq] at htr
            subst htr
            cases hrun
      · simp only [Option.some.injEq] at htr
        subst htr
        cases hrun
    | seq x y =>
      simp only [trC] at htr
      split at htr
      · rename_i cx cy hx hy
        simp only [Option.some.injEq] at htr
        subst htr
        simp only [yR, qvB] at hdst
        have hnd1 : F.round = none ∨ kc x = true := hnd.imp id (fun h => by simp only [kc, qvB] at h; exact h.1)
        have hnd2 : F.round = none ∨ kc y = true := hnd.imp id (fun h => by simp only [kc, qvB] at h; exact h.2)
        simp only [step] at hrun
        refine Go.wpIn_seq ?_
        split at hrun
        · rename_i st1 h1
          refine ih A blk x cx hx st _ st1 h1 g w β a nt hdst.1 hnt hR F m hF hnd1 _ (fun ex a1 w1 hp => ?_)
          unfold Post at hp
          split at hp
          · obtain ⟨⟨g1, β1, hR1, hE1, hd1⟩, hs1, hq1⟩ := hp
            exact ih A blk y cy hy st1 e st' hrun g1 w1 β1 a1 nt hdst.2 (by rw [hs1]; exact hnt) hR1 F m hF hnd2 Q (fun x' a' w' hp => hQ x' a' w' (hp.trans hE1 hs1 hd1 (fun h => hq1 (by simp only [kc, qvB] at h; exact h.1)) (fun h => by simp only [kc, qvB] at h; exact h.2)))
          all_goals first | exact hp.elim | (rename_i h; cases h)
        · rename_i hne
          refine ih A blk x cx hx st e st' hrun g w β a nt hdst.1 hnt hR F m hF hnd1 _ (fun ex a1 w1 hp => ?_)
          have hq := hQ ex a1 w1 (hp.weak (fun h => by simp only [kc, qvB] at h; exact h.1))
          cases ex with
          | normal =>
            exfalso
            cases e with
            | nrm => exact hne st' hrun
            | _ => exact hp
          | _ => exact hq
      · cases htr
    | cond o x y =>
      simp only [trC] at htr
      split at htr
      · rename_i o' cx cy ho hx hy
        simp only [Option.some.injEq] at htr
        subst htr
        simp only [yR, qvB] at hdst
        have hnd1 : F.round = none ∨ kc x = true := hnd.imp id (fun h => by simp only [kc, qvB] at h; exact h.1)
        have hnd2 : F.round = none ∨ kc y = true := hnd.imp id (fun h => by simp only [kc, qvB] at h; exact h.2)
        have ho1 := kr hR ho
        simp only [step] at hrun
        split at hrun
        · rename_i hv
          rw [hv] at ho1
          exact Go.wpIn_cond_true (qe3 ho1.inv_d) (ih A blk x cx hx st e st' hrun g w β a nt hdst.1 hnt hR F m hF hnd1 Q (fun x' a' w' hp => hQ x' a' w' (hp.weak (fun h => by simp only [kc, qvB] at h; exact h.1))))
        · rename_i hv
          rw [hv] at ho1
          exact Go.wpIn_cond_false (qe3 ho1.inv_d) (ih A blk y cy hy st e st' hrun g w β a nt hdst.2 hnt hR F m hF hnd2 Q (fun x' a' w' hp => hQ x' a' w' (hp.weak (fun h => by simp only [kc, qvB] at h; exact h.2))))
        · cases hrun
      · cases htr
    | block id x =>
      simp only [trC] at htr
      split at htr
      · rename_i cx hx
        simp only [Option.some.injEq] at htr
        subst htr
        simp only [yR] at hdst
        have hnd1 : F.round = none ∨ kc x = true := hnd.imp (fun h => h) (fun h => by simpa only [kc] using h)
        simp only [step] at hrun
        refine Go.wpIn_block ?_
        have res : ∀ {st1 : St} {a1 : Act} {w1 : World}, Good (kc x = true) M g w a st1 a1 w1 → Good (kc (.block id x) = true) M g w a { st1 with env := restrict ((look A.bl id).getD []) st1.env } a1 w1 := fun h => by
          obtain ⟨⟨g1, β1, hR1, hE1, hd1⟩, hs1, hq1⟩ := h
          exact ⟨⟨g1, β1, hR1.restrict _, hE1, hd1⟩, hs1, fun h => hq1 (by simpa only [kc] using h)⟩
        split at hrun
        · rename_i st1 h1
          simp only [Option.some.injEq, Prod.mk.injEq] at hrun
          obtain ⟨rfl, rfl⟩ := hrun
          refine ih A id x cx hx st _ st1 h1 g w β a nt hdst hnt hR F m hF hnd1 _ (fun ex a1 w1 hp => ?_)
          cases ex <;> first | exact hQ _ _ _ (show Post _ M g w a .nrm _ .normal a1 w1 from res hp) | exact hp.elim
        · rename_i j st1 h1
          rw [qvD] at hrun
          split at hrun
          · rename_i hj
            have hj := qvJ hj
            simp only [Option.some.injEq, Prod.mk.injEq] at hrun
            obtain ⟨rfl, rfl⟩ := hrun
            refine ih A id x cx hx st _ st1 h1 g w β a nt hdst hnt hR F m hF hnd1 _ (fun ex a1 w1 hp => ?_)
            cases ex with
            | exit id' =>
              obtain ⟨h2, h3⟩ := hp
              simp only [Exit.inBlock, h2, hj, if_true]
              exact hQ _ _ _ (show Post _ M g w a .nrm _ .normal a1 w1 from res h3)
            | _ => exact hp.elim
          · rename_i hj
            have hj : j ≠ id := fun e => hj (by subst e; simp)
            simp only [Option.some.injEq, Prod.mk.injEq] at hrun
            obtain ⟨rfl, rfl⟩ := hrun
            refine ih A id x cx hx st _ st1 h1 g w β a nt hdst hnt hR F m hF hnd1 _ (fun ex a1 w1 hp => ?_)
            cases ex with
            | exit id' =>
              have h2 := hp.1
              subst h2
              simp only [Exit.inBlock, hj, if_false]
              exact hQ _ _ _ (Post.weak (fun h => by simpa only [kc] using h) hp)
            | _ => exact hp.elim
        · rename_i hne1 hne2
          refine ih A id x cx hx st e st' hrun g w β a nt hdst hnt hR F m hF hnd1 _ (fun ex a1 w1 hp => ?_)
          cases e with
          | nrm => exact (hne1 st' hrun).elim
          | exit j => exact (hne2 j st' hrun).elim
          | _ => cases ex <;> first | exact hQ _ _ _ (Post.weak (fun h => by simpa only [kc] using h) hp) | exact hp.elim
      · cases htr
    | loop x =>
      simp only [trC] at htr
      split at htr
      · rename_i cx hx
        simp only [Option.some.injEq] at htr
        subst htr
        simp only [yR] at hdst
        have hnd1 : F.round = none ∨ kc x = true := hnd.imp id (fun h => by simpa only [kc] using h)
        let live := (look A.ll blk).getD []
        let J : Act → World → Nat → Prop := fun a1 w1 k => k ≤ n + 1 ∧ ∃ st1 g1 β1, Rel M g1 w1 β1 st1 a1.tmps ∧ Evo g w g1 w1 ∧ a1.tmps.size = a.tmps.size ∧ DefOk g1 w w1 a.defers a1.defers ∧ (kc x = true → a1.defers = a.defers) ∧ exec pg k (.loop live cx) st1 = some (e, st')
        refine Go.wpIn_loop (fun a1 w1 => ∃ k, J a1 w1 k) (fun a1 w1 => least (J a1 w1)) ⟨n + 1, qvC _, st, g, β, hR, Evo.refl g w, rfl, .refl, fun _ => rfl, hrun⟩ (fun a1 w1 hI => ?_)
        obtain ⟨k0, hk0⟩ := hI
        have hk := (qev hk0).1
        generalize least (J a1 w1) = k at hk
        obtain ⟨hkn, st1, g1, β1, hR1, hE1, hs1, hd1, hq1, hrun1⟩ := hk
        cases k with
        | zero => simp [exec] at hrun1
        | succ k =>
          have hrun1 : step (kQ pg (exec pg k)) (exec pg k) (.loop live cx) st1 = some (e, st') := hrun1
          have ihk := IH k (by omega)
          simp only [step] at hrun1
          split at hrun1
          · rename_i st2 h2
            refine ihk A blk x cx hx _ _ st2 h2 g1 w1 β1 a1 nt hdst (by rw [hs1]; exact hnt) (hR1.restrict live) F m hF hnd1 _ (fun ex a2 w2 hp => ?_)
            cases ex with
            | normal =>
              obtain ⟨⟨g2, β2, hR2, hE2, hd2⟩, hs2, hq2⟩ := (hp : Good (kc x = true) M g1 w1 a1 st2 a2 w2)
              have hJ : J a2 w2 k := ⟨by omega, st2, g2, β2, hR2, hE1.trans hE2, hs2.trans hs1, hd1.trans hE1.size hE2 hd2, fun h => (hq2 h).trans (hq1 h), hrun1⟩
              exact ⟨⟨k, hJ⟩, Nat.lt_succ_of_le (qev hJ).2⟩
            | _ => exact hp.elim
          · rename_i hne
            refine ihk A blk x cx hx _ e st' hrun1 g1 w1 β1 a1 nt hdst (by rw [hs1]; exact hnt) (hR1.restrict live) F m hF hnd1 _ (fun ex a2 w2 hp => ?_)
            have hq := hQ ex a2 w2 (hp.trans hE1 hs1 hd1 (fun h => hq1 (by simpa only [kc] using h)) (fun h => by simpa only [kc] using h))
            cases ex with
            | normal =>
              exfalso
              cases e with
              | nrm => exact hne st' hrun1
              | _ => exact hp
            | _ => exact hq
      · cases htr
    | exit id =>
      simp only [trC, Option.some.injEq] at htr
      subst htr
      simp only [step, Option.some.injEq, Prod.mk.injEq] at hrun
      obtain ⟨rfl, rfl⟩ := hrun
      exact Go.wpIn_exit (hQ _ _ _ (show Post _ M g w a (.exit id) st (.exit id) a w from ⟨rfl, ⟨g, β, hR, Evo.refl g w, .refl⟩, rfl, fun _ => rfl⟩))
    | ret =>
      simp only [trC, Option.some.injEq] at htr
      subst htr
      simp only [step, Option.some.injEq, Prod.mk.injEq] at hrun
      obtain ⟨rfl, rfl⟩ := hrun
      exact Go.wpIn_ret (hQ _ _ _ (show Post _ M g w a .ret st .ret a w from ⟨⟨g, β, hR, Evo.refl g w, .refl⟩, rfl, fun _ => rfl⟩))
    | rangeFunc f ps x y =>
      have hnone : F.round = none := hnd.resolve_right (by simp [kc])
      have hFw : F = Fence.wide := by cases hF with | wide => rfl | round l => cases hnone
      subst hFw
      simp only [trC] at htr
      split at htr
      · rename_i k hk
        split at htr
        · rename_i l f' p0 p1 cx cy hl hf hps hx hy
          split at htr
          · rename_i hnn
            simp only [qvB] at hnn
            simp only [Option.some.injEq] at htr
            subst htr
            obtain ⟨cv, q, h1, h2, h3, h4⟩ := qiX hrun
            have hps2 : ps = #[p0, p1] := by
              apply Array.ext'; simpa using hps
            subst hps2
            simp only [yR, qvB, List.all_cons, List.all_nil, Bool.and_true, Nat.blt_eq] at hdst
            exact hB n ih k l f f' p0 p1 _ x y cx cy A blk hl hf hx hy hnn.1 hnn.2 cv st q e st' h1 h2 h3 h4 g w β a nt hdst.1.1 hdst.1.2 hdst.2.1 hdst.2.2 hnt hR m Q (fun x' a' w' hp => hQ x' a' w' (hp.weak (fun h => by simp [kc] at h)))
          · simp only [Option.some.injEq] at htr; subst htr; cases hrun
        · simp only [Option.some.injEq] at htr; subst htr; cases hrun
      · simp only [Option.some.injEq] at htr; subst htr; cases hrun
    | _ =>
      simp only [trC, Option.some.injEq] at htr
      subst htr
      cases hrun
end W

/-
  Code with a deferred closure; closures that recover first.
-/
set_option linter.unusedSimpArgs false
set_option linter.unusedVariables false
namespace W
open Go (World Value Addr IntKind Program TypeId FuncId Operand Act Oper Next Result Sem BinOp UnOp Ending Exit Code Func Fence Frame)
def qhN (ex : C → St → Option (Ex × St)) : Prop := ∀ c st x, ex c st = some x → ∃ call ex', qkp ex' ex ∧ step call ex' c st = some x
theorem qfF {pg : Pg} (n : Nat) : qhN (exec pg n) := fun c st x h => by
  cases n with
  | zero => simp [exec] at h
  | succ n => exact ⟨_, _, qgQ n, h⟩
theorem qca {P : Program} {M : Maps} : yc P M qcG := fun i vs H r h => by cases h
def quw (M : Maps) (g : Gh) (w : World) (a : Act) (h : Nat) (first cap : List V) (e : Ex) (st' : St) (x : Exit) (a' : Act) (w' : World) : Prop :=
  ∃ g1 w1 a1 ds1 h' fv cv, look M.fm h' = some h ∧ RepSL M g1 w1 first fv.toList ∧ RepSL M g1 w1 cap cv.toList ∧ Evo g w g1 w1 ∧ a1.tmps.size = a.tmps.size ∧ DefOk g1 w w1 a.defers ds1 ∧
    a1.defers = { target := .fn (.func h') cv, args := fv } :: ds1 ∧ Post False M g1 w1 a1 e st' x a' w'
section
variable {P : Program} {M : Maps} {ex : C → St → Option (Ex × St)}
theorem qsr {call : Call} {q : Op} (hq : ∀ st, qy call q.k st = qy qcG q.k st) (st : St) : kj call [q] st = kj qcG [q] st := by
  simp only [kj, hq]
theorem qgX (he : qdq P M ex) (hs : qhN ex) {A : Ann} {nt : Nat} {m : Nat} : ∀ {c : Code} {pre : C} {t : Nat} {post : C}, trD M P A c = some (pre, t, post) → ∀ {st : St} {e1 : Ex} {st1 : St}, ex pre st = some (e1, st1) → ∀ {g : Gh} {w : World} {β : Nat → Nat} {a : Act}, yR nt c = true → nt ≤ a.tmps.size → Rel M g w β st a.tmps →
    ∀ {Q : Exit → Act → World → Prop}, (e1 ≠ .nrm → ∀ x a' w', Post False M g w a e1 st1 x a' w' → Q x a' w') →
    (e1 = .nrm → ∃ h first cap e2 st2, get t st1.env = .fn h first cap ∧ V.ok.oks (first ++ cap) = true ∧ ex post st1 = some (e2, st2) ∧ ∀ x a' w', quw M g w a h first cap e2 st2 x a' w' → Q x a' w') → c.wpIn Fence.wide m P Q a w
  | .region id ops draw, pre, t, post, htr, st, e1, st1, hrun, g, w, β, a, hdst, hnt, hR, Q, h1, h2 => by
    cases draw with
    | true => simp [trD] at htr
    | false =>
      simp only [trD] at htr
      split at htr
      · rename_i o1 o2 hops
        split at htr
        · rename_i f1 fa fb t' args ty l ho1 ho2 hd2 hg2 hl
          split at htr
          · rename_i hargs
            simp only [Option.some.injEq, Prod.mk.injEq] at htr
            obtain ⟨rfl, rfl, rfl⟩ := htr
            obtain ⟨call, ex', hle, hst⟩ := hs _ _ _ hrun
            have hst : kj call l st = some (e1, st1) := hst
            have hst' : kj qcG l st = some (e1, st1) := by
              simp only [yL] at hl
              split at hl
              · rename_i g' r hg hr
                simp only [Option.some.injEq] at hr
                subst hr
                simp only [Option.some.injEq] at hl
                subst hl
                rw [← qsr (fun st => ?_)]
                · exact hst
                · rw [ho1]
                  have key : ∀ k : Option OpK, (k = none ∨ ∃ f a b, k = some (.mkFn f a b)) → ∀ st, qy call (qbg k) st = qy qcG (qbg k) st := by
                    intro k hk st
                    rcases hk with rfl | ⟨f, a, b, rfl⟩ <;> rfl
                  refine key _ ?_ st
                  cases f1 with
                  | func f =>
                    simp only [jZ, qvI, qvO]
                    cases look M.fm f with
                    | none => exact .inl rfl
                    | some q =>
                      cases opnds M (fun _ => false) 0 fa.toList with
                      | none => exact .inl rfl
                      | some q1 =>
                        cases opnds M (fun _ => false) 0 fb.toList with
                        | none => exact .inl rfl
                        | some q2 => exact .inr ⟨_, _, _, rfl⟩
                  | _ => exact .inl rfl
              · cases hl
            have hsz : ops.size = 2 := by rw [← Array.length_toList, hops]; rfl
            refine Go.wpIn_region ?_
            have hget : ∀ k o, [o1][k]? = some o → ops[0 + k]? = some o := fun k o hk => by
              cases k with
              | zero => rw [← Array.getElem?_toList, hops]; simpa using hk
              | succ k => simp at hk
            have hdst' := qd2 hdst
            rw [hsz, show List.range 2 = List.range' 0 [o1].length ++ [1] from rfl]
            refine qfs qca .wide [o1] 0 [1] l st g w β a hget hl (fun o ho => hdst' o (by rw [hops]; simp only [List.mem_singleton] at ho; simp [ho])) (fun _ _ => .inl rfl) hnt e1 st1 hst' hR Q (fun a' w' hg _ he1 => ?_) (fun x a' w' hp hne => h1 hne x a' w' (hp.weak (fun h => h.elim)))
            obtain ⟨h, first, cap, e2, st2, k1, k2, k3, k4⟩ := h2 he1
            obtain ⟨call2, ex2, _, hsk⟩ := hs _ _ _ k3
            have hsk : some (Ex.nrm, st1) = some (e2, st2) := hsk
            simp only [Option.some.injEq, Prod.mk.injEq] at hsk
            obtain ⟨rfl, rfl⟩ := hsk
            obtain ⟨⟨g1, β1, hR1, hE1, hD1⟩, hs1, _⟩ := hg
            have ho : ops[1]? = some o2 := by rw [← Array.getElem?_toList, hops]; rfl
            have hT := hR1.e t'
            rw [k1] at hT
            generalize htm : a'.tmps.getD t' Go.undef = c at hT
            cases hT with
            | s hT =>
              cases hT with
              | fn _ f2 _ _ fv cv hlook hr1 hr2 =>
                simp only [Go.wpOpsIn, ho, Go.Region.wanted, hg2, if_true, Go.Oper.wpIn]
                refine ⟨fun f _ => trivial, ?_⟩
                have hres : (Go.execOp a'.eval o2).run P w' = .ok (.defer { target := .fn (.func f2) cv, args := fv }) w' := by
                  have hev : a'.eval (.tmp t') = .func (.func f2) fv cv := htm
                  have ha : args = #[] := by apply Array.ext'; simpa using hargs
                  subst ha
                  simp only [Go.execOp, ho2, Go.resolve, hev, Go.Deferred.ofValue, Sem.run_bind, Sem.run_pure, Result.andThen_ok]
                  simp
                show o2.uponIn _ _ _ _ _ _ ((o2.semAt none a'.eval).run P w')
                rw [Oper.semAt_none, hres, Oper.uponIn_defer, hd2]
                simp only [Go.Act.put]
                refine k4 .normal _ _ ⟨g1, w', { tmps := a'.tmps, defers := { target := .fn (.func f2) cv, args := fv } :: a'.defers }, a'.defers, f2, fv, cv, hlook, hr1, hr2, hE1, hs1, hD1, rfl, ?_⟩
                exact (show Good False M g1 w' _ st1 _ w' from ⟨⟨g1, β1, hR1, Evo.refl g1 w', .refl⟩, rfl, fun _ => rfl⟩)
          · cases htr
        · cases htr
      · cases htr
  | .seq x y, pre, t, post, htr, st, e1, st1, hrun, g, w, β, a, hdst, hnt, hR, Q, h1, h2 => by
    simp only [yR, qvB] at hdst
    simp only [trD] at htr
    refine Go.wpIn_seq ?_
    split at htr
    · rename_i pre' t' post' hx
      split at htr
      · rename_i cy hy
        simp only [Option.some.injEq, Prod.mk.injEq] at htr
        obtain ⟨rfl, rfl, rfl⟩ := htr
        refine qgX he hs hx hrun hdst.1 hnt hR (fun hne x a' w' hp => ?_) (fun he1 => ?_)
        · have hq := h1 hne x a' w' hp
          cases x with
          | normal =>
            exfalso
            cases e1 with
            | nrm => exact hne rfl
            | _ => exact hp
          | _ => exact hq
        · obtain ⟨h, first, cap, e2, st2, k1, k2, k3, k4⟩ := h2 he1
          obtain ⟨call2, ex2, hle, hst⟩ := hs _ _ _ k3
          simp only [step] at hst
          split at hst
          · rename_i stm hm
            refine ⟨h, first, cap, .nrm, stm, k1, k2, hle _ _ _ hm, fun x a' w' hp => ?_⟩
            have hp0 := hp
            obtain ⟨g2, w2, a2, ds1, h', fv, cv, q1, q2, q3, q4, q5, q6, q7, q8⟩ := hp
            cases x with
            | normal =>
              obtain ⟨⟨g3, β3, r1, r2, r3⟩, r4, _⟩ := (q8 : Good False M g2 w2 a2 stm a' w')
              refine he A 0 y cy hy stm e2 st2 (hle _ _ _ hst) g3 w' β3 a' nt hdst.2 (by rw [r4, q5]; exact hnt) r1 Fence.wide m .wide (.inl rfl) Q (fun x2 a3 w3 hp2 => ?_)
              exact k4 x2 a3 w3 ⟨g2, w2, a2, ds1, h', fv, cv, q1, q2, q3, q4, q5, q6, q7, hp2.trans r2 r4 r3 (fun h => h.elim) (fun h => h.elim)⟩
            | _ => exact q8.elim
          · rename_i hne
            refine ⟨h, first, cap, e2, st2, k1, k2, hle _ _ _ hst, fun x a' w' hp => ?_⟩
            have hq := k4 x a' w' hp
            cases x with
            | normal =>
              exfalso
              obtain ⟨g2, w2, a2, ds1, h', fv, cv, q1, q2, q3, q4, q5, q6, q7, q8⟩ := hp
              cases e2 with
              | nrm => exact hne st2 hst
              | _ => exact q8
            | _ => exact hq
      · cases htr
    · split at htr
      · rename_i cx pre' t' post' hx hy
        simp only [Option.some.injEq, Prod.mk.injEq] at htr
        obtain ⟨rfl, rfl, rfl⟩ := htr
        obtain ⟨call2, ex2, hle, hst⟩ := hs _ _ _ hrun
        simp only [step] at hst
        split at hst
        · rename_i stm hm
          refine he A 0 x cx hx st .nrm stm (hle _ _ _ hm) g w β a nt hdst.1 hnt hR Fence.wide m .wide (.inl rfl) _ (fun x' a1 w1 hp => ?_)
          cases x' with
          | normal =>
            obtain ⟨⟨g3, β3, r1, r2, r3⟩, r4, _⟩ := (hp : Good _ M g w a stm a1 w1)
            refine qgX he hs hy (hle _ _ _ hst) hdst.2 (by rw [r4]; exact hnt) r1 (fun hne x a' w' hp => h1 hne x a' w' (hp.trans r2 r4 r3 (fun h => h.elim) (fun h => h.elim))) (fun he1 => ?_)
            obtain ⟨h, first, cap, e2, st2, k1, k2, k3, k4⟩ := h2 he1
            refine ⟨h, first, cap, e2, st2, k1, k2, k3, fun x a' w' hp => ?_⟩
            obtain ⟨g2, w2, a2, ds1, h', fv, cv, q1, q2, q3, q4, q5, q6, q7, q8⟩ := hp
            exact k4 x a' w' ⟨g2, w2, a2, ds1, h', fv, cv, q1, q2, q3, r2.trans q4, q5.trans r4, r3.trans r2.size q4 q6, q7, q8⟩
          | _ => exact hp.elim
        · rename_i hne
          have hne' : e1 ≠ .nrm := fun h => hne st1 (by rw [hst, h])
          refine he A 0 x cx hx st e1 st1 (hle _ _ _ hst) g w β a nt hdst.1 hnt hR Fence.wide m .wide (.inl rfl) _ (fun x' a1 w1 hp => ?_)
          have hq := h1 hne' x' a1 w1 (hp.weak (fun h => h.elim))
          cases x' with
          | normal =>
            exfalso
            cases e1 with
            | nrm => exact hne' rfl
            | _ => exact hp
          | _ => exact hq
      · cases htr
  | .skip, _, _, _, htr, _, _, _, _, _, _, _, _, _, _, _, _, _, _ => by cases htr
  | .cond _ _ _, _, _, _, htr, _, _, _, _, _, _, _, _, _, _, _, _, _, _ => by cases htr
  | .block _ _, _, _, _, htr, _, _, _, _, _, _, _, _, _, _, _, _, _, _ => by cases htr
  | .loop _, _, _, _, htr, _, _, _, _, _, _, _, _, _, _, _, _, _, _ => by cases htr
  | .rangeFunc _ _ _ _, _, _, _, htr, _, _, _, _, _, _, _, _, _, _, _, _, _, _ => by cases htr
  | .exit _, _, _, _, htr, _, _, _, _, _, _, _, _, _, _, _, _, _, _ => by cases htr
  | .scope _, _, _, _, htr, _, _, _, _, _, _, _, _, _, _, _, _, _, _ => by cases htr
  | .label _, _, _, _, htr, _, _, _, _, _, _, _, _, _, _, _, _, _, _ => by cases htr
  | .goto _, _, _, _, htr, _, _, _, _, _, _, _, _, _, _, _, _, _, _ => by cases htr
  | .ret, _, _, _, htr, _, _, _, _, _, _, _, _, _, _, _, _, _, _ => by cases htr
  | .refuse _, _, _, _, htr, _, _, _, _, _, _, _, _, _, _, _, _, _, _ => by cases htr
theorem qkw (he : qdq P M ex) (hs : qhN ex) {A : Ann} {nt : Nat} {m : Nat} : ∀ {c : Code} {d : Nat} {x : C}, trH M P A c = some (d, x) → ∀ {st : St} {v : V} {e : Ex} {st1 : St}, ex x ⟨(d, v) :: st.env, st.H, st.lo⟩ = some (e, st1) → e = .nrm ∨ e = .ret →
    ∀ {g : Gh} {w : World} {β : Nat → Nat} {a : Act} {cs cs' : List Frame} {cv : Value}, yR nt c = true → nt ≤ a.tmps.size → Rel M g w β st a.tmps → RepS M g w v cv → (Go.recoverD cs = some (cv, cs') ∨ (Go.recoverD cs = none ∧ cv = .nilIface ∧ cs' = cs)) →
    ∀ {Q : Exit → Act → List Frame → World → Prop}, (∀ x a' w', Post (kc c = true) M g w a e st1 x a' w' → Q x a' cs' w') → c.wpSIn Fence.wide m P Q a cs w
  | .region id ops draw, d, x, htr, st, v, e, st1, hrun, hen, g, w, β, a, cs, cs', cv, hdst, hnt, hR, hv, hrec, Q, hQ => by
    cases draw with
    | true => simp [trH] at htr
    | false =>
      simp only [trH] at htr
      split at htr
      · rename_i o o2 hops
        split at htr
        · rename_i args tys y d' l ho ho2 hd hg hl
          simp only [Option.some.injEq, Prod.mk.injEq] at htr
          obtain ⟨rfl, rfl⟩ := htr
          obtain ⟨call, ex', hle, hst⟩ := hs _ _ _ hrun
          have hst : kj call l ⟨(d', v) :: st.env, st.H, st.lo⟩ = some (e, st1) := hst
          have hdst' := qd2 hdst
          have hsz : ops.size = 2 := by rw [← Array.length_toList, hops]; rfl
          have h0 : ops[0]? = some o := by rw [← Array.getElem?_toList, hops]; rfl
          have h1 : ops[1]? = some o2 := by rw [← Array.getElem?_toList, hops]; rfl
          refine Go.wpSIn_region ?_
          rw [hsz, show List.range 2 = [0, 1] from rfl]
          have hrun0 : (Go.execOp a.eval o).run P w = .ok .recover w := by
            simp only [Go.execOp, ho, Go.resolve, Sem.run_bind, Sem.run_pure, Result.andThen_ok, Go.invoke]
            rfl
          have hdo : kp o a := fun n hn => Nat.lt_of_lt_of_le (hdst' o (by rw [hops]; simp) n hn) hnt
          have hR0 : Rel M g w β ⟨(d', v) :: st.env, st.H, st.lo⟩ (a.put o.dst cv).tmps := by
            have := hR.putV hdo (.s hv)
            rw [yb (RepV.notBox (RepV.s hv) (β := β)), hd] at this
            rw [hd]
            exact this
          have tail : Go.wpOpsSIn Fence.wide m P ops Q [1] (a.put o.dst cv) cs' w := by
            simp only [yL] at hl
            split at hl
            · rename_i g' r hg2 hr
              simp only [Option.some.injEq] at hr
              subst hr
              simp only [Option.some.injEq] at hl
              subst hl
              have hd2 : kp o2 (a.put o.dst cv) := fun n hn => by rw [jq]; exact Nat.lt_of_lt_of_le (hdst' o2 (by rw [hops]; simp) n hn) hnt
              simp only [Go.wpOpsSIn, h1]
              refine ⟨fun f _ => trivial, ?_⟩
              simp only [kj] at hst
              have fin : ∀ (c : Value) (w' : World) (g' : Gh) (β' : Nat → Nat) (stx : St), e = .nrm → stx = st1 → Rel M g' w' β' stx ((a.put o.dst cv).put o2.dst c).tmps → Evo g w g' w' → Q .normal ((a.put o.dst cv).put o2.dst c) cs' w' := by
                intro c w' g' β' stx he1 hx hR' hE'
                subst hx
                subst he1
                refine hQ .normal _ w' (show Good _ M g w a stx _ w' from ⟨⟨g', β', hR', hE', .same (by rw [jd, jd])⟩, by rw [jq, jq], fun _ => by rw [jd, jd]⟩)
              split at hst
              · rename_i hw
                rw [qaB hR0 hg2 hw]
                simp only [if_true]
                split at hst
                · rename_i q hq
                  have hk := qcT hq
                  rw [ho2] at hk
                  simp only [jZ, Option.map_eq_some_iff] at hk
                  obtain ⟨y', hy, hk⟩ := hk
                  rw [ho2] at hq
                  simp only [jZ, hy, qvH, qbg] at hq
                  have hq' : qks y' ⟨(d', v) :: st.env, st.H, st.lo⟩ = some q := hq
                  have hq2 := hq'
                  simp only [qks, ok, Option.some.injEq] at hq2
                  have hpan : q.pan = false := by rw [← hq2]
                  rw [hpan] at hst
                  simp only [cond_false, Option.some.injEq, Prod.mk.injEq] at hst
                  obtain ⟨c, w', g', β', hyi, hR', hE'⟩ := qkB hd2 hR0 hy (.inr ho2) hq'
                  cases hyi with
                  | value h => rw [h]; exact fin c w' g' β' _ hst.1.symm hst.2 hR' hE'
                  | skip h => rw [h]; exact fin _ w' g' β' _ hst.1.symm hst.2 hR' hE'
                · cases hst
              · rename_i hw
                rw [qaB hR0 hg2 hw]
                simp only [qvA, if_false]
                simp only [Option.some.injEq, Prod.mk.injEq] at hst
                exact fin _ w g β _ hst.1.symm hst.2 (qgS hR0 hd2) (Evo.refl g w)
              · cases hst
            · cases hl
          show Go.wpOpsSIn Fence.wide m P ops Q (0 :: [1]) a cs w
          unfold Go.wpOpsSIn
          simp only [h0]
          refine ⟨fun f _ => trivial, ?_⟩
          simp only [Go.Region.wanted, hg, if_true, hrun0]
          rcases hrec with hrec | ⟨hrec, rfl, rfl⟩
          · rw [hrec]; exact tail
          · rw [hrec]; exact tail
        · cases htr
      · cases htr
  | .seq x y, d, z, htr, st, v, e, st1, hrun, hen, g, w, β, a, cs, cs', cv, hdst, hnt, hR, hv, hrec, Q, hQ => by
    simp only [yR, qvB] at hdst
    simp only [trH] at htr
    split at htr
    · rename_i d' x' y' hx hy
      simp only [Option.some.injEq, Prod.mk.injEq] at htr
      obtain ⟨rfl, rfl⟩ := htr
      obtain ⟨call, ex', hle, hst⟩ := hs _ _ _ hrun
      simp only [step] at hst
      refine Go.wpSIn_seq ?_
      split at hst
      · rename_i stm hm
        refine qkw he hs hx (hle _ _ _ hm) (.inl rfl) hdst.1 hnt hR hv hrec (fun z a1 w1 hp => ?_)
        cases z with
        | normal =>
          obtain ⟨⟨g3, β3, r1, r2, r3⟩, r4, r5⟩ := (hp : Good _ M g w a stm a1 w1)
          refine Go.wpSIn_of_wpIn rfl (he A 0 y y' hy stm e st1 (hle _ _ _ hst) g3 w1 β3 a1 nt hdst.2 (by rw [r4]; exact hnt) r1 Fence.wide m .wide (.inl rfl) _ (fun x2 a3 w3 hp2 => ?_))
          exact hQ x2 a3 w3 (hp2.trans r2 r4 r3 (fun h => r5 (by simp only [kc, qvB] at h; exact h.1)) (fun h => by simp only [kc, qvB] at h; exact h.2))
        | _ => exact hp.elim
      · rename_i hne
        have hret : e = .ret := hen.resolve_left (fun h => hne st1 (by rw [hst, h]))
        subst hret
        refine qkw he hs hx (hle _ _ _ hst) (.inr rfl) hdst.1 hnt hR hv hrec (fun z a1 w1 hp => ?_)
        cases z with
        | ret => exact hQ _ _ _ (hp.weak (fun h => by simp only [kc, qvB] at h; exact h.1))
        | _ => exact hp.elim
    · cases htr
  | .skip, _, _, htr, _, _, _, _, _, _, _, _, _, _, _, _, _, _, _, _, _, _, _, _ => by cases htr
  | .cond _ _ _, _, _, htr, _, _, _, _, _, _, _, _, _, _, _, _, _, _, _, _, _, _, _, _ => by cases htr
  | .block _ _, _, _, htr, _, _, _, _, _, _, _, _, _, _, _, _, _, _, _, _, _, _, _, _ => by cases htr
  | .loop _, _, _, htr, _, _, _, _, _, _, _, _, _, _, _, _, _, _, _, _, _, _, _, _ => by cases htr
  | .rangeFunc _ _ _ _, _, _, htr, _, _, _, _, _, _, _, _, _, _, _, _, _, _, _, _, _, _, _, _ => by cases htr
  | .exit _, _, _, htr, _, _, _, _, _, _, _, _, _, _, _, _, _, _, _, _, _, _, _, _ => by cases htr
  | .scope _, _, _, htr, _, _, _, _, _, _, _, _, _, _, _, _, _, _, _, _, _, _, _, _ => by cases htr
  | .label _, _, _, htr, _, _, _, _, _, _, _, _, _, _, _, _, _, _, _, _, _, _, _, _ => by cases htr
  | .goto _, _, _, htr, _, _, _, _, _, _, _, _, _, _, _, _, _, _, _, _, _, _, _, _ => by cases htr
  | .ret, _, _, htr, _, _, _, _, _, _, _, _, _, _, _, _, _, _, _, _, _, _, _, _ => by cases htr
  | .refuse _, _, _, htr, _, _, _, _, _, _, _, _, _, _, _, _, _, _, _, _, _, _, _, _ => by cases htr
end
end W

/-
  A range over slices.Backward(x): simulated.
-/
set_option linter.unusedSimpArgs false
set_option linter.unusedVariables false
namespace W
open Go (World Value Addr IntKind Program TypeId FuncId Operand Act Oper Next Result Sem BinOp UnOp Ending Exit Code Func Fence Frame)
def qdh (tS tI : TypeId) : Array Oper := #[⟨some 4, .load tS (.tmp 1), tS, "iter.go:28", #[], none⟩,
  ⟨some 5, .call ⟨.builtin .len, #[.tmp 4], #[tS]⟩, tI, "iter.go:28", #[⟨0, .data⟩], none⟩,
  ⟨some 6, .binOp .sub tI (.tmp 5) (.const (.int .i64 1)) tI, tI, "iter.go:28", #[⟨1, .data⟩], none⟩,
  ⟨some 3, .assign (.tmp 6), tI, "iter.go:28", #[⟨2, .data⟩, ⟨0, .phase⟩, ⟨1, .phase⟩, ⟨2, .phase⟩], none⟩]
def qct (tI tB : TypeId) : Array Oper := #[⟨some 7, .move (.tmp 3), tI, "iter.go:28", #[], none⟩,
  ⟨some 8, .binOp .geq tI (.tmp 7) (.const (.int .i64 0)) tI, tB, "iter.go:28", #[⟨0, .data⟩], none⟩]
def jY (tS tE tY tI tB t0 : TypeId) : Array Oper := #[⟨some 11, .move (.tmp 0), tY, "iter.go:29", #[], none⟩,
  ⟨some 12, .move (.tmp 3), tI, "iter.go:29", #[], none⟩,
  ⟨some 13, .load tS (.tmp 1), tS, "iter.go:29", #[], none⟩,
  ⟨some 14, .move (.tmp 3), tI, "iter.go:29", #[], none⟩,
  ⟨some 15, .indexAddr tS (.tmp 13) (.tmp 14), t0, "iter.go:29", #[⟨2, .data⟩, ⟨3, .data⟩], none⟩,
  ⟨some 16, .load tE (.tmp 15), tE, "iter.go:29", #[⟨4, .data⟩], none⟩,
  ⟨some 17, .call ⟨.value (.tmp 11), #[.tmp 12, .tmp 16], #[tI, tE]⟩, tB, "iter.go:29", #[⟨0, .data⟩, ⟨1, .data⟩, ⟨5, .data⟩], none⟩,
  ⟨some 18, .unOp .not tB (.tmp 17), tB, "iter.go:29", #[⟨6, .data⟩], none⟩]
def qa5 (tI : TypeId) : Array Oper := #[⟨some 9, .move (.tmp 3), tI, "iter.go:28", #[], none⟩,
  ⟨some 10, .binOp .sub tI (.tmp 9) (.const (.int .i64 1)) tI, tI, "iter.go:28", #[⟨0, .data⟩], none⟩,
  ⟨some 3, .assign (.tmp 10), tI, "iter.go:28", #[⟨1, .data⟩, ⟨0, .phase⟩, ⟨1, .phase⟩], none⟩]
def qmi (tS tE tY tI tB t0 : TypeId) : Code :=
  .seq (.region 0 (qdh tS tI) false) (.block 0 (.loop (.seq (.seq (.region 1 (qct tI tB) false) (.cond (.tmp 8) .skip (.exit 0)))
    (.seq (.block 1 (.seq (.region 3 (jY tS tE tY tI tB t0) false) (.cond (.tmp 18) .ret .skip))) (.region 2 (qa5 tI) false)))))
def qtS (P : Program) (f : FuncId) (l : L) : Prop := ∃ tS tE tY tI tB t0 fn, P.funcs[f]? = some fn ∧ (fn.name == "runtime.NumGoroutine") = false ∧ fn.body = some (qmi tS tE tY tI tB t0) ∧ fn.ntmps = 19 ∧ fn.results = #[] ∧
  P.underlying tS = some (.slice tE) ∧ lay P tS = some ⟨1, false⟩ ∧ lay P tE = some l ∧ P.underlying tI = some (.int .i64) ∧ P.underlying tB = some .bool
def qkR (P : Program) (M : Maps) : Prop := ∀ f' k l, look M.fm f' = some k → look M.bk k = some l → qtS P f' l
theorem qlG {P : Program} {M : Maps} (h : M.bk = []) : qkR P M := fun f' k l _ hk => by rw [h] at hk; cases hk
def OpK.plain : OpK → Bool
  | .mov (.t _) => true
  | .load false _ _ _ => true
  | .bi .lenL _ => true
  | .bin _ _ _ _ => true
  | .un _ _ => true
  | .indexAddr _ _ _ _ => true
  | _ => false
theorem qlt {call : Call} {k : OpK} {st : St} {r : Or} (hk : k.plain = true) (h : qy call k st = some r) : r.st = st ∧ r.pan = false := by
  have key : ∀ {v : V}, ok v st = some r → r.st = st ∧ r.pan = false := fun h => by
    simp only [ok, Option.some.injEq] at h; subst h; exact ⟨rfl, rfl⟩
  cases k with
  | mov x => cases x with
    | t n => exact key h
    | _ => cases hk
  | load mv sl l a =>
    cases mv with
    | true => cases hk
    | false =>
      simp only [qy, qaZ, cond_false, qvD] at h
      split at h
      · cases h
      · split at h
        · rename_i hc; cases hc
        · split at h
          · exact key h
          · cases h
  | bi b l =>
    cases b with
    | lenL =>
      have h : eBi .lenL l st = some r := h
      match l with
      | [x] =>
        have h : qcI x st = some r := h
        unfold qcI at h
        repeat' (split at h)
        all_goals first | exact key h | cases h
      | [] => cases h
      | _ :: _ :: _ => cases h
    | _ => cases hk
  | bin op kd x y =>
    simp only [qy] at h
    unfold qiw at h
    split at h
    · exact key h
    · cases h
  | un op x =>
    simp only [qy] at h
    unfold eUn at h
    repeat' (split at h)
    all_goals first | exact key h | cases h
  | indexAddr x i n arr =>
    simp only [qy] at h
    unfold zI qaz yU at h
    simp only [qvD] at h
    repeat' (split at h)
    all_goals first | exact key h | cases h
  | _ => cases hk
theorem qm8 {m : Nat} {dst : Option Nat} {v c : V} {st : St} (hc : c.ok = true) (hg : get m st.env = c) (hd : dst ≠ some m) : get m (put dst v st).env = c := by
  cases dst with
  | none => exact hg
  | some n =>
    have hne : m ≠ n := fun e => hd (by rw [e])
    show get m ((n, v) :: _) = c
    rw [kD, if_neg hne]
    cases v with
    | box cs =>
      show get m (qcl n st.env) = c
      rw [qgr, hg]
      cases c <;> first | rfl | cases hc
    | _ => exact hg
theorem qcO {call : Call} : ∀ (l : List Op) {st : St} {e : Ex} {st' : St}, (∀ q ∈ l, q.k.plain = true ∧ q.g = none) → kj call l st = some (e, st') → e = .nrm ∧ st'.H = st.H ∧ st'.lo = st.lo ∧
    ∀ m c, c.ok = true → get m st.env = c → (∀ q ∈ l, q.dst ≠ some m) → get m st'.env = c
  | [], st, e, st', _, h => by
    simp only [kj, Option.some.injEq, Prod.mk.injEq] at h
    obtain ⟨rfl, rfl⟩ := h
    exact ⟨rfl, rfl, rfl, fun m c _ hg _ => hg⟩
  | q :: l, st, e, st', hl, h => by
    obtain ⟨h1, h2⟩ := hl q (by simp)
    simp only [kj, h2, wanted] at h
    split at h
    · rename_i r hr
      obtain ⟨k1, k2⟩ := qlt h1 hr
      rw [k2, cond_false, k1] at h
      obtain ⟨i1, i2, i3, i4⟩ := qcO l (fun q hq => hl q (by simp [hq])) h
      refine ⟨i1, i2.trans (by cases q.dst <;> rfl), i3.trans (by cases q.dst <;> rfl), fun m c hc hg hd => ?_⟩
      exact i4 m c hc (qm8 hc hg (hd q (by simp))) (fun q' hq' => hd q' (by simp [hq']))
    · cases h
section
variable {P : Program} {M : Maps}
theorem qf6 {g : Gh} {w : World} {H : List Obj} (hH : RelH M g w H) {β : Nat → Nat} {env : Env} {lo : Nat} {tmps : Array Value} (he : ∀ k, RepS M g w (get k env) (tmps.getD k Go.undef)) : Rel M g w β ⟨env, H, lo⟩ tmps :=
  ⟨hH.n, fun k => .s (he k), hH.h, hH.fresh, hH.gl⟩
theorem qdA {g : Gh} {w : World} {tmps : Array Value} : ∀ {env : Env}, (∀ p ∈ env, RepS M g w p.2 (tmps.getD p.1 Go.undef)) → ∀ k, RepS M g w (get k env) (tmps.getD k Go.undef)
  | [], _, k => .undef _
  | (m, v) :: env, h, k => by
    rw [kD]
    split
    · rename_i e; subst e; exact h (k, v) (by simp)
    · exact qdA (fun p hp => h p (by simp [hp])) k
theorem qiS {g : Gh} {w : World} {β : Nat → Nat} {st : St} {tmps : Array Value} (hR : Rel M g w β st tmps) {k : Nat} {v : V} (hg : get k st.env = v) (hv : v.ok = true) : RepS M g w v (tmps.getD k Go.undef) := by
  have h := hR.e k
  rw [hg] at h
  generalize tmps.getD k Go.undef = c at h
  cases h with
  | s h => exact h
  | _ => cases hv
theorem qjp {g : Gh} {w : World} {k : IntKind} {n : Int} {c : Value} (h : RepS M g w (.d (.i k n)) c) : c = .int k n := by
  cases h with | d _ _ h => cases h; rfl
theorem qjR {g : Gh} {w : World} {b : Bool} {c : Value} (h : RepS M g w (.d (.b b)) c) : c = .bool b := by
  cases h with | d _ _ h => cases h; rfl
theorem qo6 {g : Gh} {w : World} {β : Nat → Nat} {st : St} {tmps : Array Value} (hR : Rel M g w β st tmps) (live : List Nat) : ∀ p ∈ y7 live st.env, RepS M g w p.2 (tmps.getD p.1 Go.undef) := by
  intro p hp
  unfold y7 at hp
  obtain ⟨n, _, rfl⟩ := List.mem_map.1 hp
  unfold qrq
  cases h : (get n st.env).ok with
  | true => exact qiS hR rfl h
  | false => exact .undef _
theorem qbC {g g' : Gh} {w w' : World} (hE : Evo g w g' w') {v : V} {c : Value} (h : RepS M g w v c) : RepS M g' w' v c := h.mono hE.toGrow hE.n hE.φ h.ref
theorem qrj {n : Int} (h1 : -9223372036854775808 ≤ n) (h2 : n ≤ 9223372036854775807) : wr .i64 n = n := by
  cases n with
  | ofNat a =>
    simp only [wr, qfY]
    rw [(Nat.ble_eq_true_of_le (by rw [Int.ofNat_eq_natCast] at h2; omega) : Nat.ble a 9223372036854775807 = true)]; rfl
  | negSucc a =>
    simp only [wr, qj9]
    rw [(Nat.ble_eq_true_of_le (by omega) : Nat.ble a 9223372036854775807 = true)]; rfl
theorem qqz {tS tE tI : TypeId} (u1 : P.underlying tS = some (.slice tE)) (u2 : lay P tS = some ⟨1, false⟩) (u4 : P.underlying tI = some (.int .i64)) : yL M P {} 0 (qdh tS tI) 0 (qdh tS tI).toList = some qem := by
  simp [qdh, yL, gOf, jZ, opnd, opnds, toD, u1, u2, qin, u4, qbg, mvs, qiY, qoZ, look, qem]
theorem qqx {tI tB : TypeId} (u4 : P.underlying tI = some (.int .i64)) : yL M P {} 1 (qct tI tB) 0 (qct tI tB).toList = some [⟨some 7, .mov (.t 3), none⟩, ⟨some 8, .bin .geq .num (.t 7) (.c (.i .i64 0)), none⟩] := by
  simp [qct, yL, gOf, jZ, opnd, opnds, toD, qin, u4, qbg, mvs, qiY, qoZ, look]
theorem qqs {tI : TypeId} (u4 : P.underlying tI = some (.int .i64)) : yL M P {} 2 (qa5 tI) 0 (qa5 tI).toList = some [⟨some 9, .mov (.t 3), none⟩, ⟨some 10, .bin .sub .num (.t 9) (.c (.i .i64 1)), none⟩, ⟨some 3, .mov (.t 10), none⟩] := by
  simp [qa5, yL, gOf, jZ, opnd, opnds, toD, qin, u4, qbg, mvs, qiY, qoZ, look]
theorem qqu {tS tE tY tI tB t0 : TypeId} {l : L} (u1 : P.underlying tS = some (.slice tE)) (u2 : lay P tS = some ⟨1, false⟩) (u3 : lay P tE = some l) :
    yL M P {} 3 (jY tS tE tY tI tB t0) 1 (((jY tS tE tY tI tB t0).toList.drop 1).take 5) = some (qdS l) := by
  simp [jY, yL, gOf, jZ, opnd, opnds, toD, u1, u2, u3, qin, qbg, mvs, qiY, qoZ, look, qdS]
theorem qoS {tS tE tY tI tB t0 : TypeId} (u5 : P.underlying tB = some .bool) :
    yL M P {} 3 (jY tS tE tY tI tB t0) 7 ((jY tS tE tY tI tB t0).toList.drop 7) = some [⟨some 18, .un .not (.t 17), none⟩] := by
  simp [jY, yL, gOf, jZ, opnd, opnds, toD, qin, qbg, mvs, qiY, qoZ, look]
theorem qpo {z : Int} {c : V} {H : List Obj} {lo : Nat} : kj qcG [⟨some 7, .mov (.t 3), none⟩, ⟨some 8, .bin .geq .num (.t 7) (.c (.i .i64 0)), none⟩] ⟨[(3, .d (.i .i64 z)), (1, c)], H, lo⟩ = some (.nrm, ⟨[(8, .d (.b (leI 0 z))), (7, .d (.i .i64 z)), (3, .d (.i .i64 z)), (1, c)], H, lo⟩) := rfl
theorem qpU {z : Int} {c : V} {H : List Obj} {lo : Nat} : kj qcG [⟨some 9, .mov (.t 3), none⟩, ⟨some 10, .bin .sub .num (.t 9) (.c (.i .i64 1)), none⟩, ⟨some 3, .mov (.t 10), none⟩] ⟨[(3, .d (.i .i64 z)), (1, c)], H, lo⟩ =
    some (.nrm, ⟨[(3, .d (.i .i64 (wr .i64 (z - 1)))), (10, .d (.i .i64 (wr .i64 (z - 1)))), (9, .d (.i .i64 z)), (3, .d (.i .i64 z)), (1, c)], H, lo⟩) := rfl
theorem qnl {z : Bool} {H : List Obj} {lo : Nat} : kj qcG [⟨some 18, .un .not (.t 17), none⟩] ⟨[(17, .d (.b z))], H, lo⟩ = some (.nrm, ⟨[(18, .d (.b !z)), (17, .d (.b z))], H, lo⟩) := rfl
end
end W

/-
  A range over slices.Backward(x): simulated (the proof).
-/
set_option linter.unusedSimpArgs false
set_option linter.unusedVariables false
namespace W
open Go (World Value Addr IntKind Program TypeId FuncId Operand Act Oper Next Result Sem BinOp UnOp Ending Exit Code Func Fence Frame)
section
variable {P : Program} {M : Maps} {ex : C → St → Option (Ex × St)}
structure RCtx (P : Program) (M : Maps) (ex : C → St → Option (Ex × St)) where
  l : L
  c : V
  hc : c.ok = true
  p0 : Nat
  p1 : Nat
  base : Env
  a : C
  b : C
  x : Code
  y : Code
  A : Ann
  blk : Nat
  hx : trC M P A blk x = some a
  hy : trC M P A blk y = some b
  hnx : kc x = true
  hny : kc y = true
  nt : Nat
  hp0 : p0 < nt
  hp1 : p1 < nt
  hdx : yR nt x = true
  hdy : yR nt y = true
  e : Ex
  st' : St
  g : Gh
  w : World
  act : Act
  hnt : nt ≤ act.tmps.size
  hbase : ∀ p ∈ base, RepS M g w p.2 (act.tmps.getD p.1 Go.undef)
  fid : FuncId
namespace RCtx
variable (X : RCtx P M ex)
def D : Nat := X.w.heap.size
def L' : Nat := X.w.heap.size + 1
def rc (s : Go.LoopState) (pe : Option Code) : Go.Loop := { state := s, pending := pe, fn := X.fid, tmps := X.act.tmps, params := #[X.p0, X.p1], assign := X.x, body := X.y, defers := X.w.heap.size }
def yv : Value := .func (.yield X.L') #[] #[]
structure Mem (s : Go.LoopState) (pe : Option Code) (H : List Obj) (gi : Gh) (W : World) : Prop where
  h : RelH M gi W H
  E : Evo X.g X.w gi W
  r : W.heap[X.L']? = some (.loop (X.rc s pe))
  ro : gi.own X.L' = none
  d : W.heap[X.D]? = some (.deferred (some []))
  dd : gi.own X.D = none
variable {X}
theorem Mem.put {s : Go.LoopState} {pe : Option Code} {H : List Obj} {gi : Gh} {W : World} (h : X.Mem s pe H gi W) (s' : Go.LoopState) (pe' : Option Code) : X.Mem s' pe' H gi (W.putObj X.L' (.loop (X.rc s' pe'))) :=
  ⟨qma h.h h.r rfl rfl h.ro, qiA h.E (Nat.le_succ _) h.r rfl rfl, Go.World.putObj_heap_same (Array.getElem?_eq_some_iff.1 h.r).1, h.ro, (Go.World.putObj_heap_other (by unfold D L'; omega)).trans h.d, h.dd⟩
theorem Mem.evo {s : Go.LoopState} {pe : Option Code} {H : List Obj} {gi : Gh} {W : World} (h : X.Mem s pe H gi W) {g' : Gh} {W' : World} {H' : List Obj} (hE : Evo gi W g' W') (hH : RelH M g' W' H') : X.Mem s pe H' g' W' := by
  obtain ⟨k1, k2, _⟩ := hE.keep _ (Array.getElem?_eq_some_iff.1 h.r).1 (.inl h.ro)
  obtain ⟨m1, m2, _⟩ := hE.keep _ (Array.getElem?_eq_some_iff.1 h.d).1 (.inl h.dd)
  exact ⟨hH, h.E.trans hE, k2.trans h.r, k1.trans h.ro, m2.trans h.d, m1.trans h.dd⟩
theorem Mem.fin {s : Go.LoopState} {pe : Option Code} {H : List Obj} {gi : Gh} {W : World} (h : X.Mem s pe H gi W) (hs : s ≠ .busy) {lo : Nat} :
    ∃ W4, (Go.Instr.endLoop X.L').run P W = .ok pe W4 ∧ Good False M X.g X.w X.act ⟨X.base, H, lo⟩ { X.act with defers := { target := .collected X.D, args := #[] } :: X.act.defers } W4 := by
  have hr := Go.run_endLoop (P := P) h.r (by show s ≠ .busy; exact hs)
  have h4 := h.put .exhausted pe
  refine ⟨_, hr, ⟨gi, fun _ => 0, qf6 h4.h (qdA (fun p hp => ?_)), h4.E, [{ target := .collected X.D, args := #[] }], rfl, ?_⟩, rfl, fun h => h.elim⟩
  · exact qbC h4.E (X.hbase p hp)
  · exact .cons X.D rfl (qvC _) h4.d h4.dd (fun d' hd' => by cases hd') .nil
structure BI (X : RCtx P M ex) (n i : Nat) (aB : Act) (W : World) : Prop where
  tm : 19 ≤ aB.tmps.size
  df : aB.defers = []
  t0 : aB.tmps.getD 0 Go.undef = X.yv
  t3 : aB.tmps.getD 3 Go.undef = .int .i64 ((i : Int) - 1)
  le : i ≤ n
  m : ∃ gi H lo, X.Mem .ready none H gi W ∧ RepS M gi W X.c (aB.tmps.getD 1 Go.undef) ∧ rounds (ex X.a) (ex X.b) X.l X.c X.p0 X.p1 X.base i H lo = some (X.e, X.st')
theorem qrV : leI 0 (((0 : Nat) : Int) - 1) = false := rfl
theorem qsq (k : Nat) : leI 0 (((k + 1 : Nat) : Int) - 1) = true := by
  rw [show ((k + 1 : Nat) : Int) - 1 = (k : Int) by omega]; rfl
abbrev qt2 (X : RCtx P M ex) (m : Nat) (Q : Exit → Act → World → Prop) : Ending → World → Prop := Go.rangePost Fence.wide m P X.L' Q { X.act with defers := [{ target := .collected X.D, args := #[] }] ++ X.act.defers }
theorem qoG {t : Array Value} {p0 p1 : Nat} {x0 x1 : Value} (h0 : p0 < t.size) (h1 : p1 < t.size) (k : Nat) : ((t.setIfInBounds p0 x0).setIfInBounds p1 x1).getD k Go.undef = if k = p1 then x1 else if k = p0 then x0 else t.getD k Go.undef := by
  simp only [Array.getD_eq_getD_getElem?]
  by_cases e1 : k = p1
  · subst e1; simp [h1]
  · rw [if_neg e1, Array.getElem?_setIfInBounds_ne (fun e => e1 e.symm)]
    by_cases e0 : k = p0
    · subst e0; simp [h0]
    · rw [if_neg e0, Array.getElem?_setIfInBounds_ne (fun e => e0 e.symm)]
def qm4 : Ex → Option Code
  | .ret => some .ret
  | .exit j => some (.exit j)
  | _ => none
theorem round {m : Nat} (he : qdq P M ex) {i : Nat} {H : List Obj} {lo : Nat} {v : V} {st1 : St} (h1 : ex X.a ⟨(X.p1, v) :: (X.p0, .d (.i .i64 i)) :: X.base, H, lo⟩ = some (.nrm, st1)) {e5 : Ex} {st2 : St} (h2 : ex X.b st1 = some (e5, st2)) (he5 : e5 = .nrm ∨ e5 = .ret ∨ ∃ j, e5 = .exit j)
    {gi : Gh} {W : World} (hM : X.Mem .ready none H gi W) {x0 x1 : Value} (hx0 : x0 = .int .i64 i) (hx1 : RepS M gi W v x1) {R : Ending → World → Prop}
    (hR1 : e5 = .nrm → ∀ (g5 : Gh) (W5 : World), X.Mem .ready none st2.H g5 W5 → (∀ v c, RepS M gi W v c → RepS M g5 W5 v c) → R (.returned (.bool true)) W5)
    (hR2 : e5 ≠ .nrm → ∀ (g5 : Gh) (W5 : World), X.Mem .done (qm4 e5) st2.H g5 W5 → R (.returned (.bool false)) W5) :
    Go.RoundIn Fence.wide m P X.L' X.fid ((X.act.tmps.setIfInBounds X.p0 x0).setIfInBounds X.p1 x1) X.x X.y W R := by
  have hp0 : X.p0 < X.act.tmps.size := Nat.lt_of_lt_of_le X.hp0 X.hnt
  have hp1 : X.p1 < X.act.tmps.size := Nat.lt_of_lt_of_le X.hp1 X.hnt
  refine Go.roundIn_of_wpIn trivial ?_
  refine he X.A X.blk X.x X.a X.hx _ .nrm st1 h1 gi W (fun _ => 0) _ X.nt X.hdx (by simp; exact X.hnt) (qf6 hM.h (fun k => ?_)) (Fence.wide.inRound X.L') m (.round _) (.inr X.hnx) _ (fun z a1 w1 hp => ?_)
  · rw [qoG hp0 hp1, kD]
    by_cases e1 : k = X.p1
    · rw [if_pos e1, if_pos e1]; exact hx1
    · rw [if_neg e1, if_neg e1, kD]
      by_cases e0 : k = X.p0
      · rw [if_pos e0, if_pos e0, hx0]; exact .d _ _ (.i _ _)
      · rw [if_neg e0, if_neg e0]
        exact qdA (fun p hp => qbC hM.E (X.hbase p hp)) k
  · cases z with
    | normal =>
      obtain ⟨⟨g4, β4, r1, r2, _⟩, r3, _⟩ := (hp : Good _ M gi W _ st1 a1 w1)
      have hM4 := hM.evo r2 r1.toH
      refine ⟨_, Go.run_beginRound hM4.r rfl, ?_⟩
      have hMb := hM4.put .busy none
      refine he X.A X.blk X.y X.b X.hy st1 e5 st2 h2 g4 _ β4 a1 X.nt X.hdy (by rw [r3]; simp; exact X.hnt) (qiB r1 hM4.r rfl rfl hM4.ro) (Fence.wide.inRound X.L') m (.round _) (.inr X.hny) _ (fun z a' w' hp => ?_)
      have key : ∀ {nd : Prop}, Good nd M g4 (w1.putObj X.L' (.loop (X.rc .busy none))) a1 st2 a' w' → ∃ g5, X.Mem .busy none st2.H g5 w' ∧ (∀ v c, RepS M gi W v c → RepS M g5 w' v c) := by
        intro nd hg
        obtain ⟨⟨g5, β5, k1, k2, _⟩, _, _⟩ := hg
        exact ⟨g5, hMb.evo k2 k1.toH, fun v c h => qbC k2 (((qbC r2 h)).mono (qbb hM4.r rfl rfl) (qvC _) (fun _ _ => rfl) (qbC r2 h).ref)⟩
      have gr : ∀ {g5 : Gh} {v : V} {c : Value}, X.Mem .busy none st2.H g5 w' → RepS M g5 w' v c → ∀ (pe : Option Code) (s : Go.LoopState), RepS M g5 (w'.putObj X.L' (.loop (X.rc s pe))) v c := fun hM5 h pe s => h.mono (qbb hM5.r rfl rfl) (qvC _) (fun _ _ => rfl) h.ref
      rcases he5 with rfl | rfl | ⟨j, rfl⟩
      · cases z with
        | normal =>
          obtain ⟨g5, hM5, h5⟩ := key hp
          exact ⟨_, _, Go.run_endRound none hM5.r, hR1 rfl g5 _ (hM5.put .ready none) (fun v c h => gr hM5 (h5 v c h) _ _)⟩
        | _ => exact hp.elim
      · cases z with
        | ret =>
          obtain ⟨g5, hM5, h5⟩ := key hp
          exact ⟨_, _, Go.run_endRound (some .ret) hM5.r, hR2 (by simp) g5 _ (hM5.put .done (some .ret))⟩
        | _ => exact hp.elim
      · cases z with
        | exit id =>
          obtain ⟨hid, hp⟩ := hp
          subst hid
          obtain ⟨g5, hM5, h5⟩ := key hp
          exact ⟨_, _, Go.run_endRound (some (.exit id)) hM5.r, hR2 (by simp) g5 _ (hM5.put .done (some (.exit id)))⟩
        | _ => exact hp.elim
    | _ => exact hp.elim
def qqt (tS tE tY tI tB t0 : TypeId) : Code := .seq (.seq (.region 1 (qct tI tB) false) (.cond (.tmp 8) .skip (.exit 0)))
    (.seq (.block 1 (.seq (.region 3 (jY tS tE tY tI tB t0) false) (.cond (.tmp 18) .ret .skip))) (.region 2 (qa5 tI) false))
theorem qi5 {ops : List Oper} {k : Nat} (h : (ops.all fun o => match o.dst with | some d => Nat.blt d k | none => true) = true) : ∀ o ∈ ops, ∀ d, o.dst = some d → d < k := fun o ho d hd => by
  rw [List.all_eq_true] at h
  have := h o ho
  rw [hd] at this
  simpa using this
theorem qbG {ops : List Oper} {k : Nat} (h : (ops.all fun o => match o.dst with | some d => !Nat.beq d k | none => true) = true) : ∀ o ∈ ops, o.dst ≠ some k := fun o ho hd => by
  rw [List.all_eq_true] at h
  have := h o ho
  rw [hd] at this
  simp at this
theorem qsO {m : Nat} {Q : Exit → Act → World → Prop} (hQ : ∀ x a' w', Post False M X.g X.w X.act X.e X.st' x a' w' → Q x a' w') {s : Go.LoopState} {pe : Option Code} {H : List Obj} {lo : Nat} {g5 : Gh} {W5 : World} (hM : X.Mem s pe H g5 W5) (hs : s ≠ .busy)
    (hst : X.st' = ⟨X.base, H, lo⟩) (hpe : pe = qm4 X.e) (he : X.e = .nrm ∨ X.e = .ret ∨ ∃ j, X.e = .exit j) (v : Value) : qt2 X m Q (.returned v) W5 := by
  obtain ⟨W4, h1, h2⟩ := hM.fin hs (lo := lo)
  refine ⟨pe, W4, h1, ?_⟩
  rw [← hst] at h2
  rcases he with h | h | ⟨j, h⟩
  · rw [hpe, h]
    exact hQ .normal _ _ (by rw [h]; exact h2)
  · rw [hpe, h]
    exact Go.wpIn_ret (hQ .ret _ _ (by rw [h]; exact h2))
  · rw [hpe, h]
    exact Go.wpIn_exit (hQ (.exit j) _ _ (by rw [h]; exact ⟨rfl, h2⟩))
theorem loop {m : Nat} {Q : Exit → Act → World → Prop} (he : qdq P M ex) {tS tE tY tI tB t0 : TypeId} (u1 : P.underlying tS = some (.slice tE)) (u2 : lay P tS = some ⟨1, false⟩) (u3 : lay P tE = some X.l) (u4 : P.underlying tI = some (.int .i64)) (u5 : P.underlying tB = some .bool)
    {fn2 : Func} (q5 : fn2.results = #[]) (hQ : ∀ x a' w', Post False M X.g X.w X.act X.e X.st' x a' w' → Q x a' w') {n : Nat} (hn : n ≤ 4611686018427387904) {aB : Act} {W : World} (h0 : BI X n n aB W) :
    (Code.block 0 (.loop (qqt tS tE tY tI tB t0))).wpIn Fence.wide (m - 1) P (Go.bodyPost P fn2 (qt2 X m Q)) aB W := by
  refine Go.wpIn_block (Go.wpIn_loop (fun aB W => ∃ i, BI X n i aB W) (fun aB W => least (fun i => BI X n i aB W)) ⟨n, h0⟩ (fun aB W hI => ?_))
  obtain ⟨i0, hi0⟩ := hI
  have hi := (qev (p := fun i => BI X n i aB W) hi0).1
  generalize least (fun i => BI X n i aB W) = i at hi
  clear hi0 i0 h0
  obtain ⟨gi, H, lo, hM, hc, hr⟩ := hi.m
  have res : ∀ (tmps : Array Value) (W : World), (Go.results fn2 tmps).run P W = .ok (.tuple #[]) W := fun tmps W => by simp [Go.results, q5]
  refine Go.wpIn_seq (Go.wpIn_seq (Go.wpIn_region ?_))
  -- the test
  rw [show (qct tI tB).size = 2 from rfl, show List.range 2 = List.range' 0 (qct tI tB).toList.length ++ [] from rfl]
  refine qfs (nt := 19) qca .wide (qct tI tB).toList 0 [] _ ⟨[(3, .d (.i .i64 ((i : Int) - 1))), (1, X.c)], H, lo⟩ gi W (fun _ => 0) aB (fun k o hk => by simpa using hk) (qqx (M := M) u4) (qi5 rfl) (fun _ _ => .inl rfl) hi.tm .nrm _ qpo
    (qf6 hM.h (qdA (fun p hp => ?_))) _ (fun a1 W1 hg hfr _ => ?_) (fun x a' w' _ hne => absurd rfl hne)
  · simp only [List.mem_cons, List.not_mem_nil, or_false] at hp
    rcases hp with rfl | rfl
    · show RepS M gi W _ (aB.tmps.getD 3 _); rw [hi.t3]; exact .d _ _ (.i _ _)
    · exact hc
  obtain ⟨⟨g1, β1, hR1, hE1, hD1⟩, hs1, hd1⟩ := hg
  have hM1 := hM.evo hE1 hR1.toH
  have e8 : a1.tmps.getD 8 Go.undef = .bool (leI 0 ((i : Int) - 1)) := qjR (qiS hR1 (k := 8) rfl rfl)
  have f0 : a1.tmps.getD 0 Go.undef = X.yv := (hfr 0 (qbG rfl)).trans hi.t0
  have f1 : a1.tmps.getD 1 Go.undef = aB.tmps.getD 1 Go.undef := hfr 1 (qbG rfl)
  have f3 : a1.tmps.getD 3 Go.undef = .int .i64 ((i : Int) - 1) := (hfr 3 (qbG rfl)).trans hi.t3
  have df1 : a1.defers = [] := (hd1 trivial).trans hi.df
  have hc1 : RepS M g1 W1 X.c (a1.tmps.getD 1 Go.undef) := by rw [f1]; exact qbC hE1 hc
  have sz1 : 19 ≤ a1.tmps.size := by rw [hs1]; exact hi.tm
  show (Code.cond (.tmp 8) .skip (.exit 0)).wpIn _ _ _ _ a1 W1
  cases i with
  | zero =>
    rw [qrV] at e8
    refine Go.wpIn_cond_false e8 (Go.wpIn_exit ?_)
    simp only [rounds, Option.some.injEq, Prod.mk.injEq] at hr
    simp only [Exit.then, Exit.inBlock, if_true]
    exact ⟨df1, _, res _ _, qsO hQ hM1 (by simp) hr.2.symm (by rw [← hr.1]; rfl) (.inl hr.1.symm) _⟩
  | succ i =>
    rw [qsq] at e8
    rw [show (((i + 1 : Nat) : Int) - 1) = (i : Int) by omega] at f3
    refine Go.wpIn_cond_true e8 (Go.wpIn_skip ?_)
    obtain ⟨v, st1, hv, hok, hx1, hx2⟩ := qeo hr
    -- the round
    show (Code.seq (.block 1 (.seq (.region 3 (jY tS tE tY tI tB t0) false) (.cond (.tmp 18) .ret .skip))) (.region 2 (qa5 tI) false)).wpIn _ _ _ _ a1 W1
    refine Go.wpIn_seq (Go.wpIn_block (Go.wpIn_seq (Go.wpIn_region ?_)))
    rw [show (jY tS tE tY tI tB t0).size = 8 from rfl, show List.range 8 = 0 :: (List.range' 1 (((jY tS tE tY tI tB t0).toList.drop 1).take 5).length ++ [6, 7]) from rfl, Go.wpOpsIn_cons]
    unfold Go.wpOpIn
    simp only [show (jY tS tE tY tI tB t0)[0]? = some ⟨some 11, .move (.tmp 0), tY, "iter.go:29", #[], none⟩ from rfl, Go.Region.wanted, if_true]
    refine ⟨fun _ _ => trivial, ?_⟩
    rw [show (Oper.semAt Fence.wide.round a1.eval ⟨some 11, .move (.tmp 0), tY, "iter.go:29", #[], none⟩).run P W1 = .ok (.value (a1.eval (.tmp 0))) W1 from rfl, Oper.uponIn_value]
    have ev0 : a1.eval (.tmp 0) = X.yv := f0
    rw [ev0]
    let a2 : Act := a1.put (some 11) X.yv
    show Go.wpOpsIn _ _ _ _ _ _ a2 W1
    have g11 : a2.tmps.getD 11 Go.undef = X.yv := by
      show (a1.tmps.setIfInBounds 11 X.yv).getD 11 Go.undef = _
      simp only [Array.getD_eq_getD_getElem?]
      rw [Array.getElem?_setIfInBounds_self_of_lt (by omega)]; rfl
    have ge : ∀ k, k ≠ 11 → a2.tmps.getD k Go.undef = a1.tmps.getD k Go.undef := fun k hk => qhc (by intro e; cases e; exact hk rfl)
    -- what is handed over
    unfold qnB at hv
    split at hv
    · rename_i stb hb
      simp only [Option.some.injEq] at hv
      refine qfs (nt := 19) qca .wide _ 1 [6, 7] _ ⟨[(3, .d (.i .i64 i)), (1, X.c)], H, lo⟩ g1 W1 (fun _ => 0) a2 (fun k o hk => ?_) (qqu (M := M) u1 u2 u3) (qi5 rfl) (fun _ _ => .inl rfl) (by rw [jq]; exact sz1) .nrm stb hb
        (qf6 hM1.h (qdA (fun p hp => ?_))) _ (fun a3 W3 hg3 hfr3 _ => ?_) (fun x a' w' _ hne => absurd rfl hne)
      · match k, hk with
        | 0, hk => exact hk
        | 1, hk => exact hk
        | 2, hk => exact hk
        | 3, hk => exact hk
        | 4, hk => exact hk
        | k + 5, hk => cases hk
      · simp only [List.mem_cons, List.not_mem_nil, or_false] at hp
        rcases hp with rfl | rfl
        · show RepS M g1 W1 _ (a2.tmps.getD 3 _); rw [ge 3 (by omega), f3]; exact .d _ _ (.i _ _)
        · show RepS M g1 W1 _ (a2.tmps.getD 1 _); rw [ge 1 (by omega)]; exact hc1
      obtain ⟨⟨g3, β3, hR3, hE3, hD3⟩, hs3, hd3⟩ := hg3
      have hM3 := hM1.evo hE3 hR3.toH
      obtain ⟨_, bH, bLo, bget⟩ := qcO (qdS X.l) (fun q hq => by
        simp only [qdS, List.mem_cons, List.not_mem_nil, or_false] at hq
        rcases hq with rfl | rfl | rfl | rfl | rfl <;> exact ⟨rfl, rfl⟩) hb
      have bH : stb.H = H := bH
      rw [bH] at hM3
      have h16 : RepS M g3 W3 v (a3.tmps.getD 16 Go.undef) := qiS hR3 hv hok
      have h12 : a3.tmps.getD 12 Go.undef = .int .i64 i := by
        refine qjp (qiS hR3 (k := 12) ?_ rfl)
        -- slot 12 was laid first
        unfold qdS at hb
        simp only [kj, wanted] at hb
        have hmv : qy qcG (.mov (.t 3)) ⟨[(3, .d (.i .i64 (i : Int))), (1, X.c)], H, lo⟩ = some ⟨false, true, .d (.i .i64 i), ⟨[(3, .d (.i .i64 i)), (1, X.c)], H, lo⟩⟩ := rfl
        rw [hmv] at hb
        simp only [cond_false] at hb
        have hb' : kj qcG [⟨some 13, .load false none ⟨1, false⟩ (.t 1), none⟩, ⟨some 14, .mov (.t 3), none⟩, ⟨some 15, .indexAddr (.t 13) (.t 14) X.l.n none, none⟩, ⟨some 16, .load false none X.l (.t 15), none⟩] (put (some 12) (.d (.i .i64 i)) ⟨[(3, .d (.i .i64 i)), (1, X.c)], H, lo⟩) = some (.nrm, stb) := hb
        refine (qcO _ (fun q hq => ?_) hb').2.2.2 12 _ rfl rfl (fun q hq => ?_)
        · simp only [List.mem_cons, List.not_mem_nil, or_false] at hq
          rcases hq with rfl | rfl | rfl | rfl <;> exact ⟨rfl, rfl⟩
        · simp only [List.mem_cons, List.not_mem_nil, or_false] at hq
          rcases hq with rfl | rfl | rfl | rfl <;> simp
      have g0 : a3.tmps.getD 0 Go.undef = X.yv := (hfr3 0 (qbG rfl)).trans ((ge 0 (by omega)).trans f0)
      have g1' : a3.tmps.getD 1 Go.undef = a1.tmps.getD 1 Go.undef := (hfr3 1 (qbG rfl)).trans (ge 1 (by omega))
      have g3' : a3.tmps.getD 3 Go.undef = .int .i64 i := (hfr3 3 (qbG rfl)).trans ((ge 3 (by omega)).trans f3)
      have g11' : a3.tmps.getD 11 Go.undef = X.yv := (hfr3 11 (qbG rfl)).trans g11
      have df3 : a3.defers = [] := (hd3 trivial).trans df1
      have hc3 : RepS M g3 W3 X.c (a3.tmps.getD 1 Go.undef) := by rw [g1']; exact qbC hE3 hc1
      have sz3 : 19 ≤ a3.tmps.size := by rw [hs3]; show 19 ≤ (a1.put _ _).tmps.size; rw [jq]; exact sz1
      -- yield
      rw [Go.wpOpsIn_cons]
      unfold Go.wpOpIn
      simp only [show (jY tS tE tY tI tB t0)[6]? = some ⟨some 17, .call ⟨.value (.tmp 11), #[.tmp 12, .tmp 16], #[tI, tE]⟩, tB, "iter.go:29", #[⟨0, .data⟩, ⟨1, .data⟩, ⟨5, .data⟩], none⟩ from rfl, Go.Region.wanted, if_true]
      refine ⟨fun _ _ => trivial, ?_⟩
      have hy := Go.run_yield (P := P) (args := #[a3.tmps.getD 12 Go.undef, a3.tmps.getD 16 Go.undef]) hM3.r rfl
      have hsem : (Oper.semAt Fence.wide.round a3.eval ⟨some 17, .call ⟨.value (.tmp 11), #[.tmp 12, .tmp 16], #[tI, tE]⟩, tB, "iter.go:29", #[⟨0, .data⟩, ⟨1, .data⟩, ⟨5, .data⟩], none⟩).run P W3 =
          .ok (.round X.L' X.fid ((X.act.tmps.setIfInBounds X.p0 (a3.tmps.getD 12 Go.undef)).setIfInBounds X.p1 (a3.tmps.getD 16 Go.undef)) X.x X.y) W3 := by
        have e11 : a3.eval (.tmp 11) = .func (.yield X.L') #[] #[] := g11'
        rw [show Fence.wide.round = none from rfl, Oper.semAt_none]
        simp only [Go.execOp, Go.resolve, e11, Go.Deferred.ofValue, Sem.run_bind, Sem.run_pure, Result.andThen_ok, Go.invoke]
        have : (#[] ++ Array.map a3.eval #[Operand.tmp 12, Operand.tmp 16] : Array Value) = #[a3.tmps.getD 12 Go.undef, a3.tmps.getD 16 Go.undef] := by simp [Act.eval]
        rw [this, hy]
        simp [RCtx.rc]
      rw [hsem, Oper.uponIn_round]
      refine ⟨fun h => WF.wide.depth h, ?_⟩
      -- behind yield
      have back : ∀ (bv : Bool) (g5 : Gh) (W5 : World) {s : Go.LoopState} {pe : Option Code} {H5 : List Obj}, X.Mem s pe H5 g5 W5 → ∀ K : Act → World → Prop, (∀ a4 W6 g6, X.Mem s pe H5 g6 W6 → Evo g5 W5 g6 W6 → 19 ≤ a4.tmps.size → a4.defers = [] → a4.tmps.getD 18 Go.undef = .bool (!bv) → a4.tmps.getD 0 Go.undef = X.yv → a4.tmps.getD 1 Go.undef = a3.tmps.getD 1 Go.undef → a4.tmps.getD 3 Go.undef = .int .i64 i → K a4 W6) →
          ∀ Q' : Exit → Act → World → Prop, (∀ a W, K a W → Q' .normal a W) → Go.wpOpsIn Fence.wide (m - 1) P (jY tS tE tY tI tB t0) Q' [7] (a3.put (some 17) (.bool bv)) W5 := by
        intro bv g5 W5 s pe H5 hM5 K hK Q' hQ'
        have h17 : (a3.put (some 17) (.bool bv)).tmps.getD 17 Go.undef = .bool bv := by
          show (a3.tmps.setIfInBounds 17 (.bool bv)).getD 17 Go.undef = _
          simp only [Array.getD_eq_getD_getElem?]
          rw [Array.getElem?_setIfInBounds_self_of_lt (by omega)]; rfl
        have hge : ∀ k, k ≠ 17 → (a3.put (some 17) (.bool bv)).tmps.getD k Go.undef = a3.tmps.getD k Go.undef := fun k hk => qhc (by intro e; cases e; exact hk rfl)
        rw [show [7] = List.range' 7 ((jY tS tE tY tI tB t0).toList.drop 7).length ++ [] from rfl]
        refine qfs (nt := 19) qca .wide _ 7 [] _ ⟨[(17, .d (.b bv))], H5, 0⟩ g5 W5 (fun _ => 0) _ (fun k o hk => ?_) (qoS (M := M) u5) (qi5 rfl) (fun _ _ => .inl rfl) (by rw [jq]; exact sz3) .nrm _ qnl
          (qf6 hM5.h (qdA (fun p hp => ?_))) _ (fun a4 W6 hg6 hfr6 _ => hQ' a4 W6 ?_) (fun x a' w' _ hne => absurd rfl hne)
        · match k, hk with
          | 0, hk => exact hk
          | k + 1, hk => cases hk
        · simp only [List.mem_cons, List.not_mem_nil, or_false] at hp
          subst hp
          show RepS M g5 W5 _ ((a3.put (some 17) (.bool bv)).tmps.getD 17 _); rw [h17]; exact .d _ _ (.b _)
        obtain ⟨⟨g6, β6, hR6, hE6, hD6⟩, hs6, hd6⟩ := hg6
        refine hK a4 W6 g6 (hM5.evo hE6 hR6.toH) hE6 (by rw [hs6, jq]; exact sz3) ((hd6 trivial).trans df3) (qjR (qiS hR6 (k := 18) rfl rfl)) ?_ ?_ ?_
        · exact (hfr6 0 (qbG rfl)).trans ((hge 0 (by omega)).trans g0)
        · exact (hfr6 1 (qbG rfl)).trans (hge 1 (by omega))
        · exact (hfr6 3 (qbG rfl)).trans ((hge 3 (by omega)).trans g3')
      have he5 : ∃ e5 st2, ex X.b st1 = some (e5, st2) ∧ (e5 = .nrm ∨ e5 = .ret ∨ ∃ j, e5 = .exit j) ∧ (e5 = .nrm → rounds (ex X.a) (ex X.b) X.l X.c X.p0 X.p1 X.base i st2.H st2.lo = some (X.e, X.st')) ∧ (e5 ≠ .nrm → X.e = e5 ∧ X.st' = ⟨X.base, st2.H, st2.lo⟩) := by
        rcases hx2 with ⟨st2, k1, k2⟩ | ⟨e5, st2, k1, k2, k3⟩
        · exact ⟨.nrm, st2, k1, .inl rfl, fun _ => k2, fun h => absurd rfl h⟩
        · have k3 := Prod.mk.inj k3
          rcases k2 with rfl | ⟨j, rfl⟩
          · exact ⟨.ret, st2, k1, .inr (.inl rfl), (fun h => by cases h), fun _ => k3⟩
          · exact ⟨.exit j, st2, k1, .inr (.inr ⟨j, rfl⟩), (fun h => by cases h), fun _ => k3⟩
      obtain ⟨e5, st2, hxb, hek, hgo, hend⟩ := he5
      refine round he hx1 hxb hek hM3 h12 h16 (fun hnrm g5 W5 hM5 hrep => ?_) (fun hne g5 W5 hM5 => ?_)
      · -- on
        have hr2 := hgo hnrm
        refine back true g5 W5 hM5 (fun a4 W6 => ∃ g6, X.Mem .ready none st2.H g6 W6 ∧ RepS M g6 W6 X.c (a4.tmps.getD 1 Go.undef) ∧ 19 ≤ a4.tmps.size ∧ a4.defers = [] ∧ a4.tmps.getD 18 Go.undef = .bool false ∧ a4.tmps.getD 0 Go.undef = X.yv ∧ a4.tmps.getD 3 Go.undef = .int .i64 i)
          (fun a4 W6 g6 k1 k2 k3 k4 k5 k6 k7 k8 => ⟨g6, k1, by rw [k7]; exact qbC k2 (hrep _ _ hc3), k3, k4, k5, k6, k8⟩) _ (fun a4 W6 hK => ?_)
        obtain ⟨g6, k1, k2, k3, k4, k5, k6, k8⟩ := hK
        show (Code.cond (.tmp 18) .ret .skip).wpIn _ _ _ _ a4 W6
        refine Go.wpIn_cond_false k5 (Go.wpIn_skip ?_)
        -- one less
        show (Code.region 2 (qa5 tI) false).wpIn _ _ _ _ a4 W6
        refine Go.wpIn_region ?_
        rw [show (qa5 tI).size = 3 from rfl, show List.range 3 = List.range' 0 (qa5 tI).toList.length ++ [] from rfl]
        refine qfs (nt := 19) qca .wide (qa5 tI).toList 0 [] _ ⟨[(3, .d (.i .i64 (i : Int))), (1, X.c)], st2.H, st2.lo⟩ g6 W6 (fun _ => 0) a4 (fun k o hk => by simpa using hk) (qqs (M := M) u4) (qi5 rfl) (fun _ _ => .inl rfl) k3 .nrm _ qpU
          (qf6 k1.h (qdA (fun p hp => ?_))) _ (fun a5 W7 hg7 hfr7 _ => ?_) (fun x a' w' _ hne => absurd rfl hne)
        · simp only [List.mem_cons, List.not_mem_nil, or_false] at hp
          rcases hp with rfl | rfl
          · show RepS M g6 W6 _ (a4.tmps.getD 3 _); rw [k8]; exact .d _ _ (.i _ _)
          · exact k2
        obtain ⟨⟨g7, β7, hR7, hE7, hD7⟩, hs7, hd7⟩ := hg7
        have hle := hi.le
        have hwr : wr .i64 ((i : Int) - 1) = (i : Int) - 1 := qrj (by omega) (by omega)
        have hBI : BI X n i a5 W7 := ⟨by rw [hs7]; exact k3, (hd7 trivial).trans k4, (hfr7 0 (qbG rfl)).trans k6, by
            have := qjp (qiS hR7 (k := 3) (v := .d (.i .i64 (wr .i64 ((i : Int) - 1)))) rfl rfl)
            rw [hwr] at this; exact this, by omega, g7, st2.H, st2.lo, k1.evo hE7 hR7.toH, by rw [hfr7 1 (qbG rfl)]; exact qbC hE7 k2, hr2⟩
        exact ⟨⟨i, hBI⟩, Nat.lt_succ_of_le (qev (p := fun i => BI X n i a5 W7) hBI).2⟩
      · -- out
        obtain ⟨hxe, hxs⟩ := hend hne
        refine back false g5 W5 hM5 (fun a4 W6 => ∃ g6, X.Mem .done (qm4 e5) st2.H g6 W6 ∧ a4.defers = [] ∧ a4.tmps.getD 18 Go.undef = .bool true)
          (fun a4 W6 g6 k1 k2 k3 k4 k5 k6 k7 k8 => ⟨g6, k1, k4, k5⟩) _ (fun a4 W6 hK => ?_)
        obtain ⟨g6, k1, k4, k5⟩ := hK
        show (Code.cond (.tmp 18) .ret .skip).wpIn _ _ _ _ a4 W6
        refine Go.wpIn_cond_true k5 (Go.wpIn_ret ?_)
        exact ⟨k4, _, res _ _, qsO hQ k1 (by simp) hxs (by rw [hxe]) (hxe ▸ hek) _⟩
    · cases hv
theorem iter {m : Nat} {Q : Exit → Act → World → Prop} (he : qdq P M ex) {tS tE tY tI tB t0 : TypeId} (u1 : P.underlying tS = some (.slice tE)) (u2 : lay P tS = some ⟨1, false⟩) (u3 : lay P tE = some X.l) (u4 : P.underlying tI = some (.int .i64)) (u5 : P.underlying tB = some .bool)
    {fn2 : Func} (q5 : fn2.results = #[]) (hQ : ∀ x a' w', Post False M X.g X.w X.act X.e X.st' x a' w' → Q x a' w') {n : Nat} {H : List Obj} {lo : Nat} (hcount : qbu X.c H lo = some n) (hrounds : rounds (ex X.a) (ex X.b) X.l X.c X.p0 X.p1 X.base n H lo = some (X.e, X.st'))
    {g1 : Gh} {W1 : World} (hM : X.Mem .ready none H g1 W1) {cvl : Value} (hc1 : RepS M g1 W1 X.c cvl) {aB : Act} (hsz : 19 ≤ aB.tmps.size) (hdf : aB.defers = []) (ht0 : aB.tmps.getD 0 Go.undef = X.yv) (ht1 : aB.tmps.getD 1 Go.undef = cvl) :
    (qmi tS tE tY tI tB t0).wpIn Fence.wide (m - 1) P (Go.bodyPost P fn2 (qt2 X m Q)) aB W1 := by
  unfold qbu at hcount
  split at hcount
  · rename_i sta hsta
    split at hcount
    · rename_i n0 hn0
      rw [qvD] at hcount
      split at hcount
      · rename_i hbd
        simp only [Option.some.injEq] at hcount
        simp only [qvB] at hbd
        have hb1 := Nat.le_of_ble_eq_true hbd.1
        have hb2 : 0 ≤ n0 + 1 := by
          have h2 := hbd.2
          cases hz : n0 + 1 with
          | ofNat q => exact Int.natCast_nonneg q
          | negSucc q => rw [hz] at h2; cases h2
        refine Go.wpIn_seq (Go.wpIn_region ?_)
        rw [show (qdh tS tI).size = 4 from rfl, show List.range 4 = List.range' 0 (qdh tS tI).toList.length ++ [] from rfl]
        refine qfs (nt := 19) qca .wide (qdh tS tI).toList 0 [] _ ⟨[(1, X.c)], H, lo⟩ g1 W1 (fun _ => 0) aB (fun k o hk => by simpa using hk) (qqz (M := M) u1 u2 u4) (qi5 rfl) (fun _ _ => .inl rfl) hsz .nrm _ hsta
          (qf6 hM.h (qdA (fun p hp => ?_))) _ (fun a1 W2 hg hfr _ => ?_) (fun x a' w' _ hne => absurd rfl hne)
        · simp only [List.mem_cons, List.not_mem_nil, or_false] at hp
          subst hp
          show RepS M g1 W1 _ (aB.tmps.getD 1 _); rw [ht1]; exact hc1
        obtain ⟨⟨g2, β2, hR2, hE2, hD2⟩, hs2, hd2⟩ := hg
        obtain ⟨_, bH, bLo, _⟩ := qcO qem (fun q hq => by
          simp only [qem, List.mem_cons, List.not_mem_nil, or_false] at hq
          rcases hq with rfl | rfl | rfl | rfl <;> exact ⟨rfl, rfl⟩) hsta
        have bH : sta.H = H := bH
        have hM2 := hM.evo hE2 hR2.toH
        rw [bH] at hM2
        refine loop (X := X) he u1 u2 u3 u4 u5 q5 hQ (n := n) (by omega) ⟨by rw [hs2]; exact hsz, (hd2 trivial).trans hdf, (hfr 0 (qbG rfl)).trans ht0, ?_, qvC _, g2, H, lo, hM2, ?_, hrounds⟩
        · have := qjp (qiS hR2 hn0 rfl)
          rw [this]
          congr 1
          omega
        · rw [hfr 1 (qbG rfl), ht1]
          exact qbC hE2 hc1
      · cases hcount
    · cases hcount
  · cases hcount
end RCtx
theorem qpx {a b u : Value} {k : Nat} : (#[a, b] ++ Array.replicate k u).getD 0 Go.undef = a := by simp [Array.getD_eq_getD_getElem?, Array.getElem?_append]
theorem qpj {a b u : Value} {k : Nat} : (#[a, b] ++ Array.replicate k u).getD 1 Go.undef = b := by simp [Array.getD_eq_getD_getElem?, Array.getElem?_append]
theorem qqA {a b u : Value} : 19 ≤ (#[a, b] ++ Array.replicate (19 - (#[a, b] : Array Value).size) u).size := by simp
theorem qmS (hB : qkR P M) (he : qdq P M ex) : qmF P M ex := by
  intro k l f f' p0 p1 live x y a b A blk hk hf hx hy hnx hny c st n e st' hfn hcok hcount hrounds g w β act nt hp0 hp1 hdx hdy hnt hR m Q hQ
  have h1 := kr hR hf
  rw [hfn] at h1
  generalize hfe : act.eval f = fc at h1
  cases h1 with
  | s h1 => cases h1 with
    | fn _ f2 _ _ fv cv hlook hr1 hr2 =>
      have hfv : fv = #[] := by
        apply Array.ext'
        generalize fv.toList = q at hr1
        cases hr1; rfl
      subst hfv
      obtain ⟨cvl, hcv, hcr⟩ : ∃ cvl, cv = #[cvl] ∧ RepS M g w c cvl := by
        generalize hq : cv.toList = q at hr2
        cases hr2 with
        | cons _ v _ _ h hl => cases hl; exact ⟨v, by apply Array.ext'; simpa using hq, h⟩
      subst hcv
      obtain ⟨tS, tE, tY, tI, tB, t0, fn2, q1, q2, q3, q4, q5, u1, u2, u3, u4, u5⟩ := hB f2 k l hlook hk
      refine Go.wpIn_rangeFunc (fun fid _ => ?_)
      let X : RCtx P M ex := { l, c, hc := hcok, p0, p1, base := y7 live st.env, a, b, x, y, A, blk, hx, hy, hnx, hny, nt, hp0, hp1, hdx, hdy, e, st', g, w, act, hnt, hbase := qo6 hR live, fid }
      let W1 : World := (w.alloc (.deferred (some []))).alloc (.loop (X.rc .ready none))
      have hRa := hR.alloc none 0 (.deferred (some []))
      have hRb := hRa.alloc none 0 (.loop (X.rc .ready none))
      have hE1 := (qaQ hR.fr none 0 (.deferred (some []))).trans (qaQ hRa.fr none 0 (.loop (X.rc .ready none)))
      have hsz : (w.alloc (.deferred (some []))).heap.size = w.heap.size + 1 := by simp
      have hM : X.Mem .ready none st.H _ W1 := ⟨hRb.toH, hE1, by
          have := z1 (w.alloc (.deferred (some []))) (.loop (X.rc .ready none))
          rwa [hsz] at this, by simp [Gh.withNew, RCtx.L', X], by
          refine (zC (w.alloc (.deferred (some []))) _ (by rw [hsz]; exact Nat.lt_succ_self _)).trans ?_
          exact z1 w _, by simp [Gh.withNew, RCtx.D, X]⟩
      refine ⟨X.L', [{ target := .collected X.D, args := #[] }], W1, { target := .fn (.func f2) #[cvl], args := #[.func (.yield X.L') #[] #[]] }, W1, f2, #[.func (.yield X.L') #[] #[], cvl], W1, ?_, ?_, fun _ _ => trivial, ?_, fun h => WF.wide.depth h, ?_⟩
      · exact Go.run_enterLoop_outer _ _ _ _ _
      · have hres : (Go.resolve act.eval (Go.rangeCall f X.L') 0).run P W1 = (Go.Deferred.ofValue (.func (.func f2) #[] #[cvl]) #[.func (.yield X.L') #[] #[]]).run P W1 := by
          have hmap : Array.map act.eval #[.const (.func (.yield X.L') #[] #[])] = #[.func (.yield X.L') #[] #[]] := by simp [Act.eval]
          simp only [Go.resolve, hfe, hmap]
        rw [hres]; rfl
      · have hn : ¬ fn2.name = "runtime.NumGoroutine" := by simpa using q2
        simp [Go.invoke, Go.callFunc, q1, hn, q3]
      · refine Go.callsIn_of_wp q1 q3 trivial ?_
        rw [q4]
        exact RCtx.iter (X := X) he u1 u2 u3 u4 u5 q5 hQ hcount hrounds hM (qbC hE1 hcr) qqA rfl qpx qpj
end
end W

/-
  A function's body, as its caller sees it.
-/
set_option linter.unusedSimpArgs false
set_option linter.unusedVariables false
namespace W
open Go (World Value Addr IntKind Program TypeId FuncId Operand Act Oper Next Result Sem BinOp UnOp Ending Exit Code Func Calls Fence)
section
variable {P : Program} {M : Maps} {g : Gh} {w : World} {β : Nat → Nat} {st : St} {a : Act}
theorem qlk : ∀ (vs : List V) (j k : Nat), get k (z0 j vs) = if j ≤ k then (vs[k - j]?).getD .undef else .undef
  | [], j, k => by simp [z0, get]
  | v :: l, j, k => by
    simp only [z0, kD, qlk l (j + 1) k]
    by_cases h : k = j
    · subst h; simp
    · by_cases h2 : j + 1 ≤ k
      · have e : k - j = (k - (j + 1)) + 1 := by omega
        simp [h, h2, show j ≤ k by omega, e]
      · simp [h, h2, show ¬ j ≤ k by omega]
theorem ArgsRep.get : ∀ {vs : List V} {cs : List Value} {j : Nat}, ArgsRep M g w j vs cs → ∀ i v, vs[i]? = some v → ∃ c, cs[i]? = some c ∧ RepA M g w (j + i) v c
  | _, _, _, .nil _, i, v, h => by simp at h
  | _, _, j, .cons h hl, 0, v, hv => by simp at hv; subst hv; exact ⟨_, rfl, h⟩
  | _, _, j, .cons h hl, i + 1, v, hv => by
    obtain ⟨c, h1, h2⟩ := hl.get i v (by simpa using hv)
    exact ⟨c, by simpa using h1, by rwa [show j + 1 + i = j + (i + 1) by omega] at h2⟩
theorem ArgsRep.length : ∀ {vs : List V} {cs : List Value} {j : Nat}, ArgsRep M g w j vs cs → vs.length = cs.length
  | _, _, _, .nil _ => rfl
  | _, _, _, .cons h hl => by simp [hl.length]
theorem qj8 {H : List Obj} {vs : List V} {cs : List Value} (ha : ArgsRep M g w 0 vs cs) (hH : RelH M g w H) (n lo : Nat) :
    Rel M g w β { env := z0 0 vs, H := H, lo := lo } (cs.toArray ++ Array.replicate n Go.undef) := by
  refine ⟨hH.n, fun k => ?_, hH.h, hH.fresh, hH.gl⟩
  show RepT M g w β k (get k (z0 0 vs)) _
  rw [qlk]
  simp only [Nat.zero_le, if_true, Nat.sub_zero]
  cases hv : vs[k]? with
  | none => exact .s (.undef _)
  | some v =>
    obtain ⟨c, h1, h2⟩ := ha.get k v hv
    have hlt : k < cs.length := (List.getElem?_eq_some_iff.1 h1).1
    have e : (cs.toArray ++ Array.replicate n Go.undef).getD k Go.undef = c := by
      rw [Array.getD_eq_getD_getElem?, Array.getElem?_append_left (by simpa using hlt)]
      simp [h1]
    rw [e]
    simp only [Option.getD_some, qvF] at h2 ⊢
    cases h2 with
    | s h => exact .s h
    | osl h => exact .osl h
def qoA (tmps : Array Value) : Go.ResultVar → Sem Value
  | .tmp t => pure (tmps.getD t Go.undef)
  | .cell b t => do Go.loadVar t (← Go.asAddr (tmps.getD b Go.undef))
theorem qnL (fn : Func) (tmps : Array Value) : Go.results fn tmps = (do
    let vs ← fn.results.mapM (qoA tmps)
    pure (if h : vs.size = 1 then vs[0] else .tuple vs)) := by
  rfl
theorem qjo (hR : Rel M g w β st a.tmps) {rv : Go.ResultVar} {r : Rv} (ht : qrK P rv = some r) {own : Bool} {v : V} (hv : qaI own st r = some v) (hl : v.leaves = true) :
    ∃ c, (qoA a.tmps rv).run P w = .ok c w ∧
      (RepS M g w v c ∨ ∃ n xs, v = .osl xs ∧ OwnSl g w (.slot n) xs c) := by
  cases rv with
  | tmp t =>
    simp only [qrK, Option.some.injEq] at ht
    subst ht
    refine ⟨a.tmps.getD t Go.undef, rfl, ?_⟩
    simp only [qaI] at hv
    have he := hR.e t
    generalize get t st.env = x at he hv
    generalize a.tmps.getD t Go.undef = c at he
    cases he with
    | s h =>
      have hx : v = x ∨ v = copy x := by
        cases h <;> simp only [Option.some.injEq] at hv <;> cases own <;> simp only [cond_true, cond_false] at hv <;> first | exact .inl hv.symm | exact .inr hv.symm
      rcases hx with rfl | rfl
      · exact .inl h
      · exact .inl (qgG h)
    | osl h =>
      simp only [Option.some.injEq] at hv
      cases own with
      | true => simp only [cond_true] at hv; subst hv; exact .inr ⟨t, _, rfl, h⟩
      | false => simp only [cond_false, copy] at hv; subst hv; exact .inl (.d _ _ h.rep)
    | lp s off =>
      simp only [Option.some.injEq] at hv
      cases own <;> simp only [cond_true, cond_false, copy] at hv <;> subst hv <;> simp [V.leaves, V.ok] at hl
    | cp x b off vs hr hc hp =>
      simp only [Option.some.injEq] at hv
      cases own <;> simp only [cond_true, cond_false, copy] at hv <;> subst hv <;> simp [V.leaves, V.ok] at hl
    | box cs arr T hb ho hp hl' hr => cases hv
  | cell b t =>
    simp only [qrK, Option.map_eq_some_iff] at ht
    obtain ⟨l, hlay, rfl⟩ := ht
    simp only [qaI] at hv
    have he := hR.e b
    split at hv
    · rename_i cs hbox
      rw [hbox] at he
      generalize htm : a.tmps.getD b Go.undef = c at he
      cases he with
      | s h => cases h
      | box _ arr T hb ho hp hl' hr =>
        obtain ⟨c, h1, h2⟩ := qhi (P := P) hlay hb (Nat.le_of_eq hl') hr hv
        refine ⟨c, ?_, .inl h2⟩
        simp only [qoA, htm, Go.asAddr, Sem.run_bind, Sem.run_pure, Result.andThen_ok, h1]
    · rename_i id off hptr
      rw [hptr] at he
      generalize htm : a.tmps.getD b Go.undef = c at he
      have hld : zE l st (.ptr id off) = some v := hv
      cases he with
      | s h =>
        obtain ⟨c', h1, h2⟩ := qiL (P := P) (a := a) hlay hR (.s h) hld
        refine ⟨c', ?_, .inl h2⟩
        simp only [qoA, htm, Sem.run_bind]
        cases h with
        | ptr _ _ hid =>
          simp only [Go.asAddr, Sem.run_pure, Result.andThen_ok]
          simp only [Go.Instr.loadAt] at h1
          exact h1
    · cases hv
theorem qjC : ∀ {vs : List V}, V.ok.oks vs = true → ∀ v ∈ vs, v.ok = true
  | [], _, v, h => by simp at h
  | x :: l, h, v, hv => by
    simp only [V.ok.oks, qvB] at h
    rcases List.mem_cons.1 hv with e | hv
    · subst e; exact h.1
    · exact qjC h.2 v hv
theorem qk8 {v : V} (h : v.ok = true) : v.leaves = true := by cases v <;> first | exact h | rfl
theorem qfp (hR : Rel M g w β st a.tmps) {own : Bool} : ∀ {rvs : List Go.ResultVar} {rs : List Rv} {vs : List V}, qeQ P rvs = some rs → zm own st rs = some vs → (∀ v ∈ vs, v.ok = true) →
    ∃ cs, (rvs.mapM (qoA a.tmps)).run P w = .ok cs w ∧ RepSL M g w vs cs
  | [], rs, vs, ht, hv, _ => by
    simp only [qeQ, Option.some.injEq] at ht
    subst ht
    simp only [zm, Option.some.injEq] at hv
    subst hv
    exact ⟨[], by simp, .nil⟩
  | rv :: rvs, rs, vs, ht, hv, hok => by
    simp only [qeQ] at ht
    split at ht
    · rename_i r l hr hl
      simp only [Option.some.injEq] at ht
      subst ht
      simp only [zm] at hv
      split at hv
      · rename_i v hv1
        split at hv
        · rename_i vs' hv2
          simp only [Option.some.injEq] at hv
          subst hv
          have hvok := hok v (by simp)
          obtain ⟨c, h1, h2⟩ := qjo (P := P) hR hr hv1 (qk8 hvok)
          obtain ⟨cs, h3, h4⟩ := qfp hR hl hv2 (fun v hv => hok v (by simp [hv]))
          have h2' : RepS M g w v c := by
            rcases h2 with h | ⟨n, xs, rfl, _⟩
            · exact h
            · cases hvok
          refine ⟨c :: cs, ?_, .cons _ _ _ _ h2' h4⟩
          rw [List.mapM_cons]
          simp only [Sem.run_bind, h1, Result.andThen_ok, h3, Sem.run_pure]
        · cases hv
      · cases hv
    · cases ht
theorem qlN {H : List Obj} (h : RelH M g w H) {b n : Nat} (hb : g.own b = some (.slot n)) (hlt : b < w.heap.size) (ℓ : Option Loc) : RelH M (g.setOwn b ℓ) w H :=
  ⟨h.n, fun id o ho => (h.h id o ho).mono (qbt g w b ℓ) (qvC _) (fun _ _ => rfl) (by rw [h.n]; exact (List.getElem?_eq_some_iff.1 ho).1) (jO ℓ hb (by simp)) (fun i => jO ℓ hb (by simp)), fun x hx => by
    have : x ≠ b := by omega
    simpa [Gh.setOwn, this] using h.fresh x hx, h.gl.mono (qbt g w b ℓ)⟩
theorem qlY {fn : Func} {rs : List Rv} (htr : qeQ P fn.results.toList = some rs) (hR : Rel M g w β st a.tmps) {own : Bool} {vs : List V} (hv : zm own st rs = some vs) (hl : (qe2 vs).leaves = true) :
    ∃ c g', (Go.results fn a.tmps).run P w = .ok c w ∧ RelH M g' w st.H ∧ Evo g w g' w ∧ RepA M g' w 0 (qe2 vs) c := by
  have hm : ∀ cs, (fn.results.toList.mapM (qoA a.tmps)).run P w = .ok cs w →
      (Go.results fn a.tmps).run P w = .ok (match cs with | [c] => c | cs => .tuple cs.toArray) w := by
    intro cs h
    rw [qnL, Array.mapM_eq_mapM_toList]
    simp only [Sem.run_bind, map_eq_pure_bind, h, Result.andThen_ok, Sem.run_pure]
    rcases cs with _ | ⟨c, _ | ⟨c2, cs⟩⟩ <;> simp
  by_cases h1 : ∃ v, vs = [v]
  · obtain ⟨v, rfl⟩ := h1
    simp only [qe2] at hl ⊢
    -- one
    cases hrs : fn.results.toList with
    | nil =>
      rw [hrs] at htr
      simp only [qeQ, Option.some.injEq] at htr
      subst htr
      simp [zm] at hv
    | cons rv l =>
      rw [hrs] at htr
      simp only [qeQ] at htr
      split at htr
      · rename_i r rl hr hrl
        simp only [Option.some.injEq] at htr
        subst htr
        simp only [zm] at hv
        split at hv
        · rename_i v1 hv1
          split at hv
          · rename_i vs' hv2
            simp only [Option.some.injEq, List.cons.injEq] at hv
            obtain ⟨rfl, rfl⟩ := hv
            obtain ⟨c, k1, k2⟩ := qjo (P := P) hR hr hv1 hl
            obtain ⟨cs, k3, k4⟩ := qfp hR hrl hv2 (by simp)
            cases k4
            have hrun := hm [c] (by rw [hrs, List.mapM_cons]; simp only [Sem.run_bind, k1, Result.andThen_ok, k3, Sem.run_pure])
            rcases k2 with k2 | ⟨n, xs, rfl, k2⟩
            · exact ⟨c, g, hrun, hR.toH, Evo.refl g w, .s k2⟩
            · rcases k2.setOwn with ⟨b, hb, hlt, hv'⟩ | hv'
              case inr => exact ⟨c, g, hrun, hR.toH, Evo.refl g w, .osl (hv' _)⟩
              exact ⟨c, g.setOwn b (some (.slot 0)), hrun, qlN hR.toH hb hlt _, qdf _ hb (by simp), .osl (hv' _)⟩
          · cases hv
        · cases hv
      · cases htr
  · have e : qe2 vs = .tup vs := by
      rcases vs with _ | ⟨v, _ | ⟨v2, vs⟩⟩
      · rfl
      · exact absurd ⟨v, rfl⟩ h1
      · rfl
    rw [e] at hl ⊢
    have hok : V.ok.oks vs = true := by simpa [V.leaves, V.ok] using hl
    obtain ⟨cs, k1, k2⟩ := qfp hR htr hv (qjC hok)
    have hlen := k2.length
    refine ⟨.tuple cs.toArray, g, ?_, hR.toH, Evo.refl g w, .s (.tup _ _ (by simpa using k2))⟩
    rw [hm cs k1]
    rcases cs with _ | ⟨c, _ | ⟨c2, cs⟩⟩
    · rfl
    · exfalso
      apply h1
      match vs, hlen with
      | [v], _ => exact ⟨v, rfl⟩
    · rfl
end
def quU (P : Program) (M : Maps) (pg : Pg) : Prop :=
  ∀ f' i, look M.fm f' = some i → ∀ fn', pg.fn i = some fn' → ∃ fn A own, P.funcs[f']? = some fn ∧ (fn.name == "runtime.NumGoroutine") = false ∧ jb M P A own fn = some fn'
def Tab (P : Program) (M : Maps) (pg : Pg) : Prop := quU P M pg ∧ qkR P M
theorem qlw {P : Program} {M : Maps} {A : Ann} {own : Bool} {fn : Func} {fn' : Fn} (h : jb M P A own fn = some fn') :
    ∃ c x d hh rs, fn.body = some c ∧ yR fn.ntmps c = true ∧ qkn M P A c = some (x, d, hh) ∧ qeQ P fn.results.toList = some rs ∧ fn' = ⟨fn.params.size + fn.nfree, rs, own, x, d, hh⟩ := by
  unfold jb at h
  split at h
  · rename_i c hbody
    split at h
    · cases h
    · rename_i hdst
      split at h
      · rename_i x d hh rs hb hrs
        simp only [Option.some.injEq] at h
        exact ⟨c, x, d, hh, rs, hbody, by simpa using hdst, hb, hrs, h.symm⟩
      · cases h
  · cases h
theorem MarksOk.put {g : Gh} {w0 w : World} {ms : List Go.Deferred} (h : MarksOk g w0 w ms) {r : Nat} {o : Go.Obj} (hr : ∀ d ∈ ms, d.target ≠ .collected r) : MarksOk g w0 (w.putObj r o) ms := by
  induction h with
  | nil => exact .nil
  | cons r' ht hlo hb ho hf hl ih =>
    rename_i d ms
    have hne : r' ≠ r := fun e => hr d (by simp) (by rw [ht, e])
    exact .cons r' ht hlo ((Go.World.putObj_heap_other hne).trans hb) ho hf (ih (fun d' hd' => hr d' (by simp [hd'])))
theorem qcW {P : Program} {F : Fence} {n : Nat} {fn : Func} {tmps : Array Value} {R : Ending → World → Prop} {u : Go.FrameMode} {rest : List Go.Deferred} (hu : u ≠ .run) {g : Gh} {w0 : World} (J : World → Prop)
    (hJ : ∀ w r, J w → w.heap[r]? = some (.deferred (some [])) → g.own r = none → w0.heap.size ≤ r → J (w.putObj r (.deferred none))) (hrest : ∀ w, J w → Go.LeavesInM F n P fn tmps R rest u w) :
    ∀ (ms : List Go.Deferred) (w : World), MarksOk g w0 w ms → J w → Go.LeavesInM F n P fn tmps R (ms ++ rest) u w
  | [], w, _, h => hrest w h
  | d :: ms, w, .cons r ht hlo hb ho hf hl, h => by
    refine ⟨hu, .inl ⟨r, w.putObj r (.deferred none), ht, Go.run_takeDeferred hb, ?_⟩⟩
    exact qcW hu J hJ hrest ms _ (hl.put hf) (hJ w r h hb ho hlo)
section
variable {P : Program} {M : Maps} {g : Gh} {w : World}
theorem qg1 {fn : Func} {fn' : Fn} (hrs : qeQ P fn.results.toList = some fn'.res) {H : List Obj} (hH : RelH M g w H) {st2 : St} (hlo : ∀ id, id < st2.lo → id < H.length → st2.H[id]? = H[id]?) {r : Cr} (hend : yx fn' H st2 = some r)
    {g2 : Gh} {w2 : World} {β2 : Nat → Nat} {a : Act} (hR : Rel M g2 w2 β2 st2 a.tmps) (hE : Evo g w g2 w2) {ms : List Go.Deferred} (hm : MarksOk g2 w w2 ms) : Go.LeavesInM Fence.wide 0 P fn a.tmps (zW M g w r) ms .returning w2 := by
  have := qcW (P := P) (F := Fence.wide) (n := 0) (fn := fn) (tmps := a.tmps) (R := zW M g w r) (u := .returning) (rest := []) (by simp) (g := g2) (w0 := w) (fun wx => Rel M g2 wx β2 st2 a.tmps ∧ Evo g w g2 wx)
    (fun wx r' h hb ho hl => ⟨qiB h.1 hb rfl rfl ho, qiA h.2 hl hb rfl rfl⟩) (fun wx h => ?_) ms w2 hm ⟨hR, hE⟩
  · rwa [List.append_nil] at this
  · obtain ⟨hRx, hEx⟩ := h
    obtain ⟨vs, hvs, hl⟩ := qii hend
    have hlv : (qe2 vs).leaves = true := by
      unfold leave at hl
      cases hq : (qe2 vs).leaves with
      | true => rfl
      | false => simp [hq] at hl
    obtain ⟨v, g3, k1, k2, k3, k4⟩ := qlY hrs hRx hvs hlv
    obtain ⟨h1, h2⟩ := qjk hH k2 (hEx.trans k3) hlo k4 hl
    exact ⟨v, k1, h1, h2⟩
theorem qkY {fn : Func} {H : List Obj} (hH : RelH M g w H) {st2 : St} (hlo : ∀ id, id < st2.lo → id < H.length → st2.H[id]? = H[id]?) {v : V} {r : Cr} (hend : leave H true v st2 = some r) {cv : Value}
    {g2 : Gh} {w2 : World} {β2 : Nat → Nat} {a : Act} (hR : Rel M g2 w2 β2 st2 a.tmps) (hE : Evo g w g2 w2) (hv : RepA M g2 w2 0 v cv) {ms : List Go.Deferred} (hm : MarksOk g2 w w2 ms) :
    Go.LeavesInM Fence.wide 0 P fn a.tmps (zW M g w r) ms (.panicking [{ v := cv, recovered := false }]) w2 := by
  have := qcW (P := P) (F := Fence.wide) (n := 0) (fn := fn) (tmps := a.tmps) (R := zW M g w r) (u := .panicking [{ v := cv, recovered := false }]) (rest := []) (by simp) (g := g2) (w0 := w) (fun wx => Rel M g2 wx β2 st2 a.tmps ∧ Evo g w g2 wx ∧ RepA M g2 wx 0 v cv)
    (fun wx r' h hb ho hl => ⟨qiB h.1 hb rfl rfl ho, qiA h.2.1 hl hb rfl rfl, ?_⟩) (fun wx h => ?_) ms w2 hm ⟨hR, hE, hv⟩
  · rwa [List.append_nil] at this
  · cases h.2.2 with
    | s hs => exact .s (hs.mono (qbb hb rfl rfl) (qvC _) (fun _ _ => rfl) hs.ref)
    | osl hs => exact .osl (hs.mono (qbb hb rfl rfl) (qdP ho _))
  · obtain ⟨hRx, hEx, hvx⟩ := h
    obtain ⟨h1, g3, h2, h3, h4⟩ := qjk hH hRx.toH hEx hlo hvx hend
    exact ⟨h1, g3, cv, rfl, h2, h3, h4⟩
theorem qkU {pg : Pg} (hT : Tab P M pg) {ex : C → St → Option (Ex × St)} (hlo : ∀ c st e st', ex c st = some (e, st') → LoOk st st') (he : qdq P M ex) (hs : qhN ex)
    {fn : Func} {fn' : Fn} (hrs : qeQ P fn.results.toList = some fn'.res) {H : List Obj} (hH : RelH M g w H) {h : Nat} {vs : List V} {v : V} {st' : St} (hlo' : ∀ id, id < st'.lo → id < H.length → st'.H[id]? = H[id]?) {r : Cr} (hh : handle pg ex fn' H h vs v st' = some r)
    {h' : FuncId} (hlook : look M.fm h' = some h) {fv cv : Array Value} {g2 : Gh} {w2 : World} {β2 : Nat → Nat} {a : Act} (hR : Rel M g2 w2 β2 st' a.tmps) (hE : Evo g w g2 w2) (hvs : RepSL M g2 w2 vs (fv ++ cv).toList) {ms : List Go.Deferred} (hm : MarksOk g2 w w2 ms)
    {u : Go.FrameMode} {pv : Value} (hv : RepS M g2 w2 v pv) (hu : (u = .returning ∧ pv = .nilIface) ∨ u = .panicking [{ v := pv, recovered := false }]) :
    Go.LeavesInM Fence.wide 0 P fn a.tmps (zW M g w r) ({ target := .fn (.func h') cv, args := fv } :: ms) u w2 := by
  obtain ⟨hf, d, st2, k1, k2, k3, k4, k5, k6⟩ := qet hh
  obtain ⟨fnh, A, own, q1, q2, q3⟩ := hT.1 h' h hlook hf k1
  obtain ⟨c, x, dd, hh', rs, c1, c2, c3, c4, c5⟩ := qlw q3
  subst c5
  simp only at k2 k3 k4 k5
  subst k2
  subst k4
  have hres : fnh.results = #[] := by
    apply Array.ext'
    cases hq : fnh.results.toList with
    | nil => rfl
    | cons y l =>
      rw [hq] at c4
      simp only [qeQ] at c4
      split at c4 <;> simp at c4
  have htr : trH M P A c = some (d, x) ∧ kc c = true := by
    unfold qkn at c3
    split at c3
    · split at c3
      · rename_i hnd
        split at c3
        · rename_i d' x' ht
          simp only [Option.some.injEq, Prod.mk.injEq] at c3
          obtain ⟨rfl, rfl, rfl⟩ := c3
          exact ⟨ht, hnd⟩
        · cases c3
      · cases c3
    · split at c3
      · split at c3 <;> simp at c3
      · split at c3 <;> simp at c3
  have hun : u ≠ .run := by rcases hu with ⟨rfl, _⟩ | rfl <;> simp
  have hinv : ∀ wx, (Go.invoke (.fn (.func h') cv) fv).run P wx = .ok (.enter h' (fv ++ cv)) wx := fun wx => by
    have hn : ¬ fnh.name = "runtime.NumGoroutine" := by simpa using q2
    simp [Go.invoke, Go.callFunc, q1, hn, c1]
  refine ⟨hun, .inr ⟨fun hd => WF.wide.depth hd, .func h', cv, h', fv ++ cv, rfl, hinv w2, fun _ _ => trivial, ?_⟩⟩
  refine Go.callsDIn_of_wpSIn q1 c1 trivial (fun c₀ cs hmode => ?_)
  have hargs : ArgsRep M (kV (yJ 0 []) g2) w2 0 vs (fv ++ cv).toList := qeH 0 hvs
  have hrel := qj8 (β := fun _ => 0) hargs (qiN (hand := yJ 0 []) hR.toH) (fnh.ntmps - (fv ++ cv).size) st'.lo
  have hrel' : Rel M (kV (yJ 0 []) g2) w2 (fun _ => 0) { env := z0 0 vs, H := st'.H, lo := st'.lo } ((fv ++ cv) ++ Array.replicate (fnh.ntmps - (fv ++ cv).size) Go.undef) := by
    have e : (fv ++ cv).toList.toArray = fv ++ cv := by simp
    rw [e] at hrel
    exact hrel
  have hsz : fnh.ntmps ≤ ((fv ++ cv) ++ Array.replicate (fnh.ntmps - (fv ++ cv).size) Go.undef).size := by simp only [Array.size_append, Array.size_replicate]; omega
  let u' : Go.FrameMode := match u with | .panicking [{ v, .. }] => .panicking [{ v, recovered := true }] | u => u
  have hset : Go.settle u' = .returning := by rcases hu with ⟨rfl, _⟩ | rfl <;> rfl
  have hrec : Go.recoverD (c₀ :: cs) = some (pv, { c₀ with mode := u' } :: cs) ∨ (Go.recoverD (c₀ :: cs) = none ∧ pv = .nilIface ∧ { c₀ with mode := u' } :: cs = c₀ :: cs) := by
    rcases hu with ⟨rfl, hp⟩ | rfl
    · refine .inr ⟨by simp [Go.recoverD, hmode], hp, ?_⟩
      show { c₀ with mode := Go.FrameMode.returning } :: cs = c₀ :: cs
      rw [← hmode]
    · exact .inl (by simp [Go.recoverD, hmode, u'])
  have main : ∀ (e3 : Ex), (e3 = .nrm ∨ e3 = .ret) → ex x ⟨(d, v) :: z0 0 vs, st'.H, st'.lo⟩ = some (e3, st2) → c.wpSIn Fence.wide 0 P (Go.bodyPostS P fnh c₀ cs fun
          | .returned _, u', w' => Go.LeavesInM Fence.wide 0 P fn a.tmps (zW M g w r) ms (Go.settle u') w'
          | .panicked chain, u', w' => Go.LeavesInM Fence.wide 0 P fn a.tmps (zW M g w r) ms (Go.raised u' chain) w'
          | .outgrown, _, w' => zW M g w r .outgrown w') { tmps := (fv ++ cv) ++ Array.replicate (fnh.ntmps - (fv ++ cv).size) Go.undef, defers := [] } (c₀ :: cs) w2 := by
    intro e3 hen hrun
    refine qkw he hs htr.1 (st := ⟨z0 0 vs, st'.H, st'.lo⟩) hrun hen c2 hsz hrel' (qgy hv) hrec (fun z a3 w3 hp => ?_)
    have key : Good (kc c = true) M (kV (yJ 0 []) g2) w2 { tmps := (fv ++ cv) ++ Array.replicate (fnh.ntmps - (fv ++ cv).size) Go.undef, defers := [] } st2 a3 w3 →
        a3.defers = [] ∧ ∃ u'', { c₀ with mode := u' } :: cs = { c₀ with mode := u'' } :: cs ∧ ∃ v, (Go.results fnh a3.tmps).run P w3 = .ok v w3 ∧ Go.LeavesInM Fence.wide 0 P fn a.tmps (zW M g w r) ms (Go.settle u'') w3 := by
      intro hg
      obtain ⟨⟨g3, β3, r1, r2, _⟩, _, r5⟩ := hg
      refine ⟨r5 htr.2, u', rfl, .tuple #[], by simp [Go.results, hres], ?_⟩
      rw [hset]
      have hR4 := hR.restRel (os := []) (j := 0) r2 r1.toH (lo := st2.lo) none
      have hE4 : Evo g2 w2 (qam (yJ 0 []) none g2 g3) w3 := qfa hR.fr r2
      refine qg1 hrs hH (fun id h1 h2 => ?_) k6 hR4 (hE.trans hE4) (hm.mono hE4)
      have hl := hlo _ _ _ _ hrun
      have h1 : id < st2.lo := h1
      have := hl.old id h1 (Nat.lt_of_lt_of_le h2 ?_)
      · exact this.trans (hlo' id (Nat.lt_of_lt_of_le h1 hl.lo) h2)
      · have := hR.n
        have := hE.n
        have := hH.n
        simp only at *
        omega
    rcases hen with rfl | rfl
    · cases z with
      | normal => exact key hp
      | _ => exact hp.elim
    · cases z with
      | ret => exact key hp
      | _ => exact hp.elim
  rcases k5 with k5 | k5
  · exact main .nrm (.inl rfl) k5
  · exact main .ret (.inr rfl) k5
end
theorem qeY {P : Program} {M : Maps} {pg : Pg} (hT : Tab P M pg) {ex : C → St → Option (Ex × St)} (hlo : ∀ c st e st', ex c st = some (e, st') → LoOk st st') (he : qdq P M ex) (hs : qhN ex)
    {i : Nat} {vs : List V} {H : List Obj} {r : Cr} (hcall : kQ pg ex i vs H = some r) {f' : FuncId} (hlook : look M.fm f' = some i) (hext : pg.fn i ≠ none) {g : Gh} {w : World} {argv : List Value} (hargs : ArgsRep M g w 0 vs argv) (hH : RelH M g w H) :
    Calls P f' argv.toArray w (zW M g w r) ∧ (Go.callFunc f' argv.toArray).run P w = .ok (.enter f' argv.toArray) w := by
  unfold kQ at hcall
  split at hcall
  · rename_i hn; exact absurd hn hext
  · rename_i fn' hfn'
    obtain ⟨fn, A, own, hf, hname, htr⟩ := hT.1 f' i hlook fn' hfn'
    obtain ⟨c, x, dd, hh, rs, hbody, hdst, hb, hrs, rfl⟩ := qlw htr
    simp only at hcall
    split at hcall
    · rename_i hnp
      obtain ⟨hnp, hhn⟩ := hnp
      subst hhn
      have hrel := qj8 (β := fun _ => 0) hargs hH (fn.ntmps - argv.toArray.size) H.length
      have hsize : fn.ntmps ≤ (argv.toArray ++ Array.replicate (fn.ntmps - argv.toArray.size) Go.undef).size := by simp; omega
      have main : c.wpIn Fence.wide 0 P (Go.bodyPostM Fence.wide 0 P fn (zW M g w r)) { tmps := argv.toArray ++ Array.replicate (fn.ntmps - argv.toArray.size) Go.undef, defers := [] } w →
          Calls P f' argv.toArray w (zW M g w r) ∧ (Go.callFunc f' argv.toArray).run P w = .ok (.enter f' argv.toArray) w := by
        intro hwp
        refine ⟨Go.callsIn_wide.1 (Go.callsIn_of_wp_marks (args := argv.toArray) hf hbody trivial hwp), ?_⟩
        have hn : ¬ fn.name = "runtime.NumGoroutine" := by simpa using hname
        simp [Go.callFunc, hf, hn, hbody]
      apply main
      have old : ∀ {st : St} {e : Ex}, ex x { env := z0 0 vs, H, lo := H.length } = some (e, st) → ∀ id, id < st.lo → id < H.length → st.H[id]? = H[id]? := fun h id h1 h2 => (hlo _ _ _ _ h).old id h1 h2
      -- an end ahead of any 'defer', or without one
      have endR : ∀ {e : Ex} {st : St}, ex x { env := z0 0 vs, H, lo := H.length } = some (e, st) → yx ⟨fn.params.size + fn.nfree, rs, own, x, dd, none⟩ H st = some r → ∀ a' w', Good False M g w { tmps := argv.toArray ++ Array.replicate (fn.ntmps - argv.toArray.size) Go.undef, defers := [] } st a' w' →
          Go.LeavesInM Fence.wide 0 P fn a'.tmps (zW M g w r) a'.defers .returning w' := by
        intro e st hrun hend a' w' hg
        obtain ⟨⟨g1, β1, hR1, hE1, ms, hms, hmk⟩, _, _⟩ := hg
        rw [hms, List.append_nil]
        exact qg1 (fn' := ⟨fn.params.size + fn.nfree, rs, own, x, dd, none⟩) hrs hH (old hrun) hend hR1 hE1 hmk
      have endP : ∀ {v : V} {st : St}, ex x { env := z0 0 vs, H, lo := H.length } = some (.pan v, st) → leave H true v st = some r → ∀ ch a' w', BadEnd False M g w { tmps := argv.toArray ++ Array.replicate (fn.ntmps - argv.toArray.size) Go.undef, defers := [] } v st ch a' w' →
          Go.LeavesInM Fence.wide 0 P fn a'.tmps (zW M g w r) a'.defers (.panicking ch) w' := by
        intro v st hrun hend ch a' w' hg
        obtain ⟨⟨g1, cv, β1, rfl, hR1, hE1, hv, ms, hms, hmk⟩, _, _⟩ := hg
        rw [hms, List.append_nil]
        exact qkY hH (old hrun) hend hR1 hE1 hv hmk
      unfold qkn at hb
      split at hb
      · split at hb
        · split at hb <;> simp at hb
        · cases hb
      · split at hb
        · -- a deferred closure
          split at hb
          · rename_i pre t post htD
            simp only [Option.some.injEq, Prod.mk.injEq] at hb
            obtain ⟨rfl, rfl, _⟩ := hb
            split at hcall
            · rename_i st hrun
              simp only at hcall
              obtain ⟨h, first, cap, e, st', v, k1, k2, k3, k4, k5⟩ := qcQ hcall
              refine qgX he hs htD hrun hdst hsize hrel (fun hne => absurd rfl hne) (fun _ => ⟨h, first, cap, e, st', k1, k2, k3, fun z a' w' hp => ?_⟩)
              obtain ⟨g1, w1, a1, ds1, h', fv, cv, q1, q2, q3, q4, q5, ⟨ms0, q6, q6'⟩, q7, q8⟩ := hp
              have q6 : ds1 = ms0 := by simpa using q6
              subst q6
              have hlo2 : ∀ id, id < st'.lo → id < H.length → st'.H[id]? = H[id]? := fun id h1 h2 => by
                have l1 := hlo _ _ _ _ hrun
                have l2 := hlo _ _ _ _ k3
                exact (l1.trans l2).old id h1 h2
              -- behind the rest: marks, the closure, marks
              have fin : ∀ {g2 : Gh} {β2 : Nat → Nat} {u : Go.FrameMode} {pv : Value}, Rel M g2 w' β2 st' a'.tmps → Evo g1 w1 g2 w' → DefOk g2 w1 w' a1.defers a'.defers → RepS M g2 w' v pv → ((u = .returning ∧ pv = .nilIface) ∨ u = .panicking [{ v := pv, recovered := false }]) →
                  Go.LeavesInM Fence.wide 0 P fn a'.tmps (zW M g w r) a'.defers u w' := by
                intro g2 β2 u pv hR2 hE2 hD2 hv hu
                obtain ⟨ms, hms, hmk⟩ := hD2
                rw [hms, q7]
                have hun : u ≠ .run := by rcases hu with ⟨rfl, _⟩ | rfl <;> simp
                have hsl : RepSL M g1 w1 (first ++ cap) (fv ++ cv).toList := by
                  rw [Array.toList_append]; exact q2.append q3
                refine qcW hun (g := g2) (w0 := w1) (fun wx => Rel M g2 wx β2 st' a'.tmps ∧ Evo g w g2 wx ∧ RepS M g2 wx v pv ∧ RepSL M g2 wx (first ++ cap) (fv ++ cv).toList ∧ MarksOk g2 w wx ds1)
                  (fun wx r' hx hb' ho' hl' => ⟨qiB hx.1 hb' rfl rfl ho', qiA hx.2.1 (Nat.le_trans q4.size hl') hb' rfl rfl, ?_, ?_, ?_⟩) (fun wx hx => ?_) ms w' hmk ⟨hR2, q4.trans hE2, hv, ?_, q6'.mono hE2⟩
                · exact hx.2.2.1.mono (qbb hb' rfl rfl) (qvC _) (fun _ _ => rfl) hx.2.2.1.ref
                · exact hx.2.2.2.1.mono (qbb hb' rfl rfl) (qvC _) (fun _ _ => rfl) hx.2.2.2.1.ref
                · refine hx.2.2.2.2.put (fun d hd => ?_)
                  obtain ⟨r0, hr0, _, hlt⟩ := q6'.lt d hd
                  rw [hr0]
                  intro e
                  cases e
                  omega
                · exact qkU (fn' := ⟨fn.params.size + fn.nfree, rs, own, pre, some (t, post), none⟩) hT hlo he hs hrs hH hlo2 k4 q1 hx.1 hx.2.1 hx.2.2.2.1 hx.2.2.2.2 hx.2.2.1 hu
                · exact hsl.mono hE2.toGrow hE2.n hE2.φ hsl.ref
              rcases k5 with ⟨hen, rfl⟩ | ⟨rfl, hi⟩
              · have good : Good False M g1 w1 a1 st' a' w' → Go.LeavesInM Fence.wide 0 P fn a'.tmps (zW M g w r) a'.defers .returning w' := fun hg => by
                  obtain ⟨⟨g2, β2, hR2, hE2, hD2⟩, _, _⟩ := hg
                  exact fin hR2 hE2 hD2 (.d _ _ .ni) (.inl ⟨rfl, rfl⟩)
                rcases hen with rfl | rfl
                · cases z with
                  | normal => exact good q8
                  | _ => exact q8.elim
                · cases z with
                  | ret => exact good q8
                  | _ => exact q8.elim
              · cases z with
                | panic ch =>
                  obtain ⟨⟨g2, pv, β2, rfl, hR2, hE2, hv, hD2⟩, _, _⟩ := (q8 : BadEnd False M g1 w1 a1 v st' ch a' w')
                  cases hv with
                  | s hv => exact fin hR2 hE2 hD2 hv (.inr rfl)
                  | osl hv => cases hi
                | _ => exact q8.elim
            · rename_i st hrun
              refine qgX he hs htD hrun hdst hsize hrel (fun _ z a' w' hp => ?_) (fun h => by cases h)
              cases z with
              | ret => exact endR hrun hcall a' w' hp
              | _ => exact hp.elim
            · rename_i v st hrun
              refine qgX he hs htD hrun hdst hsize hrel (fun _ z a' w' hp => ?_) (fun h => by cases h)
              cases z with
              | panic ch => exact endP hrun hcall ch a' w' hp
              | _ => exact hp.elim
            · cases hcall
          · cases hb
        · split at hb
          · rename_i x' hc
            simp only [Option.some.injEq, Prod.mk.injEq] at hb
            obtain ⟨rfl, rfl, _⟩ := hb
            split at hcall
            · rename_i st hrun
              refine he A 0 c x' hc _ .nrm st hrun g w _ { tmps := argv.toArray ++ Array.replicate (fn.ntmps - argv.toArray.size) Go.undef, defers := [] } fn.ntmps hdst hsize hrel Fence.wide 0 .wide (.inl rfl) _ (fun z a' w' hp => ?_)
              cases z with
              | normal => exact endR hrun hcall a' w' (Good.weak (fun h => h.elim) hp)
              | _ => exact hp.elim
            · rename_i st hrun
              refine he A 0 c x' hc _ .ret st hrun g w _ { tmps := argv.toArray ++ Array.replicate (fn.ntmps - argv.toArray.size) Go.undef, defers := [] } fn.ntmps hdst hsize hrel Fence.wide 0 .wide (.inl rfl) _ (fun z a' w' hp => ?_)
              cases z with
              | ret => exact endR hrun hcall a' w' (Good.weak (fun h => h.elim) hp)
              | _ => exact hp.elim
            · rename_i v st hrun
              refine he A 0 c x' hc _ (.pan v) st hrun g w _ { tmps := argv.toArray ++ Array.replicate (fn.ntmps - argv.toArray.size) Go.undef, defers := [] } fn.ntmps hdst hsize hrel Fence.wide 0 .wide (.inl rfl) _ (fun z a' w' hp => ?_)
              cases z with
              | panic ch =>
                have hp : BadEnd _ M g w _ v st ch a' w' := hp
                exact endP hrun hcall ch a' w' ⟨hp.r, hp.size, fun h => h.elim⟩
              | _ => exact hp.elim
            · cases hcall
          · cases hb
    · cases hcall
theorem qjQ {P : Program} {f' : FuncId} {args : Array Value} {w : World} {M : Maps} {g : Gh} {r : Cr} (h : Calls P f' args w (zW M g w r) ∧ (Go.callFunc f' args).run P w = .ok (.enter f' args) w) : qt9 P f' args w (zW M g w r) := by
  intro o a K Q hK hQ
  rw [h.2, Oper.upon_enter]
  refine h.1.mono (fun en w' hp => ?_)
  cases en with
  | returned v => exact hK v w' hp
  | panicked ch => exact hQ ch w' hp
  | outgrown => exact hp.elim
theorem qeq {P : Program} {M : Maps} {pg : Pg} (hT : Tab P M pg) (hx : yc P M pg.ext) {ex : C → St → Option (Ex × St)} (hlo : ∀ c st e st', ex c st = some (e, st') → LoOk st st') (he : qdq P M ex) (hs : qhN ex) :
    yc P M (kQ pg ex) := by
  intro i vs H r hcall f' hlook g w argv hargs hH
  cases hn : pg.fn i with
  | none =>
    have : pg.ext i vs H = some r := by
      unfold kQ at hcall
      rw [hn] at hcall
      exact hcall
    exact hx i vs H r this f' hlook g w argv hargs hH
  | some fn' => exact qjQ (qeY hT hlo he hs hcall hlook (by rw [hn]; simp) hargs hH)
end W

