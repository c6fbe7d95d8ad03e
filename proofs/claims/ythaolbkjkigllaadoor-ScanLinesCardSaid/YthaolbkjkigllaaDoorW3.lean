/-
  ScanLines: which line and column any place is in, for every text and place.: part 3 of what the proof rests on (a value semantics for a part of the language, sound against the model; the walks).
-/
import Derived.Great.BuildSlice
import Derived.DataReads
import Derived.Laws.BytesString
import Derived.Laws.Runes
import Derived.OrdersIn
import Derived.RangeFuncLeaves
import Derived.RecoverIn
import Derived.RangeFuncOwn
import Derived.Test.YthaolbkjkigllaaDoorW2
/-
  Pieces, lengths, look-ups.
-/
set_option linter.unusedSimpArgs false
set_option linter.unusedVariables false
namespace W
open Go (World Value Addr IntKind Program TypeId FuncId Operand Act Oper Next Result Sem BinOp UnOp)
theorem run_sliceBound {P : Program} {w : World} {k : IntKind} {n : Int} {y : Nat} (code : Go.BoundsCode) (h0 : 0 ≤ n) (h1 : n ≤ y) : (Go.Instr.sliceBound (.int k n) y code).run P w = .ok n.toNat w := by
  simp only [Go.Instr.sliceBound, Sem.run_bind, asIntOf_run, Result.andThen_ok, h0, h1, and_self, if_true, Sem.run_pure]
def OptIs : Option Value → Option Int → Prop
  | none, none => True
  | some v, some n => ∃ k, v = .int k n
  | _, _ => False
theorem run_sliceBounds {P : Program} {w : World} (isSlice : Bool) {len cap : Nat} (hlc : len ≤ cap) {lo hi : Option Value} {a b : Option Int} (ha : OptIs lo a)
    (hb : OptIs hi b) {l h : Nat} (hcut : cutD len a b = some (l, h)) :
    (Go.Instr.sliceBounds isSlice len cap lo hi none).run P w = .ok (l, h, cap) w ∧ l ≤ h ∧ h ≤ len := by
  unfold cutD at hcut
  cases hc : (leI 0 (a.getD 0) && leI (a.getD 0) (b.getD ↑len) && leI (b.getD ↑len) ↑len) with
  | false => simp [hc] at hcut
  | true =>
    simp only [hc, cond_true, Option.some.injEq, Prod.mk.injEq] at hcut
    simp only [Bool.and_eq_true] at hc
    have c1 := leI_t hc.1.1
    have c2 := leI_t hc.1.2
    have c3 := leI_t hc.2
    obtain ⟨rfl, rfl⟩ := hcut
    refine ⟨?_, by omega, by omega⟩
    match lo, a, ha, hi, b, hb with
    | none, none, _, none, none, _ => simp [Go.Instr.sliceBounds]
    | none, none, _, some v, some n, ⟨k, hv⟩ =>
      subst hv
      simp only [Option.getD_some, Option.getD_none] at c1 c2 c3 ⊢
      simp only [Go.Instr.sliceBounds, Sem.run_bind, Sem.run_pure, Result.andThen_ok, run_sliceBound _ (by omega : (0:Int) ≤ n) (by omega : n ≤ (cap : Int))]
      rfl
    | some v, some n, ⟨k, hv⟩, none, none, _ =>
      subst hv
      simp only [Option.getD_some, Option.getD_none] at c1 c2 c3 ⊢
      simp only [Go.Instr.sliceBounds, Sem.run_bind, Sem.run_pure, Result.andThen_ok, run_sliceBound _ c1 c2]
      rfl
    | some v, some n, ⟨k, hv⟩, some v', some n', ⟨k', hv'⟩ =>
      subst hv; subst hv'
      simp only [Option.getD_some, Option.getD_none] at c1 c2 c3 ⊢
      simp only [Go.Instr.sliceBounds, Sem.run_bind, Sem.run_pure, Result.andThen_ok, run_sliceBound _ (by omega : (0:Int) ≤ n') (by omega : n' ≤ (cap : Int)), run_sliceBound _ c1 (show n ≤ ((n'.toNat : Nat) : Int) by omega)]
section
variable {P : Program} {M : Maps} {g : Gh} {w : World} {β : Nat → Nat} {st : St} {o : Oper} {a : Act}
theorem optInt_rep (hR : Rel M g w β st a.tmps) {x : Option Operand} {y : Option O} (h : optO M x = some y) {n : Option Int} (hn : optInt st.env y = some n) :
    OptIs (x.map a.eval) n := by
  cases x with
  | none =>
    simp only [optO, Option.some.injEq] at h
    subst h
    simp only [optInt, Option.some.injEq] at hn
    subst hn
    trivial
  | some x =>
    simp only [optO] at h
    cases hx : opnd M false x with
    | none => simp [hx] at h
    | some x' =>
      simp only [hx, Option.map_some, Option.some.injEq] at h
      subst h
      have h1 := rd_rep hR hx
      simp only [optInt] at hn
      split at hn
      · rename_i k m hz
        simp only [Option.some.injEq] at hn
        subst hn
        rw [hz] at h1
        exact ⟨k, repD_i h1.inv_d⟩
      · cases hn
theorem sliceAt_slice {t : TypeId} {d : Go.TypeDesc} (hu : P.underlying t = some d) (hna : ∀ n e, d ≠ .array n e) (x : Value) (lo hi mx : Option Value) : (Go.Instr.sliceAt t x lo hi mx).run P w = (Go.Instr.slice t x lo hi mx).run P w := by
  unfold Go.Instr.sliceAt
  rw [Sem.run_bind, Go.run_underlying hu]
  cases d <;> first | rfl | exact absurd rfl (hna _ _)
theorem nat_seg (s : ByteArray) (l h : Nat) (hh : h ≤ s.size) : (s.extract l h).data.toList.map (·.toNat) = ((s.data.toList.map (·.toNat)).take h).drop l := by
  rw [Go.Lib.extract_data, List.map_take, List.map_drop]
  rw [List.drop_take]
theorem run_slice_op {t : TypeId} {d : Go.TypeDesc} (hu : P.underlying t = some d) (hna : ∀ n e, d ≠ .array n e) {x : Operand} {lo hi : Option Operand} (ho : o.op = .slice t x lo hi none) {c : Value}
    (h : (Go.Instr.slice t (a.eval x) (lo.map a.eval) (hi.map a.eval) none).run P w = .ok c w) : (Go.execOp a.eval o).run P w = .ok (.value c) w := by
  simp only [Go.execOp, ho, Option.map_none]
  rw [Sem.run_bind, sliceAt_slice hu hna, h]
  rfl
theorem sim_sliceS (hd : DstOk o a) (hR : Rel M g w β st a.tmps) {t : TypeId} (hu : P.underlying t = some .string)
    {x : Operand} {x' : O} (hx : opnd M false x = some x') {lo hi : Option Operand} {lo' hi' : Option O} (hlo : optO M lo = some lo') (hhi : optO M hi = some hi')
    (ho : o.op = .slice t x lo hi none) {r : Or} (hr : eSliceS x' lo' hi' st = some r) : Left1 P M g w o a r := by
  have h1 := rd_rep hR hx
  unfold eSliceS at hr
  split at hr
  · rename_i p q hp hq
    have b1 := optInt_rep hR hlo hp
    have b2 := optInt_rep hR hhi hq
    split at hr
    · rename_i v hv
      unfold sliceT at hv
      split at hv
      · rename_i s hz
        rw [hz] at h1
        obtain ⟨z, e1, f1⟩ := repD_s h1.inv_d
        split at hv
        · rename_i l h hcut
          simp only [Option.some.injEq] at hv
          subst hv
          have hlen : s.length = z.size := by rw [← f1, List.length_map, Array.length_toList]; rfl
          rw [hlen] at hcut
          obtain ⟨hrun, h3, h4⟩ := run_sliceBounds (P := P) (w := w) false (Nat.le_refl z.size) b1 b2 hcut
          refine left_pure hd hR (.s (.d _ _ (.s _ (z.extract l h) ?_))) (run_slice_op hu (by simp) ho ?_) hr
          · rw [nat_seg z l h h4, f1]
          · rw [e1]
            simp only [Go.Instr.slice, Sem.run_bind, Go.run_underlying hu, Result.andThen_ok, Option.isSome_none, Bool.false_eq_true, if_false, Sem.run_pure, hrun]
        · cases hv
      · cases hv
    · cases hr
  · cases hr
theorem headIs_sz {size : Nat} {xs : List D} (h : headIs size xs = true) {sz : Nat} (hne : xs ≠ []) (hs : ∀ x ∈ xs, x.cells.length = sz) : sz = size := by
  cases xs with
  | nil => exact absurd rfl hne
  | cons x l =>
    have := Nat.eq_of_beq_eq_true h
    rw [← hs x (by simp)]
    exact this
theorem sim_sliceL (hd : DstOk o a) (hR : Rel M g w β st a.tmps) {t e : TypeId} {ly : L} (hu : P.underlying t = some (.slice e)) (hl : lay P e = some ly)
    {x : Operand} {x' : O} (hx : opnd M false x = some x') {lo hi : Option Operand} {lo' hi' : Option O} (hlo : optO M lo = some lo') (hhi : optO M hi = some hi')
    (ho : o.op = .slice t x lo hi none) {r : Or} (hr : eSliceL ly.n x' lo' hi' st = some r) : Left1 P M g w o a r := by
  have h1 := rd_rep hR hx
  obtain ⟨inf, d, hinf, hud, rfl⟩ := lay_inv hl
  unfold eSliceL at hr
  split at hr
  · rename_i p q hp hq
    have b1 := optInt_rep hR hlo hp
    have b2 := optInt_rep hR hhi hq
    have run : ∀ {ad : Option Addr} {len cap l h : Nat}, len ≤ cap → cutD len p q = some (l, h) → a.eval x = .slice ad len cap →
        (Go.execOp a.eval o).run P w = .ok (.value (.slice (if cap = l then ad else ad.map (·.add (l * inf.size))) (h - l) (cap - l))) w := by
      intro ad len cap l h hlc hcut he
      obtain ⟨hrun, h3, h4⟩ := run_sliceBounds (P := P) (w := w) true hlc b1 b2 hcut
      refine run_slice_op hu (by simp) ho ?_
      rw [he]
      simp only [Go.Instr.slice, Sem.run_bind, Go.run_underlying hu, Result.andThen_ok, hrun, run_sizeOf' hinf, Sem.run_pure]
    split at hr
    · rename_i v hv
      unfold sliceD at hv
      split at hv
      · rename_i xs hz
        rw [hz] at h1
        cases hh : headIs inf.size xs with
        | false => simp [hh] at hv
        | true =>
          simp only [hh, cond_true] at hv
          split at hv
          · rename_i l h hcut
            simp only [Option.some.injEq] at hv
            subst hv
            have hb := (run_sliceBounds (P := P) (w := w) true (Nat.le_refl xs.length) b1 b2 hcut).2
            have h3 := h1.inv_d
            generalize hc : a.eval x = c at h3
            cases h3 with
            | sl0 ad cap =>
              simp only [List.length_nil] at hcut hb
              have hr2 := run (Nat.zero_le cap) hcut hc
              have e0 : h - l = 0 := by omega
              rw [e0] at hr2
              have hlst : (([] : List D).take h).drop l = [] := by simp
              rw [hlst] at hr
              have hsome : ∃ a', (if cap = l then some ad else (some ad : Option Addr).map (·.add (l * inf.size))) = some a' := by split <;> exact ⟨_, rfl⟩
              obtain ⟨a', ha'⟩ := hsome
              rw [ha'] at hr2
              exact left_pure hd hR (.s (.d _ _ (.sl0 _ _))) hr2 hr
            | sl _ b off cap sz vs hne hs hrep hcell hpub hcap hone =>
              have hr2 := run hcap hcut hc
              by_cases hlh : l = h
              · subst hlh
                have e0 : l - l = 0 := by omega
                rw [e0] at hr2
                have hlst : (xs.take l).drop l = [] := by
                  apply List.drop_eq_nil_of_le; simp; omega
                rw [hlst] at hr
                have hsome : ∃ a', (if cap = l then some (⟨b, off, none⟩ : Addr) else (some (⟨b, off, none⟩ : Addr)).map (·.add (l * inf.size))) = some a' := by split <;> exact ⟨_, rfl⟩
                obtain ⟨a', ha'⟩ := hsome
                rw [ha'] at hr2
                exact left_pure hd hR (.s (.d _ _ (.sl0 _ _))) hr2 hr
              · have hsz := headIs_sz hh hne hs
                subst hsz
                have hlt : l < h := by omega
                have hcl : cap ≠ l := by omega
                simp only [hcl, if_false, Option.map_some, add_none] at hr2
                have hlen2 : ((xs.take h).drop l).length = h - l := by simp; omega
                have hsub : ∀ y ∈ (xs.take h).drop l, y.cells.length = inf.size := fun y hy => hs y (List.mem_of_mem_take (List.mem_of_mem_drop hy))
                have hvl : vs.length = xs.length * inf.size := by rw [← hrep.length, flat_len xs _ hs]
                have hmul : h * inf.size ≤ xs.length * inf.size := Nat.mul_le_mul_right _ hb.2
                have hmul2 : l * inf.size ≤ h * inf.size := Nat.mul_le_mul_right _ (by omega)
                have hflat : ((xs.take h).drop l).flatMap D.cells = ((xs.flatMap D.cells).take (h * inf.size)).drop (l * inf.size) := by
                  rw [flat_drop _ inf.size l (fun y hy => hs y (List.mem_of_mem_take hy)) (by simp; omega), flat_take xs inf.size h hs]
                refine left_pure hd hR (.s (.d _ _ ?_)) hr2 hr
                rw [← hlen2]
                refine .sl _ b (off + l * inf.size) (cap - l) inf.size ((vs.take (h * inf.size)).drop (l * inf.size)) ?_ hsub ?_ ?_ ?_ ?_ (fun u hu => hone u (List.mem_of_mem_take (List.mem_of_mem_drop hu)))
                · intro e; rw [e] at hlen2; simp at hlen2; omega
                · rw [hflat]; exact (hrep.take _).drop _
                · intro j v hj
                  have hj2 : l * inf.size + j < h * inf.size := by
                    have := (List.getElem?_eq_some_iff.1 hj).1
                    simp at this; omega
                  rw [show off + l * inf.size + j = off + (l * inf.size + j) by omega]
                  exact hcell _ _ (by simpa [List.getElem?_drop, List.getElem?_take, hj2] using hj)
                · simp; omega
                · rw [hlen2]; omega
          · cases hv
      · rename_i hz
        rw [hz] at h1
        split at hv
        · rename_i lh hcut
          simp only [Option.some.injEq] at hv
          subst hv
          have h3 := h1.inv_d
          generalize hc : a.eval x = c at h3
          cases h3
          obtain ⟨l, h⟩ := lh
          have hb := (run_sliceBounds (P := P) (w := w) true (Nat.le_refl 0) b1 b2 hcut).2
          have hr2 := run (Nat.le_refl 0) hcut hc
          have e0 : l = 0 := by omega
          have e1 : h = 0 := by omega
          subst e0; subst e1
          exact left_pure hd hR (.s (.d _ _ .nil)) (by simpa using hr2) hr
        · cases hv
      · rename_i id off len cap hz
        rw [hz] at h1
        cases hsz : Nat.beq inf.size 1 with
        | false => simp [hsz] at hv
        | true =>
          simp only [hsz, cond_true] at hv
          split at hv
          · rename_i l h hcut
            rw [Bool.cond_eq_ite] at hv
            split at hv
            · rename_i hlt
              simp only [Option.some.injEq] at hv
              subst hv
              have e1 : inf.size = 1 := Nat.eq_of_beq_eq_true hsz
              have hlt : l < h := by simpa using hlt
              generalize hc : a.eval x = c at h1
              cases h1 with
              | s h3 => cases h3 with
                | rs _ _ _ _ hid hcap =>
                  have hb := (run_sliceBounds (P := P) (w := w) true hcap b1 b2 hcut).2
                  have hr2 := run hcap hcut hc
                  have hcl : cap ≠ l := by omega
                  simp only [hcl, if_false, Option.map_some, add_none, e1, Nat.mul_one] at hr2
                  exact left_pure hd hR (.s (.rs id (off + l) (h - l) (cap - l) hid (by omega))) hr2 hr
            · cases hv
          · cases hv
      · cases hv
    · cases hr
  · cases hr
theorem sim_sliceA (hd : DstOk o a) (hR : Rel M g w β st a.tmps) {t e : TypeId} {n : Nat} {i : Go.TypeInfo} (hu : P.underlying t = some (.array n e)) (hinf : P.info? e = some i) (h1s : i.size = 1)
    {x : Operand} {x' : O} (hx : opnd M false x = some x') {lo hi : Option Operand} {lo' hi' : Option O} (hlo : optO M lo = some lo') (hhi : optO M hi = some hi')
    (ho : o.op = .slice t x lo hi none) {r : Or} (hr : eSliceA n x' lo' hi' st = some r) : Left1 P M g w o a r := by
  have h1 := rd_rep hR hx
  unfold eSliceA at hr
  split at hr
  · rename_i p q hp hq
    have b1 := optInt_rep hR hlo hp
    have b2 := optInt_rep hR hhi hq
    split at hr
    · rename_i v hv
      unfold sliceP at hv
      split at hv
      · rename_i id off hz
        rw [hz] at h1
        obtain ⟨e1, hid⟩ := h1.inv_ptr
        split at hv
        · rename_i l h hcut
          split at hv
          · rename_i hln
            simp only [Option.some.injEq] at hv
            subst hv
            have hb := run_sliceBounds (P := P) (w := w) false (Nat.le_refl n) b1 b2 hcut
            refine left_pure hd hR (.s (.rs id (off + l) (h - l) (n - l) hid (by omega))) ?_ hr
            have hne : ¬ n = l := by omega
            simp only [Go.execOp, ho, Option.map_none, Go.Instr.sliceAt, e1, Go.Instr.sureAddr, Sem.run_bind, Go.run_underlying hu, Result.andThen_ok, Sem.run_pure, hb.1, run_sizeOf' hinf, hne, if_false, h1s, Nat.mul_one, add_none]
          · cases hv
        · cases hv
      · cases hv
    · cases hr
  · cases hr
theorem run_sliceBounds3 {P : Program} {w : World} {len cap : Nat} {m : Int} {k k' : IntKind} {b : Int} (h0 : 0 ≤ m) (hm : m ≤ cap) {lo : Option Value} {a : Option Int} (ha : OptIs lo a)
    {l h : Nat} (hcut : cutD m.toNat a (some b) = some (l, h)) :
    (Go.Instr.sliceBounds true len cap lo (some (.int k b)) (some (.int k' m))).run P w = .ok (l, h, m.toNat) w ∧ l ≤ h ∧ h ≤ m.toNat := by
  unfold cutD at hcut
  cases hc : (leI 0 (a.getD 0) && leI (a.getD 0) ((some b).getD ↑m.toNat) && leI ((some b).getD ↑m.toNat) ↑m.toNat) with
  | false => simp only [hc, cond_false] at hcut; cases hcut
  | true =>
    simp only [hc, cond_true, Option.some.injEq, Prod.mk.injEq] at hcut
    simp only [Bool.and_eq_true] at hc
    have c1 := leI_t hc.1.1
    have c2 := leI_t hc.1.2
    have c3 := leI_t hc.2
    obtain ⟨rfl, rfl⟩ := hcut
    simp only [Option.getD_some] at c2 c3 ⊢
    refine ⟨?_, by omega, by omega⟩
    match lo, a, ha with
    | none, none, _ =>
      simp only [Option.getD_none] at c1 c2 ⊢
      simp only [Go.Instr.sliceBounds, Sem.run_bind, Sem.run_pure, Result.andThen_ok, run_sliceBound _ h0 hm, run_sliceBound _ (by omega : (0:Int) ≤ b) c3]
      rfl
    | some v, some n, ⟨k, hv⟩ =>
      subst hv
      simp only [Option.getD_some] at c1 c2 ⊢
      simp only [Go.Instr.sliceBounds, Sem.run_bind, Sem.run_pure, Result.andThen_ok, run_sliceBound _ h0 hm, run_sliceBound _ (by omega : (0:Int) ≤ b) c3, run_sliceBound _ c1 (show n ≤ ((b.toNat : Nat) : Int) by omega)]
theorem run_slice3_op {t : TypeId} {d : Go.TypeDesc} (hu : P.underlying t = some d) (hna : ∀ n e, d ≠ .array n e) {x : Operand} {lo : Option Operand} {hi mx : Operand} (ho : o.op = .slice t x lo (some hi) (some mx)) {c : Value}
    (h : (Go.Instr.slice t (a.eval x) (lo.map a.eval) (some (a.eval hi)) (some (a.eval mx))).run P w = .ok c w) : (Go.execOp a.eval o).run P w = .ok (.value c) w := by
  simp only [Go.execOp, ho, Option.map_some]
  rw [Sem.run_bind, sliceAt_slice hu hna, h]
  rfl
theorem slice_rep {xs : List D} {c : Value} (h3 : RepD g.pub w (.sl xs) c) {size l h m : Nat} (hh : headIs size xs = true) (hlh : l ≤ h) (hhm : h ≤ m) (hmx : m ≤ xs.length) :
    ∃ ad len cap, c = .slice ad len cap ∧ len = xs.length ∧ m ≤ cap ∧ RepD g.pub w (.sl ((xs.take h).drop l)) (.slice (if m = l then ad else ad.map (·.add (l * size))) (h - l) (m - l)) := by
  cases h3 with
  | sl0 ad cap =>
    simp only [List.length_nil] at hmx
    refine ⟨_, _, _, rfl, rfl, by omega, ?_⟩
    have e0 : h - l = 0 := by omega
    have hml : m = l := by omega
    rw [e0, if_pos hml]
    simp only [List.take_nil, List.drop_nil]
    exact .sl0 _ _
  | sl _ b off cap sz vs hne hs hrep hcell hpub hcap hone =>
    refine ⟨_, _, _, rfl, rfl, by omega, ?_⟩
    by_cases hlh2 : l = h
    · subst hlh2
      have e0 : l - l = 0 := by omega
      rw [e0]
      have hlst : (xs.take l).drop l = [] := by
        apply List.drop_eq_nil_of_le; simp; omega
      rw [hlst]
      have hsome : ∃ a', (if m = l then some (⟨b, off, none⟩ : Addr) else (some (⟨b, off, none⟩ : Addr)).map (·.add (l * size))) = some a' := by split <;> exact ⟨_, rfl⟩
      obtain ⟨a', ha'⟩ := hsome
      rw [ha']
      exact .sl0 _ _
    · have hsz := headIs_sz hh hne hs
      subst hsz
      have hlt : l < h := by omega
      have hcl : m ≠ l := by omega
      simp only [hcl, if_false, Option.map_some, add_none]
      have hlen2 : ((xs.take h).drop l).length = h - l := by simp; omega
      have hsub : ∀ y ∈ (xs.take h).drop l, y.cells.length = sz := fun y hy => hs y (List.mem_of_mem_take (List.mem_of_mem_drop hy))
      have hvl : vs.length = xs.length * sz := by rw [← hrep.length, flat_len xs _ hs]
      have hmul : h * sz ≤ xs.length * sz := Nat.mul_le_mul_right _ (by omega)
      have hmul2 : l * sz ≤ h * sz := Nat.mul_le_mul_right _ (by omega)
      have hflat : ((xs.take h).drop l).flatMap D.cells = ((xs.flatMap D.cells).take (h * sz)).drop (l * sz) := by
        rw [flat_drop _ sz l (fun y hy => hs y (List.mem_of_mem_take hy)) (by simp; omega), flat_take xs sz h hs]
      rw [← hlen2]
      refine .sl _ b (off + l * sz) (m - l) sz ((vs.take (h * sz)).drop (l * sz)) ?_ hsub ?_ ?_ ?_ ?_ (fun u hu => hone u (List.mem_of_mem_take (List.mem_of_mem_drop hu)))
      · intro e; rw [e] at hlen2; simp at hlen2; omega
      · rw [hflat]; exact (hrep.take _).drop _
      · intro j v hj
        have hj2 : l * sz + j < h * sz := by
          have := (List.getElem?_eq_some_iff.1 hj).1
          simp at this; omega
        rw [show off + l * sz + j = off + (l * sz + j) by omega]
        exact hcell _ _ (by simpa [List.getElem?_drop, List.getElem?_take, hj2] using hj)
      · simp; omega
      · rw [hlen2]; omega
theorem sim_sliceM (hd : DstOk o a) (hR : Rel M g w β st a.tmps) {t e : TypeId} {ly : L} (hu : P.underlying t = some (.slice e)) (hl : lay P e = some ly)
    {x : Operand} {x' : O} (hx : opnd M false x = some x') {lo : Option Operand} {hi mx : Operand} {lo' : Option O} {hi' mx' : O} (hlo : optO M lo = some lo') (hhi : opnd M false hi = some hi') (hmx : opnd M false mx = some mx')
    (ho : o.op = .slice t x lo (some hi) (some mx)) {r : Or} (hr : eSliceM ly.n x' lo' hi' mx' st = some r) : Left1 P M g w o a r := by
  have h1 := rd_rep hR hx
  have h2 := rd_rep hR hhi
  have h4 := rd_rep hR hmx
  obtain ⟨inf, d, hinf, hud, rfl⟩ := lay_inv hl
  unfold eSliceM at hr
  split at hr
  · rename_i p kb b km m hp hzb hzm
    have b1 := optInt_rep hR hlo hp
    rw [hzb] at h2; rw [hzm] at h4
    have eb := repD_i h2.inv_d
    have em := repD_i h4.inv_d
    have run : ∀ {ad : Option Addr} {len cap l h : Nat}, 0 ≤ m → m ≤ cap → cutD m.toNat p (some b) = some (l, h) → a.eval x = .slice ad len cap →
        (Go.execOp a.eval o).run P w = .ok (.value (.slice (if m.toNat = l then ad else ad.map (·.add (l * inf.size))) (h - l) (m.toNat - l))) w := by
      intro ad len cap l h hm0 hmc hcut he
      obtain ⟨hrun, h3, h4⟩ := run_sliceBounds3 (P := P) (w := w) (len := len) (k := kb) (k' := km) hm0 hmc b1 hcut
      refine run_slice3_op hu (by simp) ho ?_
      rw [he, eb, em]
      simp only [Go.Instr.slice, Sem.run_bind, Go.run_underlying hu, Result.andThen_ok, hrun, run_sizeOf' hinf, Sem.run_pure]
    split at hr
    · rename_i v hv
      unfold sliceX at hv
      split at hv
      · rename_i xs hz
        rw [hz] at h1
        cases hh : (headIs inf.size xs && (leI 0 m && leI m xs.length)) with
        | false => simp [hh] at hv
        | true =>
          simp only [hh, cond_true] at hv
          simp only [Bool.and_eq_true] at hh
          have hml := leI_t hh.2.2
          have hm0 := leI_t hh.2.1
          split at hv
          · rename_i l h hcut
            simp only [Option.some.injEq] at hv
            subst hv
            have hb := (run_sliceBounds (P := P) (w := w) true (Nat.le_refl m.toNat) b1 (hi := some (.int kb b)) (b := some b) ⟨kb, rfl⟩ hcut).2
            obtain ⟨ad, len, cap, hc, hlen, hmc, hrep⟩ := slice_rep (m := m.toNat) h1.inv_d hh.1 hb.1 hb.2 (by omega)
            have hrun := run hm0 (by omega) hcut hc
            cases hbe : Nat.beq h m.toNat with
            | false =>
              simp only [hbe, cond_false] at hr
              exact left_pure hd hR (.s (.d _ _ hrep)) hrun hr
            | true =>
              simp only [hbe, cond_true] at hr
              have he := Nat.eq_of_beq_eq_true hbe
              exact left_full hd hR (full_of hrep (by omega)) hrun hr
          · cases hv
      · rename_i hz
        rw [hz] at h1
        rw [Bool.cond_eq_ite] at hv
        split at hv
        · rename_i hm
          have hm : m = 0 := by rw [eqI_eq] at hm; simpa using hm
          subst hm
          split at hv
          · rename_i lh hcut
            simp only [Option.some.injEq] at hv
            subst hv
            have h3 := h1.inv_d
            generalize hc : a.eval x = c at h3
            cases h3
            obtain ⟨l, h⟩ := lh
            have hb := (run_sliceBounds (P := P) (w := w) true (Nat.le_refl 0) b1 (hi := some (.int kb b)) (b := some b) ⟨kb, rfl⟩ hcut).2
            have hr2 := run (Int.le_refl 0) (Int.le_refl 0) hcut hc
            have e0 : l = 0 := by omega
            have e1 : h = 0 := by omega
            subst e0; subst e1
            exact left_pure hd hR (.s (.d _ _ .nil)) (by simpa using hr2) hr
          · cases hv
        · cases hv
      · cases hv
    · cases hr
  · cases hr
theorem run_len {ats : Array TypeId} {args : Array Operand} {ty : TypeId} {x : Operand} (ho : o.op = .call { callee := .builtin .len, args := args, argTypes := ats }) (hargs : args.toList = [x]) {s : TypeId} (hats : ats.toList = [s]) {c : Value}
    (h : ∀ ty, (Go.Builtin.len_ #[s] ty #[a.eval x]).run P w = .ok c w) : (Go.execOp a.eval o).run P w = .ok (.value c) w := by
  have e1 : args = #[x] := by cases args; simp_all
  have e2 : ats = #[s] := by cases ats; simp_all
  subst e1; subst e2
  simp only [Go.execOp, ho, Go.resolve, Go.invoke, Go.builtin, Sem.run_bind, Sem.run_pure, Result.andThen_ok]
  simp [h]
theorem opnds_one {x' : O} {f : Nat → Bool} {args : List Operand} (h : opnds M f 0 args = some [x']) : ∃ x, args = [x] ∧ opnd M (f 0) x = some x' := by
  cases args with
  | nil => simp [opnds] at h
  | cons x l =>
    simp only [opnds] at h
    split at h
    · rename_i y r hy hr
      simp only [Option.some.injEq, List.cons.injEq] at h
      obtain ⟨rfl, rfl⟩ := h
      cases l with
      | nil => exact ⟨x, rfl, hy⟩
      | cons z l =>
        simp only [opnds] at hr
        split at hr <;> simp at hr
    · cases h
theorem sim_lenS (hd : DstOk o a) (hR : Rel M g w β st a.tmps) {c : Go.Call} (hcal : c.callee = .builtin .len) {s : TypeId} (hats : c.argTypes.toList = [s]) (hu : P.underlying s = some .string) {x' : O} (hx : opnds M (fun _ => false) 0 c.args.toList = some [x'])
    (ho : o.op = .call c) {r : Or} (hr : eLenS x' st = some r) : Left1 P M g w o a r := by
  obtain ⟨x, hargs, hx1⟩ := opnds_one hx
  have h1 := rd_rep hR hx1
  obtain ⟨cal, args, ats⟩ := c
  simp only at hcal hats hargs
  subst hcal
  unfold eLenS at hr
  split at hr
  · rename_i t hz
    rw [hz] at h1
    obtain ⟨z, e1, f1⟩ := repD_s h1.inv_d
    have hlen : (t.length : Int) = (z.size : Int) := by rw [← f1, List.length_map, Array.length_toList]; rfl
    refine left_pure hd hR (.s (.d _ _ (.i .i64 _))) (run_len (ty := 0) ho hargs hats (fun ty => ?_)) hr
    simp [Go.Builtin.len_, Go.run_underlying hu, e1, Go.goInt, hlen]
  · cases hr
theorem sim_lenL (hd : DstOk o a) (hR : Rel M g w β st a.tmps) {c : Go.Call} (hcal : c.callee = .builtin .len) {s e : TypeId} (hats : c.argTypes.toList = [s]) (hu : P.underlying s = some (.slice e)) {x' : O} (hx : opnds M (fun _ => false) 0 c.args.toList = some [x'])
    (ho : o.op = .call c) {r : Or} (hr : eLenL x' st = some r) : Left1 P M g w o a r := by
  obtain ⟨x, hargs, hx1⟩ := opnds_one hx
  have h1 := rd_rep hR hx1
  obtain ⟨cal, args, ats⟩ := c
  simp only at hcal hats hargs
  subst hcal
  have run : ∀ {ad : Option Addr} {n m : Nat}, a.eval x = .slice ad n m → (Go.execOp a.eval o).run P w = .ok (.value (.int .i64 n)) w := by
    intro ad n m he
    refine run_len (ty := 0) ho hargs hats (fun ty => ?_)
    simp [Go.Builtin.len_, Go.run_underlying hu, he, Go.goInt]
  unfold eLenL at hr
  split at hr
  · rename_i y hz
    rw [hz] at h1
    have h2 := h1.inv_d
    generalize hc : a.eval x = cc at h2
    split at hr
    · rename_i n hn
      unfold lenD at hn
      split at hn
      · simp only [Option.some.injEq] at hn
        subst hn
        cases h2
        exact left_pure hd hR (.s (.d _ _ (.i .i64 _))) (run hc) hr
      · simp only [Option.some.injEq] at hn
        subst hn
        cases h2 with
        | sl0 ad cap => exact left_pure hd hR (.s (.d _ _ (.i .i64 _))) (run hc) hr
        | sl _ b off cap sz vs hne hs hrep hcell hpub hcap hone => exact left_pure hd hR (.s (.d _ _ (.i .i64 _))) (run hc) hr
      · cases hn
    · cases hr
  · rename_i id off n m hz
    rw [hz] at h1
    generalize hc : a.eval x = cc at h1
    cases h1 with
    | s h1 => cases h1 with
      | rs _ _ _ _ hid hcap => exact left_pure hd hR (.s (.d _ _ (.i .i64 _))) (run hc) hr
  · cases hr
theorem sim_lenM (hd : DstOk o a) (hR : Rel M g w β st a.tmps) {c : Go.Call} (hcal : c.callee = .builtin .len) {s k e : TypeId} (hats : c.argTypes.toList = [s]) (hu : P.underlying s = some (.map k e)) {x' : O} (hx : opnds M (fun _ => false) 0 c.args.toList = some [x'])
    (ho : o.op = .call c) {r : Or} (hr : eLenM x' st = some r) : Left1 P M g w o a r := by
  obtain ⟨x, hargs, hx1⟩ := opnds_one hx
  have h1 := rd_rep hR hx1
  obtain ⟨cal, args, ats⟩ := c
  simp only at hcal hats hargs
  subst hcal
  unfold eLenM at hr
  split at hr
  · rename_i hz
    rw [hz] at h1
    have h2 := h1.inv_d
    generalize hc : a.eval x = cc at h2
    cases h2
    refine left_pure hd hR (.s (.d _ _ (.i .i64 _))) (run_len (ty := 0) ho hargs hats (fun ty => ?_)) hr
    simp [Go.Builtin.len_, Go.run_underlying hu, hc, Go.goInt]
  · rename_i id hz
    rw [hz] at h1
    generalize hc : a.eval x = cc at h1
    cases h1 with
    | s h1 => cases h1 with
      | map _ hid =>
        split at hr
        · rename_i es hH
          have hO := hR.h id _ hH
          cases hO with
          | map _ ents clock hb ho' hr' =>
            have hl : es.length = ents.size := by simpa using hr'.length
            refine left_pure hd hR (.s (.d _ _ (.i .i64 _))) (run_len (ty := 0) ho hargs hats (fun ty => ?_)) hr
            have hg : (Go.getObj (g.φ id)).run P w = .ok (.map ents clock) w := by simp [Go.getObj, Sem.run, hb]
            simp only [Go.Builtin.len_, hc]
            simp [Go.run_underlying hu, hg, Go.goInt, hl]
        · cases hr
  · cases hr
end
end W

/-
  Maps looked into; the greatest, the least.
-/
set_option linter.unusedSimpArgs false
set_option linter.unusedVariables false
namespace W
open Go (World Value Addr IntKind Program TypeId FuncId Operand Act Oper Next Result Sem BinOp UnOp)
theorem sameNow_rep {P : Program} {kt : TypeId} {kk : Nat} {dd : Go.TypeDesc} (hk : keyKind P kt = some kk) (hu : P.underlying kt = some dd) {pub : Nat → Nat} {w : World} {k k' : D} {c c' : Value} (hg : goodKey kk k = true)
    (h : RepD pub w k c) (h' : RepD pub w k' c') {z : Bool} (hs : k.same k' = some z) : Go.Instr.sameNow dd c c' = some z := by
  unfold keyKind at hk
  rw [hu] at hk
  unfold goodKey at hg
  split at hg
  · cases h; cases h' <;> simp only [D.same, Option.some.injEq, reduceCtorEq] at hs
    split at hk <;> simp only [Option.some.injEq, reduceCtorEq] at hk <;> (try omega)
    rename_i e; injection e with e; subst e; subst hs; rfl
  · cases h; cases h' <;> simp only [D.same, Option.some.injEq, reduceCtorEq] at hs
    rename_i k1 n1 k2 n2
    cases hkk : eqK k1 k2 with
    | false => simp [hkk] at hs
    | true =>
      have := eqK_true hkk
      subst this
      simp only [hkk, cond_true, Option.some.injEq] at hs
      split at hk <;> simp only [Option.some.injEq, reduceCtorEq] at hk <;> (try omega)
      rename_i e; injection e with e; subst e; subst hs
      simp [Go.Instr.sameNow, eqI_eq]
  · cases h; cases h' <;> simp only [D.same, Option.some.injEq, reduceCtorEq] at hs
    rename_i b1 h1 t2 b2 h2
    split at hk <;> simp only [Option.some.injEq, reduceCtorEq] at hk <;> (try omega)
    rename_i e; injection e with e; subst e; subst hs; subst h1; subst h2
    simp only [Go.Instr.sameNow, eqT_eq, toList_nat, Go.beq_toListBytes]
  · cases hg
theorem findNow_rep {P : Program} {M : Maps} {g : Gh} {w : World} {kt : TypeId} {kk : Nat} {dd : Go.TypeDesc} (hk : keyKind P kt = some kk) (hu : P.underlying kt = some dd) {k : D} {c : Value} (hg : goodKey kk k = true)
    (h : RepD g.pub w k c) : ∀ {es : List (D × V)} {ents : List Go.MapEntry} (j : Nat) {r : Option V}, RepEs M g w es ents → keyFind k es = some r →
    match r with
    | none => Go.Instr.findNow dd c ents j = some none
    | some v => ∃ i e, ents[i]? = some e ∧ Go.Instr.findNow dd c ents j = some (some (j + i, e.val)) ∧ RepS M g w v e.val ∧ (∃ k', es[i]? = some (k', v) ∧ k.same k' = some true ∧ RepD g.pub w k' e.key)
  | _, _, j, r, .nil, hf => by
    simp only [keyFind, Option.some.injEq] at hf
    subst hf
    rfl
  | _, _, j, r, .cons k' x e es ents hk' hgk hx hl, hf => by
    simp only [keyFind] at hf
    split at hf
    · rename_i hs
      simp only [Option.some.injEq] at hf
      subst hf
      refine ⟨0, e, rfl, ?_, hx, k', rfl, hs, hk'⟩
      simp only [Go.Instr.findNow, sameNow_rep hk hu hg h hk' hs, Nat.add_zero]
    · rename_i hs
      have ih := findNow_rep hk hu hg h (j + 1) hl hf
      have e1 : Go.Instr.findNow dd c (e :: ents) j = Go.Instr.findNow dd c ents (j + 1) := by simp only [Go.Instr.findNow, sameNow_rep hk hu hg h hk' hs]
      cases r with
      | none => simp only at ih ⊢; rw [e1]; exact ih
      | some v =>
        simp only at ih ⊢
        obtain ⟨i, en, h1, h2, h3, k'', h4, h5, h6⟩ := ih
        exact ⟨i + 1, en, by simpa using h1, by rw [e1, h2]; congr 3; omega, h3, k'', by simpa using h4, h5, h6⟩
    · cases hf
theorem keyKind_under {P : Program} {kt : TypeId} {kk : Nat} (hk : keyKind P kt = some kk) : ∃ dd, P.underlying kt = some dd ∧ (∀ m, dd ≠ .interface m) ∧ (∀ n e, dd ≠ .array n e) ∧ (∀ fs, dd ≠ .struct fs) := by
  unfold keyKind at hk
  split at hk
  · exact ⟨_, by assumption, by simp, by simp, by simp⟩
  · exact ⟨_, by assumption, by simp, by simp, by simp⟩
  · exact ⟨_, by assumption, by simp, by simp, by simp⟩
  · cases hk
theorem run_checkKey {P : Program} {w : World} {kt : TypeId} {kk : Nat} (hk : keyKind P kt = some kk) (e : Bool) (v : Value) : (Go.Instr.checkKey e 10000 kt v).run P w = .ok () w := by
  obtain ⟨dd, hu, h1, h2, h3⟩ := keyKind_under hk
  have : Go.Instr.checkKey e 10000 kt v = Go.Instr.checkKey e (9999 + 1) kt v := rfl
  rw [this, Go.Instr.checkKey, Sem.run_bind, Go.run_underlying hu]
  cases dd <;> first | (exact absurd rfl (h1 _)) | (exact absurd rfl (h2 _ _)) | (exact absurd rfl (h3 _)) | rfl | (cases v <;> rfl)
theorem run_findKey {P : Program} {w : World} {kt : TypeId} {dd : Go.TypeDesc} (hu : P.underlying kt = some dd) {c : Value} {ents : List Go.MapEntry} {r : Option (Nat × Value)} (h : Go.Instr.findNow dd c ents 0 = some r) :
    (Go.Instr.findKey kt c ents).run P w = .ok r w := by
  unfold Go.Instr.findKey
  rw [Sem.run_bind, Go.run_underlying hu]
  simp only [Result.andThen_ok, h, Sem.run_pure]
theorem zeroD_inv {P : Program} {t : TypeId} {z : D} (h : zeroD P t = some z) : ∃ i v, P.info? t = some i ∧ i.zero = some v ∧ toD v = some z := by
  unfold zeroD at h
  split at h
  · rename_i i hi
    split at h
    · rename_i v hv; exact ⟨i, v, hi, hv, h⟩
    · cases h
  · cases h
theorem run_zero {P : Program} {w : World} {t : TypeId} {i : Go.TypeInfo} {v : Value} (hi : P.info? t = some i) (hv : i.zero = some v) : (Go.zeroValue t).run P w = .ok v w := by
  simp [Go.zeroValue, Go.typeInfo, hi, hv]
section
variable {P : Program} {M : Maps} {g : Gh} {w : World} {β : Nat → Nat} {st : St} {o : Oper} {a : Act}
theorem sim_lookup (hd : DstOk o a) (hR : Rel M g w β st a.tmps) {t kt e : TypeId} (hu : P.underlying t = some (.map kt e)) {kk : Nat} (hk : keyKind P kt = some kk) {zero : D} (hz : zeroD P e = some zero)
    {x i : Operand} {x' i' : O} (hx : opnd M false x = some x') (hi : opnd M false i = some i') {c : Bool} (ho : o.op = .lookup t x i c) {r : Or} (hr : eLookup kk zero x' i' c st = some r) : Left1 P M g w o a r := by
  have h1 := rd_rep hR hx
  have h2 := rd_rep hR hi
  obtain ⟨inf, zv, hinf, hzv, htd⟩ := zeroD_inv hz
  obtain ⟨dd, hdd, _⟩ := keyKind_under hk
  have hzrep : RepD g.pub w zero zv := toD_rep g.pub w zv zero htd
  -- the two endings
  have fin : ∀ {v : V} {val : Value} {b : Bool}, RepS M g w v val → (Go.execOp a.eval o).run P w = .ok (.value (if c then .tuple #[val, .bool b] else val)) w →
      ok (bif c then .tup [v, .d (.b b)] else v) st = some r → Left1 P M g w o a r := by
    intro v val b hv hrun hr
    cases c with
    | false => exact left_pure hd hR (.s hv) (by simpa using hrun) (by simpa using hr)
    | true => exact left_pure hd hR (.s (.tup _ #[val, .bool b] (.cons _ _ _ _ hv (.cons _ _ _ _ (.d _ _ (.b b)) .nil)))) (by simpa using hrun) (by simpa using hr)
  have hrun0 : (Go.execOp a.eval o).run P w = ((Go.Instr.lookup t (a.eval x) (a.eval i) c).run P w).andThen fun v w' => .ok (.value v) w' := by
    simp only [Go.execOp, ho]
    rw [Sem.run_bind]
    rfl
  unfold eLookup at hr
  split at hr
  · rename_i key hm hkey
    rw [hm] at h1; rw [hkey] at h2
    split at hr
    · rename_i hgood
      have h3 := h1.inv_d
      generalize hc1 : a.eval x = cx at h3
      cases h3
      refine fin (b := false) (.d _ _ hzrep) ?_ hr
      rw [hrun0, hc1]
      have hf : (Go.Instr.findKey kt (a.eval i) []).run P w = .ok none w := run_findKey hdd rfl
      simp only [Go.Instr.lookup, Sem.run_bind, Go.run_underlying hu, Result.andThen_ok, Sem.run_pure, run_checkKey hk, hf, run_zero hinf hzv]
    · cases hr
  · rename_i id key hm hkey
    rw [hm] at h1; rw [hkey] at h2
    split at hr
    · rename_i es hH
      split at hr
      · rename_i hgood
        generalize hc1 : a.eval x = cx at h1
        cases h1 with
        | s h1 => cases h1 with
          | map _ hid =>
            have hO := hR.h id _ hH
            cases hO with
            | map _ ents clock hb ho' hr' =>
              have hg : (Go.getObj (g.φ id)).run P w = .ok (.map ents clock) w := by simp [Go.getObj, Sem.run, hb]
              split at hr
              · rename_i v hf
                have := findNow_rep hk hdd hgood h2.inv_d 0 hr' hf
                simp only at this
                obtain ⟨j, en, e1, e2, e3, _⟩ := this
                refine fin (v := copy v) (b := true) (copy_rep e3) ?_ hr
                rw [hrun0, hc1]
                simp only [Go.Instr.lookup, Sem.run_bind, Go.run_underlying hu, Result.andThen_ok, hg, Sem.run_pure, run_checkKey hk, run_findKey hdd e2]
              · rename_i hf
                have := findNow_rep hk hdd hgood h2.inv_d 0 hr' hf
                simp only at this
                refine fin (b := false) (.d _ _ hzrep) ?_ hr
                rw [hrun0, hc1]
                simp only [Go.Instr.lookup, Sem.run_bind, Go.run_underlying hu, Result.andThen_ok, hg, Sem.run_pure, run_checkKey hk, run_findKey hdd this, run_zero hinf hzv]
              · cases hr
      · cases hr
    · cases hr
  · cases hr
theorem foldMax {k : IntKind} : ∀ {l : List V} {vs : List Value} {x : Int} {v : V}, RepSL M g w l vs → maxFrom k x l = some v → ∃ n, v = .d (.i k n) ∧ (vs.foldlM Go.Builtin.max2 (.int k x)).run P w = .ok (.int k n) w
  | [], _, x, v, .nil, h => by
    simp only [maxFrom, Option.some.injEq] at h
    exact ⟨x, h.symm, rfl⟩
  | _, _, x, v, .cons y c l vs hy hl, h => by
    cases y with
    | d y => cases y with
      | i k' n =>
        simp only [maxFrom] at h
        cases hy with
        | d _ _ hy =>
          have e := repD_i hy
          subst e
          obtain ⟨m, e1, e2⟩ := foldMax hl h
          refine ⟨m, e1, ?_⟩
          rw [List.foldlM_cons, Sem.run_bind]
          simp only [Go.Builtin.max2, Sem.run_pure, Result.andThen_ok]
          exact e2
      | _ => simp [maxFrom] at h
    | _ => simp [maxFrom] at h
theorem foldMin {k : IntKind} : ∀ {l : List V} {vs : List Value} {x : Int} {v : V}, RepSL M g w l vs → minFrom k x l = some v → ∃ n, v = .d (.i k n) ∧ (vs.foldlM Go.Builtin.min2 (.int k x)).run P w = .ok (.int k n) w
  | [], _, x, v, .nil, h => by
    simp only [minFrom, Option.some.injEq] at h
    exact ⟨x, h.symm, rfl⟩
  | _, _, x, v, .cons y c l vs hy hl, h => by
    cases y with
    | d y => cases y with
      | i k' n =>
        simp only [minFrom] at h
        cases hy with
        | d _ _ hy =>
          have e := repD_i hy
          subst e
          obtain ⟨m, e1, e2⟩ := foldMin hl h
          refine ⟨m, e1, ?_⟩
          rw [List.foldlM_cons, Sem.run_bind]
          simp only [Go.Builtin.min2, Sem.run_pure, Result.andThen_ok]
          exact e2
      | _ => simp [minFrom] at h
    | _ => simp [minFrom] at h
theorem opnds_repV (hR : Rel M g w β st a.tmps) : ∀ {k : Nat} {xs : List Operand} {ys : List O}, opnds M (fun _ => false) k xs = some ys →
    ys.length = xs.length ∧ ∀ (j : Nat) y x, (ys.map (rd st.env))[j]? = some y → (xs.map a.eval)[j]? = some x → RepV M g w β y x
  | _, [], ys, h => by simp only [opnds, Option.some.injEq] at h; subst h; simp
  | k, x :: xs, ys, h => by
    simp only [opnds] at h
    split at h
    · rename_i y r hy hr
      simp only [Option.some.injEq] at h
      subst h
      obtain ⟨h1, h2⟩ := opnds_repV hR hr
      refine ⟨by simp [h1], fun j p q hp hq => ?_⟩
      cases j with
      | zero =>
        simp only [List.map_cons, List.getElem?_cons_zero, Option.some.injEq] at hp hq
        subst hp; subst hq
        exact rd_rep hR hy
      | succ j => exact h2 j p q (by simpa using hp) (by simpa using hq)
    · cases h
theorem nums_rep (hR : Rel M g w β st a.tmps) {xs : List Operand} {ys : List O} {k : Nat} (h : opnds M (fun _ => false) k xs = some ys) (hn : ∀ v ∈ ys.map (rd st.env), v.ok = true) : RepSL M g w (ys.map (rd st.env)) (xs.map a.eval) := by
  refine opnds_rep hR h ?_
  have : ∀ l : List V, (∀ v ∈ l, v.ok = true) → V.ok.oks l = true := by
    intro l
    induction l with
    | nil => intro _; rfl
    | cons v l ih => intro h; simp only [V.ok.oks, Bool.and_eq_true]; exact ⟨h v (by simp), ih fun u hu => h u (by simp [hu])⟩
  exact this _ hn
theorem maxFrom_ok {k : IntKind} : ∀ {l : List V} {x : Int} {v : V}, maxFrom k x l = some v → ∀ u ∈ l, u.ok = true
  | [], _, _, _ => by simp
  | y :: l, x, v, h => by
    cases y with
    | d y => cases y with
      | i k' n =>
        simp only [maxFrom] at h
        intro u hu
        cases hu with
        | head => rfl
        | tail _ hu => exact maxFrom_ok h u hu
      | _ => simp [maxFrom] at h
    | _ => simp [maxFrom] at h
theorem minFrom_ok {k : IntKind} : ∀ {l : List V} {x : Int} {v : V}, minFrom k x l = some v → ∀ u ∈ l, u.ok = true
  | [], _, _, _ => by simp
  | y :: l, x, v, h => by
    cases y with
    | d y => cases y with
      | i k' n =>
        simp only [minFrom] at h
        intro u hu
        cases hu with
        | head => rfl
        | tail _ hu => exact minFrom_ok h u hu
      | _ => simp [minFrom] at h
    | _ => simp [minFrom] at h
theorem sim_max (hd : DstOk o a) (hR : Rel M g w β st a.tmps) {c : Go.Call} (hcal : c.callee = .builtin .max) {ys : List O} (hx : opnds M (fun _ => false) 0 c.args.toList = some ys)
    (ho : o.op = .call c) {v : V} (hv : maxD (ys.map (rd st.env)) = some v) {r : Or} (hr : ok v st = some r) : Left1 P M g w o a r := by
  obtain ⟨cal, args, ats⟩ := c
  simp only at hcal
  subst hcal
  cases hl : ys.map (rd st.env) with
  | nil => simp [hl, maxD] at hv
  | cons y l =>
    cases y with
    | d y => cases y with
      | i k n =>
        rw [hl] at hv
        simp only [maxD] at hv
        have hrep := nums_rep hR hx (by
          rw [hl]
          intro u hu
          cases hu with
          | head => rfl
          | tail _ hu => exact maxFrom_ok hv u hu)
        rw [hl] at hrep
        generalize hargs : args.toList.map a.eval = vs at hrep
        cases hrep with
        | cons _ c0 _ vs' h0 hl' =>
          cases h0 with
          | d _ _ h0 =>
            have e := repD_i h0
            subst e
            obtain ⟨m, e1, e2⟩ := foldMax (P := P) hl' hv
            subst e1
            refine left_pure hd hR (.s (.d _ _ (.i k m))) ?_ hr
            have he : (args.map a.eval).toList = .int k n :: vs' := by simpa using hargs
            simp only [Go.execOp, ho, Go.resolve, Go.invoke, Go.builtin, Sem.run_bind, Sem.run_pure, Result.andThen_ok, Go.Builtin.max_, he, e2]
      | _ => rw [hl] at hv; simp [maxD] at hv
    | _ => rw [hl] at hv; simp [maxD] at hv
theorem sim_min (hd : DstOk o a) (hR : Rel M g w β st a.tmps) {c : Go.Call} (hcal : c.callee = .builtin .min) {ys : List O} (hx : opnds M (fun _ => false) 0 c.args.toList = some ys)
    (ho : o.op = .call c) {v : V} (hv : minD (ys.map (rd st.env)) = some v) {r : Or} (hr : ok v st = some r) : Left1 P M g w o a r := by
  obtain ⟨cal, args, ats⟩ := c
  simp only at hcal
  subst hcal
  cases hl : ys.map (rd st.env) with
  | nil => simp [hl, minD] at hv
  | cons y l =>
    cases y with
    | d y => cases y with
      | i k n =>
        rw [hl] at hv
        simp only [minD] at hv
        have hrep := nums_rep hR hx (by
          rw [hl]
          intro u hu
          cases hu with
          | head => rfl
          | tail _ hu => exact minFrom_ok hv u hu)
        rw [hl] at hrep
        generalize hargs : args.toList.map a.eval = vs at hrep
        cases hrep with
        | cons _ c0 _ vs' h0 hl' =>
          cases h0 with
          | d _ _ h0 =>
            have e := repD_i h0
            subst e
            obtain ⟨m, e1, e2⟩ := foldMin (P := P) hl' hv
            subst e1
            refine left_pure hd hR (.s (.d _ _ (.i k m))) ?_ hr
            have he : (args.map a.eval).toList = .int k n :: vs' := by simpa using hargs
            simp only [Go.execOp, ho, Go.resolve, Go.invoke, Go.builtin, Sem.run_bind, Sem.run_pure, Result.andThen_ok, Go.Builtin.min_, he, e2]
      | _ => rw [hl] at hv; simp [minD] at hv
    | _ => rw [hl] at hv; simp [minD] at hv
end
end W

/-
  New memory: a block more; a box in a slot; an object more.
-/
set_option linter.unusedSimpArgs false
set_option linter.unusedVariables false
namespace W
open Go (World Value Addr IntKind Program TypeId FuncId Operand Act Oper Next Result Sem BinOp UnOp)
def Gh.withNew (g : Gh) (b : Nat) (ℓ : Option Loc) (p : Nat) : Gh := { g with own := fun x => if x = b then ℓ else g.own x, pub := fun x => if x = b then p else g.pub x }
theorem alloc_heap_old (w : World) (o : Go.Obj) {b : Nat} (h : b < w.heap.size) : (w.alloc o).heap[b]? = w.heap[b]? := by
  show (w.heap.push o)[b]? = _
  simp [Array.getElem?_push, Nat.ne_of_lt h]
theorem alloc_heap_new (w : World) (o : Go.Obj) : (w.alloc o).heap[w.heap.size]? = some o := by
  show (w.heap.push o)[w.heap.size]? = _
  simp
structure Fresh (g : Gh) (w : World) : Prop where
  f : ∀ b, w.heap.size ≤ b → g.own b = none ∧ g.pub b = 0
theorem Rel.fr {M : Maps} {g : Gh} {w : World} {β : Nat → Nat} {st : St} {tmps : Array Value} (h : Rel M g w β st tmps) : Fresh g w := ⟨h.fresh⟩
section
variable {g : Gh} {w : World} (hf : Fresh g w) (ℓ : Option Loc) (p : Nat) (o : Go.Obj)
 include hf
theorem alloc_grow : Grow g w (g.withNew w.heap.size ℓ p) (w.alloc o) :=
  ⟨by simp, fun b => by
    show g.pub b ≤ (if b = w.heap.size then p else g.pub b)
    split
    · rename_i e; subst e; rw [(hf.f _ (Nat.le_refl _)).2]; exact Nat.zero_le _
    · exact Nat.le_refl _, fun b off ho => by
    have hb : b < w.heap.size := by
      rcases Nat.lt_or_ge b w.heap.size with h | h
      · exact h
      · rw [(hf.f b h).2] at ho; omega
    exact cell_of_heap (alloc_heap_old w o hb) off⟩
theorem alloc_kept (ℓ' : Loc) : Kept g w (g.withNew w.heap.size ℓ p) (w.alloc o) ℓ' :=
  ⟨fun b hb => by
    have hlt : b < w.heap.size := by
      rcases Nat.lt_or_ge b w.heap.size with h | h
      · exact h
      · rw [(hf.f b h).1] at hb; cases hb
    have hne : b ≠ w.heap.size := by omega
    exact ⟨by simp [Gh.withNew, hne, hb], alloc_heap_old w o hlt, by simp [Gh.withNew, hne]⟩⟩
theorem alloc_evo : Evo g w (g.withNew w.heap.size ℓ p) (w.alloc o) :=
  ⟨alloc_grow hf ℓ p o, Nat.le_refl _, fun _ _ => rfl, fun b hb _ => by
    have hne : b ≠ w.heap.size := by omega
    exact ⟨by simp [Gh.withNew, hne], alloc_heap_old w o hb, by simp [Gh.withNew, hne]⟩, ⟨rfl, rfl⟩⟩
theorem alloc_fresh : Fresh (g.withNew w.heap.size ℓ p) (w.alloc o) :=
  ⟨fun b hb => by
    simp only [World.size_alloc] at hb
    have hne : b ≠ w.heap.size := by omega
    have := hf.f b (by omega)
    simpa [Gh.withNew, hne] using this⟩
end
theorem Rel.alloc {M : Maps} {g : Gh} {w : World} {β : Nat → Nat} {st : St} {tmps : Array Value} (h : Rel M g w β st tmps) (ℓ : Option Loc) (p : Nat) (o : Go.Obj) :
    Rel M (g.withNew w.heap.size ℓ p) (w.alloc o) β st tmps := by
  have hf := h.fr
  refine ⟨h.n, fun k => ?_, fun id ob hob => ?_, (alloc_fresh hf ℓ p o).f, h.gl.mono (alloc_grow hf ℓ p o)⟩
  · exact (h.e k).mono (alloc_grow hf ℓ p o) (Nat.le_refl _) (fun _ _ => rfl) (alloc_kept hf ℓ p o _) (alloc_kept hf ℓ p o _) (fun i => alloc_kept hf ℓ p o _)
  · exact (h.h id ob hob).mono (alloc_grow hf ℓ p o) (Nat.le_refl _) (fun _ _ => rfl) (by rw [h.n]; exact (List.getElem?_eq_some_iff.1 hob).1) (alloc_kept hf ℓ p o _) (fun i => alloc_kept hf ℓ p o _)
theorem get_killLp (s k : Nat) : ∀ e : Env, get k (killLp s e) = match get k e with | .lp t o => bif Nat.beq t s then .undef else .lp t o | v => v
  | [] => rfl
  | (n, v) :: e => by
    simp only [killLp, get_cons]
    by_cases h : k = n
    · simp only [h, if_true]; cases v <;> rfl
    · simp only [h, if_false]; exact get_killLp s k e
theorem Rel.putBox {M : Maps} {g : Gh} {w : World} {β : Nat → Nat} {st : St} {tmps : Array Value} (h : Rel M g w β st tmps) {n : Nat} (hn : n < tmps.size) {cs : List V} {b : Nat} {arr : Array Value} {T : TypeId}
    (hb : w.heap[b]? = some (.cells arr T (0, 0))) (ho : g.own b = some (.bblk n)) (hp : g.pub b = 0) (hl : cs.length = arr.size) (hr : ∀ (i : Nat) x v, cs[i]? = some x → arr[i]? = some v → RepC M g w (.bcell n i) x v) :
    Rel M g w (fun k => if k = n then b else β k) { st with env := (n, .box cs) :: killLp n st.env } (tmps.setIfInBounds n (.pointer (some ⟨b, 0, none⟩))) := by
  refine ⟨h.n, fun k => ?_, h.h, h.fresh, h.gl⟩
  show RepT M g w _ k (get k ((n, .box cs) :: killLp n st.env)) _
  rw [get_cons, getD_set _ _ _ _ hn]
  by_cases hk : k = n
  · subst hk
    simp only [if_true]
    have := RepT.box (M := M) (g := g) (w := w) (β := fun x => if x = k then b else β x) (k := k) cs arr T (by simpa using hb) (by simpa using ho) (by simpa using hp) hl hr
    simpa using this
  · simp only [hk, if_false, get_killLp]
    have := h.e k
    generalize get k st.env = v at this
    generalize tmps.getD k Go.undef = c at this
    cases this with
    | s h => cases h <;> exact .s (by constructor <;> assumption)
    | osl h => exact .osl h
    | lp s off =>
      simp only
      by_cases hs : s = n
      · subst hs
        have : Nat.beq s s = true := by simp
        rw [this]; exact .s (.undef _)
      · have hb' : Nat.beq s n = false := by rw [Bool.eq_false_iff]; intro e; exact hs (Nat.eq_of_beq_eq_true e)
        rw [hb']
        have := RepT.lp (M := M) (g := g) (w := w) (β := fun x => if x = n then b else β x) (k := k) s off
        simpa [hs] using this
    | cp x b off vs hr hc hp => exact .cp x b off vs hr hc hp
    | box cs' arr' T' hb' ho' hp' hl' hr' =>
      have := RepT.box (M := M) (g := g) (w := w) (β := fun x => if x = n then b else β x) (k := k) cs' arr' T' (by simpa [hk] using hb') (by simpa [hk] using ho') (by simpa [hk] using hp') hl' hr'
      simpa [hk] using this
def Gh.withObj (g : Gh) (b : Nat) : Gh := { n := g.n + 1, φ := fun id => if id = g.n then b else g.φ id, pub := g.pub, own := fun x => if x = b then some (.oblk g.n) else g.own x }
theorem Rel.newObj {M : Maps} {g : Gh} {w : World} {β : Nat → Nat} {st : St} {tmps : Array Value} (h : Rel M g w β st tmps) (ob : Obj) (o : Go.Obj)
    (hrep : RepO M (g.withObj w.heap.size) (w.alloc o) g.n ob) :
    Rel M (g.withObj w.heap.size) (w.alloc o) β { st with H := st.H ++ [ob] } tmps ∧ Evo g w (g.withObj w.heap.size) (w.alloc o) := by
  have hf := h.fr
  have hg : Grow g w (g.withObj w.heap.size) (w.alloc o) := ⟨by simp, fun _ => Nat.le_refl _, fun b off ho => by
    have hb : b < w.heap.size := by
      rcases Nat.lt_or_ge b w.heap.size with h | h
      · exact h
      · rw [(hf.f b h).2] at ho; omega
    exact cell_of_heap (alloc_heap_old w o hb) off⟩
  have hk : ∀ ℓ, Kept g w (g.withObj w.heap.size) (w.alloc o) ℓ := fun ℓ => ⟨fun b hb => by
    have hlt : b < w.heap.size := by
      rcases Nat.lt_or_ge b w.heap.size with h | h
      · exact h
      · rw [(hf.f b h).1] at hb; cases hb
    have hne : b ≠ w.heap.size := by omega
    exact ⟨by simp [Gh.withObj, hne, hb], alloc_heap_old w o hlt, rfl⟩⟩
  have hn : g.n ≤ (g.withObj w.heap.size).n := Nat.le_succ _
  have hφ : ∀ id, id < g.n → (g.withObj w.heap.size).φ id = g.φ id := fun id hi => by
    have : id ≠ g.n := by omega
    simp [Gh.withObj, this]
  refine ⟨⟨?_, fun k => ?_, fun id ob' hob => ?_, fun b hb => ?_, h.gl.mono hg⟩, hg, hn, hφ, fun b hb _ => ?_, ⟨rfl, rfl⟩⟩
  · show g.n + 1 = (st.H ++ [ob]).length
    simp [h.n]
  · exact (h.e k).mono hg hn hφ (hk _) (hk _) (fun i => hk _)
  · rw [List.getElem?_append] at hob
    split at hob
    · rename_i hlt
      exact (h.h id ob' hob).mono hg hn hφ (by rw [h.n]; exact hlt) (hk _) (fun i => hk _)
    · rename_i hge
      have : id - st.H.length = 0 := by
        rcases Nat.eq_zero_or_pos (id - st.H.length) with h0 | h0
        · exact h0
        · rw [List.getElem?_eq_none (by simp; omega)] at hob; cases hob
      rw [this] at hob
      simp only [List.getElem?_cons_zero, Option.some.injEq] at hob
      subst hob
      have : id = g.n := by rw [h.n]; omega
      rw [this]; exact hrep
  · simp only [World.size_alloc] at hb
    have hne : b ≠ w.heap.size := by omega
    have := hf.f b (by omega)
    simpa [Gh.withObj, hne] using this
  · have hne : b ≠ w.heap.size := by omega
    exact ⟨by simp [Gh.withObj, hne], alloc_heap_old w o hb, rfl⟩
end W

/-
  Boxes and objects that are made; what is written into them.
-/
set_option linter.unusedSimpArgs false
set_option linter.unusedVariables false
namespace W
open Go (World Value Addr IntKind Program TypeId FuncId Operand Act Oper Next Result Sem BinOp UnOp)
theorem RepD.one {pub : Nat → Nat} {w : World} {x : D} {c : Value} (h : RepD pub w x c) (h1 : x.one = true) : c.oneCell' = true := by
  cases h <;> first | rfl | (simp [D.one] at h1)
theorem RepS.one {M : Maps} {g : Gh} {w : World} {v : V} {c : Value} (h : RepS M g w v c) (h1 : v.one = true) : c.oneCell' = true := by
  cases h with
  | d x _ h => exact h.one h1
  | ptr | rs | map | fn | ifc => rfl
  | agg | tup | undef => simp [V.one, V.ok] at h1
theorem RepSL.ones {M : Maps} {g : Gh} {w : World} : ∀ {l : List V} {vs : List Value}, RepSL M g w l vs → V.ones l = true → ∀ u ∈ vs, u.oneCell' = true
  | _, _, .nil, _, u, hu => by simp at hu
  | _, _, .cons x v l vs h hl, h1, u, hu => by
    simp only [V.ones, Bool.and_eq_true] at h1
    rcases List.mem_cons.1 hu with e | hu
    · subst e; exact h.one h1.1
    · exact RepSL.ones hl h1.2 u hu
theorem RepDL.ones {pub : Nat → Nat} {w : World} : ∀ {l : List D} {vs : List Value}, RepDL pub w l vs → D.ones l = true → ∀ u ∈ vs, u.oneCell' = true
  | _, _, .nil, _, u, hu => by simp at hu
  | _, _, .cons x v l vs h hl, h1, u, hu => by
    simp only [D.ones, Bool.and_eq_true] at h1
    rcases List.mem_cons.1 hu with e | hu
    · subst e; exact h.one h1.1
    · exact RepDL.ones hl h1.2 u hu
theorem RepD.cells1 {pub : Nat → Nat} {w : World} {x : D} {c : Value} (h : RepD pub w x c) (hx : ∀ l, x ≠ .agg l) : c.cells.toList = [c] := by
  cases h <;> first | rfl | exact absurd rfl (hx _)
theorem RepS.cells {M : Maps} {g : Gh} {w : World} {v : V} {c : Value} (h : RepS M g w v c) (h1 : V.ones v.cells = true) : RepSL M g w v.cells c.cells.toList := by
  cases h with
  | d x _ h =>
    have hd : ∀ l, l = x.cells → V.cells (.d x) = l.map .d := by
      rintro _ rfl
      cases x <;> rfl
    rw [hd _ rfl]
    exact .ofD h.cells
  | ptr id off h => exact .cons _ _ _ _ (.ptr id off h) .nil
  | rs id off len cap h hc => exact .cons _ _ _ _ (.rs id off len cap h hc) .nil
  | map id h => exact .cons _ _ _ _ (.map id h) .nil
  | fn f f' first cap fv cv h h3 h2 => exact .cons _ _ _ _ (.fn f f' first cap fv cv h h3 h2) .nil
  | ifc t t' x c h hx => exact .cons _ _ _ _ (.ifc t t' x c h hx) .nil
  | agg cs vs h => exact h
  | tup | undef => simp [V.cells, V.ones, V.one, V.ok] at h1
theorem Rel.take {M : Maps} {g : Gh} {w : World} {β : Nat → Nat} {st : St} {tmps : Array Value} (h : Rel M g w β st tmps) {x : O} {v : V} {c : Value} (hv : RepO' M g w β x v c)
    (h1 : V.ones v.cells = true) (f : Nat → Loc) : ∃ g1, Rel M g1 w β { st with env := W.spent x st.env } tmps ∧ Evo g w g1 w ∧ g1.n = g.n ∧ g1.φ = g.φ ∧ v.cells.length = c.cells.size ∧
      (∀ (i : Nat) y u, v.cells[i]? = some y → c.cells[i]? = some u → RepC M g1 w (f i) y u) ∧ (∀ u ∈ c.cells.toList, u.oneCell' = true) ∧
      ∀ ℓ : Loc, (∀ n, ℓ ≠ .slot n) → Kept g w g1 w ℓ := by
  cases hv with
  | v hv =>
    cases hv with
    | s hs =>
      have hc := hs.cells h1
      refine ⟨g, h.spent x, Evo.refl g w, rfl, rfl, by simpa using hc.length, fun i y u hy hu => ?_, hc.ones h1, fun ℓ _ => Kept.refl _ _ _⟩
      obtain ⟨u', hu', hr⟩ := hc.get i y hy
      have : u = u' := by simpa [hu] using hu'
      subst this
      exact .s hr
    | lp => simp [V.cells, V.ones, V.one, V.ok] at h1
    | cp => simp [V.cells, V.ones, V.one, V.ok] at h1
  | own hv =>
    rename_i n xs
    have hcell : c.cells = #[c] := by cases hv <;> rfl
    have hone1 : ∀ u ∈ c.cells.toList, u.oneCell' = true := by
      rw [hcell]
      intro u hu
      simp at hu
      subst hu
      cases hv <;> rfl
    rcases hv.setOwn with ⟨b, hb, hlt, hv'⟩ | hv'
    case inr =>
      refine ⟨g, h.drop n, Evo.refl g w, rfl, rfl, by rw [hcell]; rfl, fun i y u hy hu => ?_, hone1, fun ℓ hℓ => Kept.refl _ _ _⟩
      rw [hcell] at hu
      cases i with
      | zero =>
        simp only [V.cells, List.getElem?_cons_zero, Option.some.injEq] at hy
        simp at hu
        subst hy; subst hu
        exact .osl (hv' _)
      | succ i => simp [V.cells] at hy
    refine ⟨g.setOwn b (some (f 0)), (h.drop n).reown (by simp [get_cons]) hb hlt _, setOwn_evo _ hb (by simp), rfl, rfl, by rw [hcell]; rfl, fun i y u hy hu => ?_, ?_, fun ℓ hℓ => setOwn_kept _ hb (hℓ n)⟩
    · rw [hcell] at hu
      cases i with
      | zero =>
        simp only [V.cells, List.getElem?_cons_zero, Option.some.injEq] at hy
        simp at hu
        subst hy; subst hu
        exact .osl (hv' _)
      | succ i => simp [V.cells] at hy
    · exact hone1
section
variable {P : Program} {M : Maps} {g : Gh} {w : World} {β : Nat → Nat} {st : St} {o : Oper} {a : Act}
theorem new_cells {ℓ : Option Loc} (hf : Fresh g w) {T : TypeId} {cs : List V} {arr : Array Value} (f : Nat → Loc)
    (hr : ∀ (i : Nat) y u, cs[i]? = some y → arr[i]? = some u → RepC M g w (f i) y u) :
    ∀ (i : Nat) y u, cs[i]? = some y → arr[i]? = some u → RepC M (g.withNew w.heap.size ℓ 0) (w.alloc (.cells arr T)) (f i) y u :=
  fun i y u hy hu => (hr i y u hy hu).mono (alloc_grow hf ℓ 0 _) (Nat.le_refl _) (fun _ _ => rfl) (alloc_kept hf ℓ 0 _ _)
theorem make_box (hd : DstOk o a) (hR : Rel M g w β st a.tmps) {n : Nat} (hdst : o.dst = some n) {cs : List V} {arr : Array Value} (T : TypeId) (hl : cs.length = arr.size)
    (hr : ∀ (i : Nat) y u, cs[i]? = some y → arr[i]? = some u → RepC M g w (.bcell n i) y u) :
    ∃ g' β', Rel M g' (w.alloc (.cells arr T)) β' (put o.dst (.box cs) st) (a.put o.dst (.pointer (some ⟨w.heap.size, 0, none⟩))).tmps ∧ Evo g w g' (w.alloc (.cells arr T)) := by
  have hf := hR.fr
  have hR' := hR.alloc (some (.bblk n)) 0 (.cells arr T)
  refine ⟨g.withNew w.heap.size (some (.bblk n)) 0, fun k => if k = n then w.heap.size else β k, ?_, alloc_evo hf (some (.bblk n)) 0 _⟩
  rw [hdst, Act.put_tmps]
  exact hR'.putBox (hd n hdst) (alloc_heap_new w _) (by simp [Gh.withNew]) (by simp [Gh.withNew]) hl (new_cells hf _ hr)
theorem make_obj (hd : DstOk o a) (hR : Rel M g w β st a.tmps) {cs : List V} {arr : Array Value} (T : TypeId) (hl : cs.length = arr.size)
    (hr : ∀ (i : Nat) y u, cs[i]? = some y → arr[i]? = some u → RepC M g w (.ocell g.n i) y u) :
    Rel M (g.withObj w.heap.size) (w.alloc (.cells arr T)) β { st with H := st.H ++ [.cells cs] } a.tmps ∧ Evo g w (g.withObj w.heap.size) (w.alloc (.cells arr T)) := by
  have hf := hR.fr
  refine hR.newObj (.cells cs) (.cells arr T) ?_
  have hg : Grow g w (g.withObj w.heap.size) (w.alloc (.cells arr T)) := ⟨by simp, fun _ => Nat.le_refl _, fun b off ho => by
    have hb : b < w.heap.size := by
      rcases Nat.lt_or_ge b w.heap.size with h | h
      · exact h
      · rw [(hf.f b h).2] at ho; omega
    exact cell_of_heap (alloc_heap_old w _ hb) off⟩
  have hk : ∀ ℓ, Kept g w (g.withObj w.heap.size) (w.alloc (.cells arr T)) ℓ := fun ℓ => ⟨fun b hb => by
    have hlt : b < w.heap.size := by
      rcases Nat.lt_or_ge b w.heap.size with h | h
      · exact h
      · rw [(hf.f b h).1] at hb; cases hb
    have hne : b ≠ w.heap.size := by omega
    exact ⟨by simp [Gh.withObj, hne, hb], alloc_heap_old w _ hlt, rfl⟩⟩
  refine .cells cs arr T ?_ ?_ ?_ hl (fun i y u hy hu => (hr i y u hy hu).mono hg (Nat.le_succ _) (fun id hi => ?_) (hk _))
  · simp only [Gh.withObj, if_true]; exact alloc_heap_new w _
  · simp [Gh.withObj]
  · simp only [Gh.withObj, if_true]; exact (hf.f _ (Nat.le_refl _)).2
  · have : id ≠ g.n := by omega
    simp [Gh.withObj, this]
theorem repC_ofD {ds : List D} {vs : Array Value} (h : RepDL g.pub w ds vs.toList) (f : Nat → Loc) :
    ∀ (i : Nat) y u, (ds.map V.d)[i]? = some y → vs[i]? = some u → RepC M g w (f i) y u := fun i y u hy hu => by
  obtain ⟨u', hu', hr⟩ := (RepSL.ofD (M := M) h).get i y hy
  have : u = u' := by simpa [hu] using hu'
  subst this
  exact .s hr
theorem sim_alloc (hd : DstOk o a) (hR : Rel M g w β st a.tmps) {t : TypeId} {zero : D} (hz : zeroD P t = some zero) (ho : o.op = .alloc t) {loc : Bool} (hloc : loc = true → o.dst ≠ none)
    {r : Or} (hr : eAlloc loc zero.cells st = some r) : Left1 P M g w o a r := by
  obtain ⟨i, z, hi, hzz, hzd⟩ := zeroD_inv hz
  have hrep := (toD_rep g.pub w z zero hzd).cells
  have hlen : (zero.cells.map V.d).length = z.cells.size := by simpa using hrep.length
  have hrun : (Go.execOp a.eval o).run P w = .ok (.value (.pointer (some ⟨w.heap.size, 0, none⟩))) (w.alloc (.cells z.cells t)) := by
    simp [Go.execOp, ho, Go.Instr.alloc, run_zero hi hzz, Go.newVar, Go.newRow]
  unfold eAlloc at hr
  cases hl : loc with
  | true =>
    simp only [hl, cond_true, ok, Option.some.injEq] at hr
    subst hr
    cases hdst : o.dst with
    | none => exact absurd hdst (hloc hl)
    | some n =>
      obtain ⟨g', β', h1, h2⟩ := make_box hd hR hdst t hlen (repC_ofD hrep _)
      exact ⟨_, _, g', β', .value hrun, h1, h2⟩
  | false =>
    simp only [hl, cond_false, okH, Option.some.injEq] at hr
    subst hr
    obtain ⟨h1, h2⟩ := make_obj hd hR t hlen (repC_ofD hrep _)
    refine ⟨_, _, g.withObj w.heap.size, β, .value hrun, ?_, h2⟩
    have hv : RepV M (g.withObj w.heap.size) (w.alloc (.cells z.cells t)) β (.ptr st.H.length 0) (.pointer (some ⟨w.heap.size, 0, none⟩)) := by
      have := RepS.ptr (M := M) (g := g.withObj w.heap.size) (w := w.alloc (.cells z.cells t)) g.n 0 (Nat.lt_succ_self _)
      rw [← hR.n]
      simpa [Gh.withObj] using RepV.s (β := β) this
    exact h1.putV hd hv
theorem sim_box (hd : DstOk o a) (hR : Rel M g w β st a.tmps) {t : TypeId} {m : Bool} {x : Operand} {y : O} (hy : opnd M m x = some y) (ho : o.op = .box t x) {loc : Bool} (hloc : loc = true → o.dst ≠ none)
    {r : Or} (hr : eBox loc y st = some r) : Left1 P M g w o a r := by
  have hrd := rdm_rep hR hy
  have hrun : (Go.execOp a.eval o).run P w = .ok (.value (.pointer (some ⟨w.heap.size, 0, none⟩))) (w.alloc (.cells (a.eval x).cells t)) := by
    simp [Go.execOp, ho, Go.Instr.box, Go.newVar, Go.newRow]
  simp only [eBox] at hr
  generalize rd st.env y = v at hr hrd
  cases h1 : V.ones v.cells with
  | false => simp [h1] at hr
  | true =>
    simp only [h1, Bool.not_true, Bool.false_eq_true, if_false, if_true] at hr
    cases hl : loc with
    | true =>
      simp only [hl, cond_true, ok, Option.some.injEq] at hr
      subst hr
      cases hdst : o.dst with
      | none => exact absurd hdst (hloc hl)
      | some n =>
        obtain ⟨g1, hR1, hE1, hn1, hφ1, hlen, hrep, hone, _⟩ := hR.take hrd h1 (fun i => .bcell n i)
        obtain ⟨g', β', h1, h2⟩ := make_box hd hR1 hdst t hlen hrep
        exact ⟨_, _, g', β', .value hrun, h1, hE1.trans h2⟩
    | false =>
      simp only [hl, cond_false, okH, Option.some.injEq] at hr
      subst hr
      obtain ⟨g1, hR1, hE1, hn1, hφ1, hlen, hrep, hone, _⟩ := hR.take hrd h1 (fun i => .ocell g.n i)
      obtain ⟨h1, h2⟩ := make_obj hd hR1 t hlen (by rw [hn1]; exact hrep)
      refine ⟨_, _, g1.withObj w.heap.size, β, .value hrun, ?_, hE1.trans h2⟩
      have hv : RepV M (g1.withObj w.heap.size) (w.alloc (.cells (a.eval x).cells t)) β (.ptr st.H.length 0) (.pointer (some ⟨w.heap.size, 0, none⟩)) := by
        have := RepS.ptr (M := M) (g := g1.withObj w.heap.size) (w := w.alloc (.cells (a.eval x).cells t)) g1.n 0 (Nat.lt_succ_self _)
        rw [← hR.n, ← hn1]
        simpa [Gh.withObj] using RepV.s (β := β) this
      exact h1.putV hd hv
end
end W

/-
  Writes into boxes and objects; reads that take the slice along.
-/
set_option linter.unusedSimpArgs false
set_option linter.unusedVariables false
namespace W
open Go (World Value Addr IntKind Program TypeId FuncId Operand Act Oper Next Result Sem BinOp UnOp)
structure Wr (g : Gh) (w w' : World) (b : Nat) : Prop where
  size : w'.heap.size = w.heap.size
  other : ∀ x, x ≠ b → w'.heap[x]? = w.heap[x]?
  pub : ∀ o, o < g.pub b → w'.cell? ⟨b, o, none⟩ = w.cell? ⟨b, o, none⟩
  io : w'.os = w.os ∧ w'.output = w.output
theorem Wr.grow {g : Gh} {w w' : World} {b : Nat} (h : Wr g w w' b) : Grow g w g w' :=
  ⟨by rw [h.size]; exact Nat.le_refl _, fun _ => Nat.le_refl _, fun x o ho => by
    by_cases hx : x = b
    · subst hx; exact h.pub o ho
    · exact cell_of_heap (h.other x hx) o⟩
theorem Wr.kept {g : Gh} {w w' : World} {b : Nat} (h : Wr g w w' b) {ℓ₀ ℓ : Loc} (hb : g.own b = some ℓ₀) (hne : ℓ ≠ ℓ₀) : Kept g w g w' ℓ :=
  ⟨fun x hx => ⟨hx, h.other x (fun e => by subst e; rw [hb] at hx; exact hne (Option.some.inj hx).symm), rfl⟩⟩
theorem Wr.evo {g : Gh} {w w' : World} {b : Nat} (h : Wr g w w' b) {ℓ₀ : Loc} (hb : g.own b = some ℓ₀) (hne : ℓ₀ ≠ .out) : Evo g w g w' :=
  ⟨h.grow, Nat.le_refl _, fun _ _ => rfl, fun x _ ho => ⟨rfl, h.other x (fun e => by
    subst e; rw [hb] at ho
    rcases ho with h | h
    · cases h
    · exact hne (Option.some.inj h)), rfl⟩, h.io⟩
theorem Wr.setRow {g : Gh} {w : World} {b : Nat} (arr : Array Value) (hp : g.pub b = 0) : Wr g w (w.setRow b arr) b :=
  ⟨by simp, fun x hx => Go.setRow_other w b x arr hx, fun o ho => (by omega), ⟨rfl, rfl⟩⟩
section
variable {P : Program} {M : Maps} {g : Gh} {w : World} {β : Nat → Nat} {st : St} {o : Oper} {a : Act}
theorem Rel.setBox {tmps : Array Value} (hR : Rel M g w β st tmps) {s : Nat} {cs cs' : List V} (hbox : get s st.env = .box cs) {w' : World} (hw : Wr g w w' (β s)) {arr' : Array Value} {T : TypeId}
    (hb' : w'.heap[β s]? = some (.cells arr' T (0, 0))) (hl : cs'.length = arr'.size)
    (hr : ∀ (i : Nat) x v, cs'[i]? = some x → arr'[i]? = some v → RepC M g w (.bcell s i) x v) :
    Rel M g w' β { st with env := (s, .box cs') :: st.env } tmps ∧ Evo g w g w' := by
  have hs := hR.e s
  rw [hbox] at hs
  obtain ⟨arr, T0, e, hb, ho, hp, hlen, hr0⟩ : ∃ arr T0, tmps.getD s Go.undef = .pointer (some ⟨β s, 0, none⟩) ∧ w.heap[β s]? = some (.cells arr T0 (0, 0)) ∧ g.own (β s) = some (.bblk s) ∧ g.pub (β s) = 0 ∧ cs.length = arr.size ∧
      (∀ (i : Nat) x v, cs[i]? = some x → arr[i]? = some v → RepC M g w (.bcell s i) x v) := by
    generalize tmps.getD s Go.undef = c at hs
    cases hs with
    | s h => cases h
    | box _ arr T hb ho hp hl hr => exact ⟨arr, T, rfl, hb, ho, hp, hl, hr⟩
  have hg := hw.grow
  have hk : ∀ {ℓ : Loc}, ℓ ≠ .bblk s → Kept g w g w' ℓ := fun h => hw.kept ho h
  refine ⟨⟨hR.n, fun k => ?_, fun id ob hob => ?_, fun b hb => hR.fresh b (by rw [← hw.size]; exact hb), hR.gl.mono hg⟩, hw.evo ho (by simp)⟩
  · show RepT M g w' β k (get k ((s, .box cs') :: st.env)) _
    rw [get_cons]
    split
    · rename_i e'; subst e'
      rw [e]
      exact .box cs' arr' T hb' ho hp hl (fun i x v hx hv => (hr i x v hx hv).mono hg (Nat.le_refl _) (fun _ _ => rfl) (hk (by simp)))
    · rename_i hne
      exact (hR.e k).mono hg (Nat.le_refl _) (fun _ _ => rfl) (hk (by simp)) (hk (by simpa using hne)) (fun i => hk (by simp))
  · exact (hR.h id ob hob).mono hg (Nat.le_refl _) (fun _ _ => rfl) (by rw [hR.n]; exact (List.getElem?_eq_some_iff.1 hob).1) (hk (by simp)) (fun i => hk (by simp))
theorem Rel.setObj {tmps : Array Value} (hR : Rel M g w β st tmps) {id : Nat} {ob ob' : Obj} (hob : st.H[id]? = some ob) {w' : World} (ho : g.own (g.φ id) = some (.oblk id)) (hw : Wr g w w' (g.φ id))
    (hrep : RepO M g w' id ob') (lo : Nat) :
    Rel M g w' β { st with H := setAt st.H id ob', lo := lo } tmps ∧ Evo g w g w' := by
  have hg := hw.grow
  have hid : id < st.H.length := (List.getElem?_eq_some_iff.1 hob).1
  have hk : ∀ {ℓ : Loc}, ℓ ≠ .oblk id → Kept g w g w' ℓ := fun h => hw.kept ho h
  refine ⟨⟨by simpa [setAt] using hR.n, fun k => ?_, fun i o2 ho2 => ?_, fun b hb => hR.fresh b (by rw [← hw.size]; exact hb), hR.gl.mono hg⟩, hw.evo ho (by simp)⟩
  · exact (hR.e k).mono hg (Nat.le_refl _) (fun _ _ => rfl) (hk (by simp)) (hk (by simp)) (fun i => hk (by simp))
  · simp only [setAt, List.getElem?_set] at ho2
    split at ho2
    · rename_i e; subst e
      simp only [hid, if_true, Option.some.injEq] at ho2
      subst ho2
      exact hrep
    · rename_i hne
      exact (hR.h i o2 ho2).mono hg (Nat.le_refl _) (fun _ _ => rfl) (by rw [hR.n]; exact (List.getElem?_eq_some_iff.1 ho2).1) (hk (by simp; exact fun e => hne e.symm)) (fun i => hk (by simp))
theorem splice_rep {cs vs : List V} {arr : Array Value} {us : List Value} {off : Nat} {f : Nat → Loc} (hl : cs.length = arr.size) (hl2 : vs.length = us.length) (hfit : off + vs.length ≤ cs.length)
    (hr : ∀ (i : Nat) x v, cs[i]? = some x → arr[i]? = some v → RepC M g w (f i) x v) (hv : ∀ (i : Nat) x v, vs[i]? = some x → us[i]? = some v → RepC M g w (f (off + i)) x v) :
    (cs.take off ++ vs ++ cs.drop (off + vs.length)).length = (arr.toList.take off ++ us ++ arr.toList.drop (off + us.length)).toArray.size ∧
    ∀ (i : Nat) x v, (cs.take off ++ vs ++ cs.drop (off + vs.length))[i]? = some x → (arr.toList.take off ++ us ++ arr.toList.drop (off + us.length)).toArray[i]? = some v → RepC M g w (f i) x v := by
  have hl' : arr.toList.length = cs.length := by simpa using hl.symm
  refine ⟨by simp; omega, fun i x v hx hu => ?_⟩
  simp only [List.getElem?_toArray] at hu
  have t1 : (cs.take off).length = off := by simp; omega
  have t2 : (arr.toList.take off).length = off := by simp; omega
  rw [List.append_assoc, List.getElem?_append, t1] at hx
  rw [List.append_assoc, List.getElem?_append, t2] at hu
  split at hx
  · rename_i h
    simp only [h, if_true, List.getElem?_take] at hx hu
    exact hr i x v hx (by simpa using hu)
  · rename_i h
    simp only [h, if_false] at hu
    rw [List.getElem?_append] at hx hu
    rw [← hl2] at hu
    split at hx
    · rename_i h2
      simp only [h2, if_true] at hu
      have := hv (i - off) x v hx hu
      rwa [show off + (i - off) = i by omega] at this
    · rename_i h2
      simp only [h2, if_false, List.getElem?_drop] at hx hu
      have e1 : off + vs.length + (i - off - vs.length) = i := by omega
      rw [e1] at hx hu
      exact hr i x v hx (by simpa using hu)
theorem run_storeAt {t : TypeId} {i : Go.TypeInfo} (hi : P.info? t = some i) {b off : Nat} {cur : Array Value} {T : TypeId} (hb : w.heap[b]? = some (.cells cur T (0, 0))) {c : Value} (hsz : c.cells.size = i.size)
    (hfit : off + c.cells.size ≤ cur.size) (h1 : ∀ u ∈ c.cells.toList, u.oneCell' = true) :
    (Go.Instr.storeAt t (.pointer (some ⟨b, off, none⟩)) c).run P w = .ok () (w.setRow b (cur.toList.take off ++ c.cells.toList ++ cur.toList.drop (off + c.cells.toList.length)).toArray) := by
  have h2 := Go.run_storeCells_at P b off T c.cells.toList 0 cur w hb (by simpa using hfit) h1
  simp only [Nat.add_zero] at h2
  have e : (c.cells.size ≠ i.size) = False := by simp [hsz]
  simp only [Go.Instr.storeAt, Go.Instr.sureAddr, Sem.run_bind, Sem.run_pure, Result.andThen_ok, Go.storeVar, run_sizeOf' hi, e, if_false, h2]
theorem sim_store (hd : DstOk o a) (hR : Rel M g w β st a.tmps) {t : TypeId} {l : L} (hl : lay P t = some l) {sl : Option Nat} {m : Bool} {p x : Operand} {p' x' : O} (hp : opnd M false p = some p') (hx : opnd M m x = some x')
    (ho : o.op = .store t p x) {r : Or} (hr : eStore sl l p' x' st = some r) : Left1 P M g w o a r := by
  have hP := rd_rep hR hp
  have hX := rdm_rep hR hx
  obtain ⟨i, d, hi, hu, rfl⟩ := lay_inv hl
  unfold eStore at hr
  cases hs : slotIs sl (rd st.env p') with
  | false => simp [hs] at hr
  | true =>
  simp only [hs, Bool.not_true, cond_false] at hr
  split at hr
  · rename_i st' hst
    have key : ∀ {w' g'}, (Go.Instr.storeAt t (a.eval p) (a.eval x)).run P w = .ok () w' → Rel M g' w' β st' a.tmps → Evo g w g' w' → Left1 P M g w o a r := by
      intro w' g' hrun hR' hE
      have hv : RepV M g' w' β .undef Go.undef := .s (.undef _)
      have hy : Yields P o a w Go.undef w' := .skip (by simp only [Go.execOp, ho, Sem.run_bind, hrun, Result.andThen_ok, Sem.run_pure])
      cases sl with
      | some _ =>
        simp only [ok, Option.some.injEq] at hr; subst hr
        exact ⟨_, w', g', β, hy, hR'.putV hd hv, hE⟩
      | none =>
        simp only [okH, Option.some.injEq] at hr; subst hr
        exact ⟨_, w', g', β, hy, hR'.putV hd hv, hE⟩
    generalize rd st.env p' = pv at hP hst hs
    generalize rd st.env x' = xv at hX hst
    unfold storeAt at hst
    split at hst
    · rename_i s off
      have e := hP.inv_lp
      split at hst
      · rename_i cs hbox
        split at hst
        · rename_i hc
          simp only [Bool.and_eq_true, beq_iff_eq, decide_eq_true_eq] at hc
          split at hst
          · rename_i cs' hset
            simp only [Option.some.injEq] at hst
            subst hst
            unfold setCells at hset
            split at hset
            · rename_i hfit
              simp only [Option.some.injEq] at hset
              subst hset
              obtain ⟨g1, hR1, hE1, hn1, hφ1, hlen, hrep, hone, hkk⟩ := hR.take hX hc.2 (fun i => .bcell s (off + i))
              have hsb := hR1.e s
              rw [hbox] at hsb
              generalize a.tmps.getD s Go.undef = cc at hsb
              cases hsb with
              | s h => cases h
              | box _ arr T hb ho hp0 hlb hrb =>
                have hsz : (a.eval x).cells.size = i.size := by rw [← hlen]; exact hc.1
                have hrun := run_storeAt (P := P) hi hb (off := off) hsz (by rw [← hlb, ← hlen]; exact hfit) hone
                rw [← e] at hrun
                obtain ⟨k1, k2⟩ := splice_rep (f := fun i => Loc.bcell s i) (us := (a.eval x).cells.toList) hlb (by simpa using hlen) hfit hrb (fun i x v hx hv => hrep i x v hx (by simpa using hv))
                obtain ⟨h3, h4⟩ := hR1.setBox hbox (Wr.setRow _ hp0) (Go.setRow_heap w (β s) arr _ T (0, 0) hb) k1 k2
                exact key hrun h3 (hE1.trans h4)
            · cases hset
          · cases hst
        · cases hst
      · cases hst
    · rename_i id off
      obtain ⟨e, hid⟩ := hP.inv_ptr
      split at hst
      · rename_i cs hH
        split at hst
        · rename_i hc
          simp only [Bool.and_eq_true, beq_iff_eq, decide_eq_true_eq] at hc
          split at hst
          · rename_i cs' hset
            simp only [Option.some.injEq] at hst
            subst hst
            unfold setCells at hset
            split at hset
            · rename_i hfit
              simp only [Option.some.injEq] at hset
              subst hset
              obtain ⟨g1, hR1, hE1, hn1, hφ1, hlen, hrep, hone, hkk⟩ := hR.take hX hc.2 (fun i => .ocell id (off + i))
              have hob := hR1.h id _ hH
              cases hob with
              | cells _ arr T hb ho hp0 hlb hrb =>
                have hsz : (a.eval x).cells.size = i.size := by rw [← hlen]; exact hc.1
                have hrun := run_storeAt (P := P) hi hb (off := off) hsz (by rw [← hlb, ← hlen]; exact hfit) hone
                rw [hφ1, ← e] at hrun
                obtain ⟨k1, k2⟩ := splice_rep (f := fun i => Loc.ocell id i) (us := (a.eval x).cells.toList) hlb (by simpa using hlen) hfit hrb (fun i x v hx hv => hrep i x v hx (by simpa using hv))
                have hw := Wr.setRow (w := w) (arr.toList.take off ++ (a.eval x).cells.toList ++ arr.toList.drop (off + (a.eval x).cells.toList.length)).toArray hp0
                have hrp : RepO M g1 (w.setRow (g1.φ id) (arr.toList.take off ++ (a.eval x).cells.toList ++ arr.toList.drop (off + (a.eval x).cells.toList.length)).toArray) id (.cells (cs.take off ++ xv.cells ++ cs.drop (off + xv.cells.length))) :=
                  .cells _ _ T (Go.setRow_heap w (g1.φ id) arr _ T (0, 0) hb) ho hp0 k1 (fun i x v hx hv => (k2 i x v hx hv).mono hw.grow (Nat.le_refl _) (fun _ _ => rfl) (hw.kept ho (by simp)))
                obtain ⟨h3, h4⟩ := hR1.setObj hH ho hw hrp (min st.lo id)
                rw [hφ1] at h3 h4
                exact key hrun h3 (hE1.trans h4)
            · cases hset
          · cases hst
        · cases hst
      · cases hst
    · cases hst
  · cases hr
end
end W

/-
  Reads that take the slice along; maps that are made and written.
-/
set_option linter.unusedSimpArgs false
set_option linter.unusedVariables false
namespace W
open Go (World Value Addr IntKind Program TypeId FuncId Operand Act Oper Next Result Sem BinOp UnOp)
theorem set_self {α : Type} {l : List α} {i : Nat} {x y : α} (h : l[i]? = some x) : (l.set i y)[i]? = some y := by
  have hlt := (List.getElem?_eq_some_iff.1 h).1
  rw [List.getElem?_set]; simp [hlt]
section
variable {P : Program} {M : Maps} {g : Gh} {w : World} {β : Nat → Nat} {st : St} {o : Oper} {a : Act}
theorem Rel.reownB {tmps : Array Value} (h : Rel M g w β st tmps) {s i b : Nat} {cs : List V} (hs : get s st.env = .box cs) (hu : cs[i]? = some .undef) (hb : g.own b = some (.bcell s i)) (hlt : b < w.heap.size)
    (ℓ : Option Loc) : Rel M (g.setOwn b ℓ) w β st tmps := by
  have hg := setOwn_grow g w b ℓ
  have hk : ∀ {ℓ₁ : Loc}, ℓ₁ ≠ .bcell s i → Kept g w (g.setOwn b ℓ) w ℓ₁ := fun h => setOwn_kept ℓ hb h
  refine ⟨h.n, fun k => ?_, fun id o ho => ?_, fun x hx => ?_, h.gl.mono hg⟩
  · by_cases hks : k = s
    · subst hks
      have he := h.e k
      rw [hs] at he ⊢
      generalize tmps.getD k Go.undef = c at he
      cases he with
      | s h => cases h
      | box _ arr T hbb ho hp hl hr =>
        obtain ⟨k1, k2, k3⟩ := (hk (ℓ₁ := .bblk k) (by simp)).k _ ho
        refine .box cs arr T (k2.trans hbb) k1 (k3.trans hp) hl (fun j x v hx hv => ?_)
        by_cases hj : j = i
        · subst hj
          rw [hu] at hx; cases hx
          exact .s (.undef _)
        · exact (hr j x v hx hv).mono hg (Nat.le_refl _) (fun _ _ => rfl) (hk (by simpa using hj))
    · exact (h.e k).mono hg (Nat.le_refl _) (fun _ _ => rfl) (hk (by simp)) (hk (by simp)) (fun j => hk (by simp [hks]))
  · exact (h.h id o ho).mono hg (Nat.le_refl _) (fun _ _ => rfl) (by rw [h.n]; exact (List.getElem?_eq_some_iff.1 ho).1) (hk (by simp)) (fun i => hk (by simp))
  · have : x ≠ b := by omega
    simpa [Gh.setOwn, this] using h.fresh x hx
theorem Rel.reownO {tmps : Array Value} (h : Rel M g w β st tmps) {id i b : Nat} {cs : List V} (hs : st.H[id]? = some (.cells cs)) (hu : cs[i]? = some .undef) (hb : g.own b = some (.ocell id i)) (hlt : b < w.heap.size)
    (ℓ : Option Loc) : Rel M (g.setOwn b ℓ) w β st tmps := by
  have hg := setOwn_grow g w b ℓ
  have hk : ∀ {ℓ₁ : Loc}, ℓ₁ ≠ .ocell id i → Kept g w (g.setOwn b ℓ) w ℓ₁ := fun h => setOwn_kept ℓ hb h
  refine ⟨h.n, fun k => ?_, fun id' o ho => ?_, fun x hx => ?_, h.gl.mono hg⟩
  · exact (h.e k).mono hg (Nat.le_refl _) (fun _ _ => rfl) (hk (by simp)) (hk (by simp)) (fun j => hk (by simp))
  · by_cases hid : id' = id
    · subst hid
      rw [hs] at ho; cases ho
      cases h.h id' _ hs with
      | cells _ arr T hbb ho hp hl hr =>
        obtain ⟨k1, k2, k3⟩ := (hk (ℓ₁ := .oblk id') (by simp)).k _ ho
        refine .cells cs arr T (k2.trans hbb) k1 (k3.trans hp) hl (fun j x v hx hv => ?_)
        by_cases hj : j = i
        · subst hj
          rw [hu] at hx; cases hx
          exact .s (.undef _)
        · exact (hr j x v hx hv).mono hg (Nat.le_refl _) (fun _ _ => rfl) (hk (by simpa using hj))
    · exact (h.h id' o ho).mono hg (Nat.le_refl _) (fun _ _ => rfl) (by rw [h.n]; exact (List.getElem?_eq_some_iff.1 ho).1) (hk (by simp)) (fun i => hk (by simp [hid]))
  · have : x ≠ b := by omega
    simpa [Gh.setOwn, this] using h.fresh x hx
theorem Wr.refl (g : Gh) (w : World) (b : Nat) : Wr g w w b := ⟨rfl, fun _ _ => rfl, fun _ _ => rfl, rfl, rfl⟩
theorem set_rep {cs : List V} {arr : Array Value} {off : Nat} {f : Nat → Loc}
    (hr : ∀ (i : Nat) x v, cs[i]? = some x → arr[i]? = some v → RepC M g w (f i) x v) :
    ∀ (i : Nat) x v, (cs.set off .undef)[i]? = some x → arr[i]? = some v → RepC M g w (f i) x v := fun i x v hx hv => by
  rw [List.getElem?_set] at hx
  split at hx
  · split at hx
    · cases hx; exact .s (.undef _)
    · cases hx
  · exact hr i x v hx hv
theorem run_load1 {t : TypeId} {l : L} (hl : lay P t = some l) (ha : l.agg = false) {b off : Nat} {arr : Array Value} {T : TypeId} {fz : Nat × Nat} (hb : w.heap[b]? = some (.cells arr T fz)) {c : Value} (hc : arr[off]? = some c) :
    (Go.Instr.loadAt t (.pointer (some ⟨b, off, none⟩))).run P w = .ok c w := by
  have := (run_loadVar_list (P := P) (w := w) (vs := [c]) hl (b := b) (off := off) (fun j u hj => by
    cases j with
    | zero => simp at hj; subst hj; simpa [World.cell?, hb] using hc
    | succ j => simp at hj)).2 ha _ rfl
  simpa [Go.Instr.loadAt, Go.Instr.sureAddr] using this
theorem sim_loadMv (hd : DstOk o a) (hR : Rel M g w β st a.tmps) {t : TypeId} {l : L} (hl : lay P t = some l) {sl : Option Nat} {x : Operand} {x' : O} (hx : opnd M false x = some x')
    (ho : o.op = .load t x) {r : Or} (hr : eLoad true sl l x' st = some r) : Left1 P M g w o a r := by
  have hP := rd_rep hR hx
  unfold eLoad at hr
  cases hs : slotIs sl (rd st.env x') with
  | false => simp [hs] at hr
  | true =>
  cases ha : l.agg with
  | true => simp [hs, ha] at hr
  | false =>
  simp only [hs, ha, Bool.not_true, cond_false, cond_true] at hr
  split at hr
  · rename_i v st' hst
    have key : ∀ {c : Value} {g'}, (Go.Instr.loadAt t (a.eval x)).run P w = .ok c w → Rel M g' w β (put o.dst v st') (a.put o.dst c).tmps → Evo g w g' w → Left1 P M g w o a r := by
      intro c g' hrun hR' hE
      have hy : Yields P o a w c w := .value (by simp only [Go.execOp, ho, Sem.run_bind, hrun, Result.andThen_ok, Sem.run_pure])
      cases sl with
      | some _ =>
        simp only [ok, Option.some.injEq] at hr; subst hr
        exact ⟨_, w, g', β, hy, hR', hE⟩
      | none =>
        simp only [okH, Option.some.injEq] at hr; subst hr
        exact ⟨_, w, g', β, hy, hR', hE⟩
    generalize rd st.env x' = pv at hP hst hs
    unfold loadMv at hst
    split at hst
    · rename_i s off
      have e := hP.inv_lp
      split at hst
      · rename_i cs hbox
        split at hst
        · rename_i v' hcell
          simp only [Option.some.injEq, Prod.mk.injEq] at hst
          obtain ⟨rfl, rfl⟩ := hst
          have hsb := hR.e s
          rw [hbox] at hsb
          generalize htm : a.tmps.getD s Go.undef = cc at hsb
          cases hsb with
          | s h => cases h
          | box _ arr T hb ho' hp0 hlb hrb =>
            have hlt : off < arr.size := by rw [← hlb]; exact (List.getElem?_eq_some_iff.1 hcell).1
            have hc : arr[off]? = some arr[off] := by simp [hlt]
            have hrun := run_load1 (P := P) hl ha hb hc
            rw [← e] at hrun
            obtain ⟨h3, h4⟩ := hR.setBox hbox (Wr.refl g w (β s)) (cs' := cs.set off .undef) hb (by simpa using hlb) (set_rep hrb)
            cases hrb off v' _ hcell hc with
            | s h => exact key hrun (h3.putV hd (.s h)) h4
            | osl h =>
              rename_i xs
              rcases h.setOwn with ⟨b, hb1, hb2, hv'⟩ | hv'
              case inr => exact key (g' := g) hrun (h3.putFull hd hv') h4
              cases hdst : o.dst with
              | none =>
                refine key (g' := g) hrun ?_ (Evo.refl g w)
                rw [put_plain (by intro cs e; cases e), Act.put_tmps, hdst]
                exact h3
              | some d =>
                refine key (g' := g.setOwn b (some (.slot d))) hrun ?_ (setOwn_evo _ hb1 (by simp))
                rw [put_plain (by intro cs e; cases e), Act.put_tmps, hdst]
                have h5 : Rel M (g.setOwn b (some (.slot d))) w β { st with env := (s, .box (cs.set off .undef)) :: st.env } a.tmps :=
                  h3.reownB (by rw [get_cons, if_pos rfl]) (set_self hcell) hb1 hb2 _
                exact h5.lay (hd d hdst) (.osl (hv' _))
        · cases hst
      · cases hst
    · rename_i id off
      obtain ⟨e, hid⟩ := hP.inv_ptr
      split at hst
      · rename_i cs hH
        split at hst
        · rename_i v' hcell
          simp only [Option.some.injEq, Prod.mk.injEq] at hst
          obtain ⟨rfl, rfl⟩ := hst
          cases hR.h id _ hH with
          | cells _ arr T hb ho' hp0 hlb hrb =>
            have hlt : off < arr.size := by rw [← hlb]; exact (List.getElem?_eq_some_iff.1 hcell).1
            have hc : arr[off]? = some arr[off] := by simp [hlt]
            have hrun := run_load1 (P := P) hl ha hb hc
            rw [← e] at hrun
            have hrp : RepO M g w id (.cells (cs.set off .undef)) := .cells _ arr T hb ho' hp0 (by simpa using hlb) (set_rep hrb)
            obtain ⟨h3, h4⟩ := hR.setObj hH ho' (Wr.refl g w _) hrp (min st.lo id)
            cases hrb off v' _ hcell hc with
            | s h => exact key hrun (h3.putV hd (.s h)) h4
            | osl h =>
              rename_i xs
              rcases h.setOwn with ⟨b, hb1, hb2, hv'⟩ | hv'
              case inr => exact key (g' := g) hrun (h3.putFull hd hv') h4
              cases hdst : o.dst with
              | none =>
                refine key (g' := g) hrun ?_ (Evo.refl g w)
                rw [put_plain (by intro cs e; cases e), Act.put_tmps, hdst]
                exact h3
              | some d =>
                refine key (g' := g.setOwn b (some (.slot d))) hrun ?_ (setOwn_evo _ hb1 (by simp))
                rw [put_plain (by intro cs e; cases e), Act.put_tmps, hdst]
                have hlen2 : id < st.H.length := (List.getElem?_eq_some_iff.1 hH).1
                have h5 := h3.reownO (id := id) (i := off) (cs := cs.set off .undef) (set_self hH)
                  (set_self hcell) hb1 hb2 (some (.slot d))
                exact h5.lay (hd d hdst) (.osl (hv' _))
        · cases hst
      · cases hst
    · cases hst
  · cases hr
theorem sim_mkMap (hd : DstOk o a) (hR : Rel M g w β st a.tmps) {t : TypeId} (ho : o.op = .makeMap t none) {r : Or} (hr : eMkMap st = some r) : Left1 P M g w o a r := by
  simp only [eMkMap, okH, Option.some.injEq] at hr
  subst hr
  have hf := hR.fr
  have hrun : (Go.execOp a.eval o).run P w = .ok (.value (.map (some w.heap.size))) (w.alloc (.map #[] 0)) := by
    simp [Go.execOp, ho, Go.Instr.makeMap]
  obtain ⟨h1, h2⟩ := hR.newObj (.map []) (.map #[] 0) (.map [] #[] 0 (by simp only [Gh.withObj, if_true]; exact alloc_heap_new w _) (by simp [Gh.withObj]) .nil)
  refine ⟨_, _, g.withObj w.heap.size, β, .value hrun, ?_, h2⟩
  have hv : RepV M (g.withObj w.heap.size) (w.alloc (.map #[] 0)) β (.map st.H.length) (.map (some w.heap.size)) := by
    have := RepS.map (M := M) (g := g.withObj w.heap.size) (w := w.alloc (.map #[] 0)) g.n (Nat.lt_succ_self _)
    rw [← hR.n]
    simpa [Gh.withObj] using RepV.s (β := β) this
  exact h1.putV hd hv
end
end W

/-
  Maps that are written.
-/
set_option linter.unusedSimpArgs false
set_option linter.unusedVariables false
namespace W
open Go (World Value Addr IntKind Program TypeId FuncId Operand Act Oper Next Result Sem BinOp UnOp)
theorem good_eq {kk : Nat} {k k' : D} (hg : goodKey kk k = true) (hs : k.same k' = some true) : k' = k := by
  unfold goodKey at hg
  split at hg
  · cases k' <;> simp only [D.same, Option.some.injEq, reduceCtorEq, beq_iff_eq] at hs
    rw [hs]
  · cases k' <;> simp only [D.same, Option.some.injEq, reduceCtorEq] at hs
    rename_i k1 n1 k2 n2
    cases hkk : eqK k1 k2 with
    | false => simp [hkk] at hs
    | true =>
      simp only [hkk, cond_true, Option.some.injEq, eqI_eq, beq_iff_eq, decide_eq_true_eq] at hs
      rw [eqK_true hkk, hs]
  · cases k' <;> simp only [D.same, Option.some.injEq, reduceCtorEq] at hs
    rw [eqT_eq] at hs
    simp only [beq_iff_eq, decide_eq_true_eq] at hs
    rw [hs]
  · cases hg
theorem byteArray_of_nats {x y : ByteArray} (h : x.data.toList.map (·.toNat) = y.data.toList.map (·.toNat)) : x = y := by
  have h1 : x.data.toList = y.data.toList := by
    have inj : Function.Injective (fun b : UInt8 => b.toNat) := fun a b h => UInt8.toNat_inj.1 h
    exact (List.map_inj_right (fun a b h => inj h)).1 h
  have h2 : x.data = y.data := Array.ext' h1
  cases x; cases y; simp at h2; rw [h2]
theorem ba_beq (x : ByteArray) : (x == x) = true := by
  cases x with | mk d =>
  show (d == d) = true
  simp
theorem good_bits {pub : Nat → Nat} {w : World} {kk : Nat} {k : D} {c c' : Value} (hg : goodKey kk k = true) (h : RepD pub w k c) (h' : RepD pub w k c') (n : Nat) : Go.Instr.sameBits n c c' = true := by
  unfold goodKey at hg
  split at hg
  · cases h; cases h'; cases n <;> simp [Go.Instr.sameBits]
  · cases h; cases h'; cases n <;> simp [Go.Instr.sameBits]
  · cases h with
    | s t x h => cases h' with
      | s _ y h' =>
        have : x = y := byteArray_of_nats (h.trans h'.symm)
        subst this
        cases n <;> simp [Go.Instr.sameBits, ba_beq]
  · cases hg
theorem keySet_rep {P : Program} {M : Maps} {g : Gh} {w : World} {kt : TypeId} {kk : Nat} {dd : Go.TypeDesc} (hk : keyKind P kt = some kk) (hu : P.underlying kt = some dd) {k : D} {c : Value} (hg : goodKey kk k = true)
    (h : RepD g.pub w k c) {x : V} {xc : Value} (hx : RepS M g w x xc) : ∀ {es : List (D × V)} {ents : List Go.MapEntry} (j : Nat) {es' : List (D × V)}, RepEs M g w es ents → keySet k x es = some es' →
    (Go.Instr.findNow dd c ents j = some none ∧ ∀ born, RepEs M g w es' (ents ++ [⟨c, xc, born⟩])) ∨
    (∃ i e, ents[i]? = some e ∧ Go.Instr.findNow dd c ents j = some (some (j + i, e.val)) ∧ Go.Instr.sameBits 10000 e.key c = true ∧
      RepEs M g w es' (ents.modify i fun e => { e with key := c, val := xc }))
  | _, _, j, r, .nil, hf => by
    simp only [keySet, Option.some.injEq] at hf
    subst hf
    exact .inl ⟨rfl, fun born => .cons k x _ _ _ h ⟨kk, hg⟩ hx .nil⟩
  | _, _, j, r, .cons k' y e es ents hk' hgk hy hl, hf => by
    simp only [keySet] at hf
    split at hf
    · rename_i hs
      simp only [Option.some.injEq] at hf
      subst hf
      have e' := good_eq hg hs
      subst e'
      refine .inr ⟨0, e, rfl, ?_, good_bits hg hk' h _, ?_⟩
      · simp only [Go.Instr.findNow, sameNow_rep hk hu hg h hk' hs, Nat.add_zero]
      · exact .cons _ x _ _ _ h ⟨kk, hg⟩ hx hl
    · rename_i hs
      have e1 : Go.Instr.findNow dd c (e :: ents) j = Go.Instr.findNow dd c ents (j + 1) := by simp only [Go.Instr.findNow, sameNow_rep hk hu hg h hk' hs]
      split at hf
      · rename_i r' hr'
        simp only [Option.some.injEq] at hf
        subst hf
        rcases keySet_rep hk hu hg h hx (j + 1) hl hr' with ⟨h1, h2⟩ | ⟨i, en, h1, h2, h3, h4⟩
        · exact .inl ⟨by rw [e1]; exact h1, fun born => .cons k' y e _ _ hk' hgk hy (h2 born)⟩
        · exact .inr ⟨i + 1, en, by simpa using h1, by rw [e1, h2]; congr 3; omega, h3, by simpa using RepEs.cons k' y e _ _ hk' hgk hy h4⟩
      · cases hf
    · cases hf
section
variable {P : Program} {M : Maps} {g : Gh} {w : World} {β : Nat → Nat} {st : St} {o : Oper} {a : Act}
theorem Wr.map {b : Nat} {ents ents' : Array Go.MapEntry} {c c' : Nat} (hb : w.heap[b]? = some (.map ents c)) : Wr g w { w with heap := w.heap.setIfInBounds b (.map ents' c') } b := by
  have hlt : b < w.heap.size := (Array.getElem?_eq_some_iff.1 hb).1
  refine ⟨by simp, fun x hx => ?_, fun o _ => ?_, rfl, rfl⟩
  · simp [Array.getElem?_setIfInBounds_ne (Ne.symm hx)]
  · have e := (Array.getElem?_eq_some_iff.1 hb).2
    simp [World.cell?, hb, Array.getElem?_setIfInBounds, hlt]
    rw [e]
theorem sim_mapUpdate (hd : DstOk o a) (hR : Rel M g w β st a.tmps) {t kt e : TypeId} (hu : P.underlying t = some (.map kt e)) {kk : Nat} (hk : keyKind P kt = some kk) {m : Bool} {p i x : Operand} {p' i' x' : O}
    (hp : opnd M false p = some p') (hi : opnd M false i = some i') (hx : opnd M m x = some x') (ho : o.op = .mapUpdate t p i x ∨ o.op = .insert t p i x) {r : Or} (hr : eMapUpdate kk p' i' x' st = some r) : Left1 P M g w o a r := by
  have h1 := rd_rep hR hp
  have h2 := rd_rep hR hi
  have h3 := rdm_rep hR hx
  obtain ⟨dd, hdd, _⟩ := keyKind_under hk
  have hrun0 : (Go.execOp a.eval o).run P w = ((Go.Instr.mapUpdate t (a.eval p) (a.eval i) (a.eval x)).run P w).andThen fun _ w' => .ok .skip w' := by
    rcases ho with ho | ho <;> simp only [Go.execOp, ho] <;> rw [Sem.run_bind] <;> rfl
  unfold eMapUpdate at hr
  split at hr
  · rename_i id key hm hkey
    rw [hm] at h1; rw [hkey] at h2
    split at hr
    · rename_i es hH
      generalize rd st.env x' = v at hr h3
      simp only at hr
      split at hr
      · rename_i hgood
        simp only [Bool.and_eq_true] at hgood
        split at hr
        · rename_i es' hset
          simp only [okH, Option.some.injEq] at hr
          subst hr
          have hv : RepS M g w v (a.eval x) := by
            generalize a.eval x = xc at h3 ⊢
            cases h3 with
            | v h => cases h with
              | s h => exact h
              | lp => simp [V.ok] at hgood
              | cp => simp [V.ok] at hgood
            | own h => simp [V.ok] at hgood
          generalize hc1 : a.eval p = cx at h1
          cases h1 with
          | s h1 => cases h1 with
            | map _ hid =>
              have hO := hR.h id _ hH
              cases hO with
              | map _ ents clock hb ho' hr' =>
                have hg : (Go.getObj (g.φ id)).run P w = .ok (.map ents clock) w := by simp [Go.getObj, Sem.run, hb]
                have hso : ∀ ob, (Go.setObj (g.φ id) ob).run P w = .ok () { w with heap := w.heap.setIfInBounds (g.φ id) ob } := fun ob => by simp [Go.setObj, Sem.run, hb]
                have fin : ∀ {ents' : Array Go.MapEntry} {clock' : Nat}, (Go.Instr.mapUpdate t (a.eval p) (a.eval i) (a.eval x)).run P w = .ok () { w with heap := w.heap.setIfInBounds (g.φ id) (.map ents' clock') } →
                    RepEs M g w es' ents'.toList → Left1 P M g w o a ⟨false, false, .undef, { st with H := setAt st.H id (.map es'), lo := min st.lo id, env := spent x' st.env }⟩ := by
                  intro ents' clock' hrun hre
                  have hw := Wr.map (g := g) (ents' := ents') (c' := clock') hb
                  have hlt : g.φ id < w.heap.size := (Array.getElem?_eq_some_iff.1 hb).1
                  have hrp : RepO M g { w with heap := w.heap.setIfInBounds (g.φ id) (.map ents' clock') } id (.map es') :=
                    .map es' ents' clock' (by simp [hlt]) ho' (hre.mono hw.grow (Nat.le_refl _) (fun _ _ => rfl))
                  obtain ⟨h4, h5⟩ := (hR.spent x').setObj (id := id) hH ho' hw hrp (min st.lo id)
                  exact ⟨_, _, g, β, .skip (by rw [hrun0, hrun]; rfl), h4.putV hd (.s (.undef _)), h5⟩
                rcases keySet_rep hk hdd hgood.1 h2.inv_d hv 0 hr' hset with ⟨e1, e2⟩ | ⟨j, en, e1, e2, e3, e4⟩
                · refine fin (ents' := ents.push ⟨a.eval i, a.eval x, clock⟩) (clock' := clock + 1) ?_ (by simpa using e2 clock)
                  rw [hc1]
                  simp only [Go.Instr.mapUpdate, Sem.run_bind, Go.run_underlying hu, Result.andThen_ok, hg, Sem.run_pure, run_checkKey hk, run_findKey hdd e1, hso]
                · refine fin (ents' := ents.modify j fun e => { e with key := a.eval i, val := a.eval x }) (clock' := clock) ?_ (by simpa using e4)
                  have e5 : ents[j]? = some en := by simpa using e1
                  have e6 : (Go.Instr.keyThatStays (((ents[j]?).map (·.key)).getD (a.eval i)) (a.eval i)).run P w = .ok (a.eval i) w := by
                    simp only [e5, Option.map_some, Option.getD_some, Go.Instr.keyThatStays, e3, if_true, Sem.run_pure]
                  rw [hc1]
                  simp only [Nat.zero_add] at e2
                  simp only [Go.Instr.mapUpdate, Sem.run_bind, Go.run_underlying hu, Result.andThen_ok, hg, Sem.run_pure, run_checkKey hk, run_findKey hdd e2, e6, hso]
        · cases hr
      · cases hr
    · cases hr
  · cases hr
end
end W

/-
  Slices of one's own: made anew, grown.
-/
set_option linter.unusedSimpArgs false
set_option linter.unusedVariables false
namespace W
open Go (World Value Addr IntKind Program TypeId FuncId Operand Act Oper Next Result Sem BinOp UnOp)
theorem frozen_fz {w : World} {b : Nat} {arr : Array Value} {T : TypeId} {fz : Nat × Nat} (hb : w.heap[b]? = some (.cells arr T fz)) (o : Nat) : w.frozen? ⟨b, o, none⟩ = (decide (fz.1 ≤ o) && decide (o < fz.2)) := by
  simp [World.frozen?, hb]
theorem run_storeCells_free (P : Program) (g o : Nat) (t : TypeId) (fz : Nat × Nat) : ∀ (vs : List Value) (i : Nat) (cur : Array Value) (w : World), w.heap[g]? = some (.cells cur t fz) →
    (∀ j, o + i ≤ j → j < o + i + vs.length → (decide (fz.1 ≤ j) && decide (j < fz.2)) = false) → o + i + vs.length ≤ cur.size → (∀ v ∈ vs, v.oneCell' = true) →
    (Go.storeCells ⟨g, o, none⟩ vs i).run P w = .ok () (w.setRow g (cur.toList.take (o + i) ++ vs ++ cur.toList.drop (o + i + vs.length)).toArray)
  | [], i, cur, w, hg, _, _, _ => by
    simp only [Go.storeCells, List.append_nil, List.length_nil, Nat.add_zero, List.take_append_drop, Array.toArray_toList]
    rw [Go.setRow_self w g cur t fz hg]
    rfl
  | v :: rest, i, cur, w, hg, hfz, hl, h1 => by
    have hi : o + i < cur.size := by simp at hl; omega
    have hcell : w.cell? ⟨g, o + i, none⟩ = some cur[o + i] := by simp [World.cell?, hg, hi]
    have hfro : w.frozen? ⟨g, o + i, none⟩ = false := by rw [frozen_fz hg]; exact hfz _ (Nat.le_refl _) (by simp)
    have hst : (Go.store ((⟨g, o, none⟩ : Addr).add i) v).run P w = .ok () (w.setRow g (cur.setIfInBounds (o + i) v)) := by
      rw [add_none, Go.run_store P w _ v _ (h1 v (by simp)), hcell]
      simp [hfro, Go.setCell_eq_setRow w g (o + i) cur t fz v hg]
    have ih := run_storeCells_free P g o t fz rest (i + 1) (cur.setIfInBounds (o + i) v) (w.setRow g (cur.setIfInBounds (o + i) v)) (Go.setRow_heap w g cur _ t _ hg)
      (fun j hj hj2 => hfz j (by omega) (by simp; omega)) (by simp at hl ⊢; omega) (fun x hx => h1 x (by simp [hx]))
    simp only [Go.storeCells, Sem.run_bind, hst, Result.andThen_ok, ih, Go.setRow_setRow]
    congr 3
    have e := Go.list_seg_step cur.toList (o + i) v rest (by simp at hl ⊢; omega)
    simpa [Array.toList_setIfInBounds, Nat.add_assoc] using e
section
variable {P : Program} {M : Maps} {g g' : Gh} {w w' : World} {β : Nat → Nat} {st : St} {o : Oper} {a : Act}
theorem Rel.others {tmps : Array Value} (h : Rel M g w β st tmps) {n : Nat} (hn : get n st.env = .undef) (hg : Grow g w g' w') (hnn : g'.n = g.n) (hφ : g'.φ = g.φ)
    (hk : ∀ ℓ, ℓ ≠ .slot n → Kept g w g' w' ℓ) (hf : Fresh g' w') : Rel M g' w' β st tmps := by
  have hn' : g.n ≤ g'.n := by rw [hnn]; exact Nat.le_refl _
  have hφ' : ∀ id, id < g.n → g'.φ id = g.φ id := fun id _ => by rw [hφ]
  refine ⟨by rw [hnn]; exact h.n, fun k => ?_, fun id o ho => ?_, hf.f, h.gl.mono hg⟩
  · by_cases hk' : k = n
    · subst hk'; rw [hn]; exact .s (.undef _)
    · exact (h.e k).mono hg hn' hφ' (hk _ (by simp [hk'])) (hk _ (by simp)) (fun i => hk _ (by simp))
  · exact (h.h id o ho).mono hg hn' hφ' (by rw [h.n]; exact (List.getElem?_eq_some_iff.1 ho).1) (hk _ (by simp)) (fun i => hk _ (by simp))
theorem put_new (hd : DstOk o a) (hR : Rel M g w β st a.tmps) {xs : List D} {sz cap : Nat} {vs : List Value} {arr : Array Value} {T : TypeId} {fz : Nat × Nat} (hsz : ∀ x ∈ xs, x.cells.length = sz)
    (hr : RepDL g.pub w (xs.flatMap D.cells) vs) (harr : arr.toList.take vs.length = vs) (hcap : xs.length ≤ cap) (ha : cap * sz ≤ arr.size) (hone : ∀ u ∈ vs, u.oneCell' = true)
    (hfz : ∀ j, j < cap * sz → (decide (fz.1 ≤ j) && decide (j < fz.2)) = false) :
    ∃ g', Rel M g' (w.alloc (.cells arr T fz)) β (put o.dst (mkSl xs) st) (a.put o.dst (.slice (some ⟨w.heap.size, 0, none⟩) xs.length cap)).tmps ∧ Evo g w g' (w.alloc (.cells arr T fz)) := by
  have hf := hR.fr
  cases xs with
  | nil =>
    have hR' := hR.alloc none 0 (.cells arr T fz)
    exact ⟨_, hR'.putV hd (.s (.d _ _ (.sl0 _ _))), alloc_evo hf none 0 _⟩
  | cons x l =>
    cases hdst : o.dst with
    | none =>
      have hR' := hR.alloc none 0 (.cells arr T fz)
      exact ⟨_, by simpa [put, Act.put_tmps] using hR', alloc_evo hf none 0 _⟩
    | some d =>
      have hR' := hR.alloc (some (.slot d)) vs.length (.cells arr T fz)
      refine ⟨_, ?_, alloc_evo hf (some (.slot d)) vs.length _⟩
      rw [mkSl, put_plain (by intro cs e; cases e), Act.put_tmps]
      refine hR'.lay (hd d hdst) (.osl ?_)
      have hg := alloc_grow hf (some (.slot d)) vs.length (.cells arr T fz)
      have hb := alloc_heap_new w (.cells arr T fz)
      refine .mk (x :: l) w.heap.size 0 cap sz vs arr T fz (by simp) hsz (hr.mono hg.pub hg.cell) (fun j v hj => ?_) (by simp [Gh.withNew]) hcap hone (by simp [Gh.withNew]) hb (by simpa using ha) (fun o _ ho => ?_)
      · have hj' : j < vs.length := (List.getElem?_eq_some_iff.1 hj).1
        rw [← harr, List.getElem?_take] at hj
        simp only [hj', if_true] at hj
        have e0 : (⟨w.heap.size, 0 + j, none⟩ : Addr) = ⟨w.heap.size, j, none⟩ := by rw [Nat.zero_add]
        rw [e0]
        simp only [World.cell?, hb]
        simpa using hj
      · rw [frozen_fz hb]; exact hfz o (by simpa using ho)
theorem put_grown (hd : DstOk o a) (hR : Rel M g w β st a.tmps) {n : Nat} (hn : get n st.env = .undef) {xs ys : List D} {b off cap sz : Nat} {vs news : List Value} {arr : Array Value} {T : TypeId} {fz : Nat × Nat} (hne : xs ≠ []) (hsz : ∀ x ∈ xs, x.cells.length = sz)
    (hr : RepDL g.pub w (xs.flatMap D.cells) vs) (hc : ∀ j v, vs[j]? = some v → w.cell? ⟨b, off + j, none⟩ = some v)
    (hp : g.pub b = off + vs.length) (hone : ∀ u ∈ vs, u.oneCell' = true) (ho : g.own b = some (.slot n)) (hb : w.heap[b]? = some (.cells arr T fz)) (ha : off + cap * sz ≤ arr.size)
    (hf : ∀ o, off + vs.length ≤ o → o < off + cap * sz → w.frozen? ⟨b, o, none⟩ = false)
    (hsz2 : ∀ x ∈ ys, x.cells.length = sz) (hr2 : RepDL g.pub w (ys.flatMap D.cells) news) (hone2 : ∀ u ∈ news, u.oneCell' = true) (hcap : xs.length + ys.length ≤ cap) :
    ∃ g', Rel M g' (w.setRow b (arr.toList.take (off + vs.length) ++ news ++ arr.toList.drop (off + vs.length + news.length)).toArray) β (put o.dst (.osl (xs ++ ys)) st)
      (a.put o.dst (.slice (some ⟨b, off, none⟩) (xs.length + ys.length) cap)).tmps ∧
      Evo g w g' (w.setRow b (arr.toList.take (off + vs.length) ++ news ++ arr.toList.drop (off + vs.length + news.length)).toArray) := by
  have hlv : vs.length = xs.length * sz := by rw [← hr.length, flat_len xs _ hsz]
  have hln : news.length = ys.length * sz := by rw [← hr2.length, flat_len ys _ hsz2]
  have hmul : xs.length * sz + ys.length * sz ≤ cap * sz := by rw [← Nat.add_mul]; exact Nat.mul_le_mul_right _ hcap
  generalize hw' : w.setRow b (arr.toList.take (off + vs.length) ++ news ++ arr.toList.drop (off + vs.length + news.length)).toArray = w'
  have hlt : b < w.heap.size := (Array.getElem?_eq_some_iff.1 hb).1
  have hb' : w'.heap[b]? = some (.cells (arr.toList.take (off + vs.length) ++ news ++ arr.toList.drop (off + vs.length + news.length)).toArray T fz) := by
    rw [← hw']; exact Go.setRow_heap w b arr _ T fz hb
  have hoth : ∀ x, x ≠ b → w'.heap[x]? = w.heap[x]? := fun x hx => by rw [← hw']; exact Go.setRow_other w b x _ hx
  have hsize : w'.heap.size = w.heap.size := by rw [← hw']; simp
  have t1 : (arr.toList.take (off + vs.length)).length = off + vs.length := by simp; omega
  have hcellold : ∀ o, o < off + vs.length → w'.cell? ⟨b, o, none⟩ = w.cell? ⟨b, o, none⟩ := fun o hlt2 => by
    simp only [World.cell?, hb', hb, Option.isSome_none, Bool.false_eq_true, if_false, List.getElem?_toArray]
    rw [List.append_assoc, List.getElem?_append_left (by rw [t1]; exact hlt2), List.getElem?_take, if_pos hlt2]
    simp
  have hcellnew : ∀ j v, news[j]? = some v → w'.cell? ⟨b, off + vs.length + j, none⟩ = some v := fun j v hj => by
    simp only [World.cell?, hb', Option.isSome_none, Bool.false_eq_true, if_false, List.getElem?_toArray]
    rw [List.append_assoc, List.getElem?_append_right (by rw [t1]; omega), t1, Nat.add_sub_cancel_left, List.getElem?_append_left (List.getElem?_eq_some_iff.1 hj).1]
    exact hj
  -- the ghost: what is published grows; whose it is changes
  let G : Option Loc → Gh := fun ℓ => { g with own := fun x => if x = b then ℓ else g.own x, pub := fun x => if x = b then off + vs.length + news.length else g.pub x }
  have hgr : ∀ ℓ, Grow g w (G ℓ) w' := fun ℓ => ⟨by rw [hsize]; exact Nat.le_refl _, fun x => by
      show g.pub x ≤ (if x = b then off + vs.length + news.length else g.pub x)
      split
      · rename_i e; subst e; omega
      · exact Nat.le_refl _, fun x o hx => by
      by_cases e : x = b
      · subst e; rw [hp] at hx; exact hcellold o hx
      · exact cell_of_heap (hoth x e) o⟩
  have hkp : ∀ ℓ ℓ', ℓ' ≠ .slot n → Kept g w (G ℓ) w' ℓ' := fun ℓ ℓ' hne' => ⟨fun x hx => by
    have e : x ≠ b := fun e => by subst e; rw [ho] at hx; exact hne' (Option.some.inj hx).symm
    exact ⟨by simp [G, e, hx], hoth x e, by simp [G, e]⟩⟩
  have hev : ∀ ℓ, Evo g w (G ℓ) w' := fun ℓ => ⟨hgr ℓ, Nat.le_refl _, fun _ _ => rfl, fun x _ hx => by
    have e : x ≠ b := fun e => by
      subst e; rw [ho] at hx
      rcases hx with h | h
      · cases h
      · cases h
    exact ⟨by simp [G, e], hoth x e, by simp [G, e]⟩, by rw [← hw']; exact ⟨rfl, rfl⟩⟩
  have hfr : ∀ ℓ, Fresh (G ℓ) w' := fun ℓ => ⟨fun x hx => by
    have e : x ≠ b := by rw [hsize] at hx; omega
    have := hR.fr.f x (by rw [← hsize]; exact hx)
    simpa [G, e] using this⟩
  have hrel : ∀ ℓ, Rel M (G ℓ) w' β st a.tmps := fun ℓ => hR.others hn (hgr ℓ) rfl rfl (hkp ℓ) (hfr ℓ)
  rw [put_plain (by intro cs e; cases e), Act.put_tmps]
  cases hdst : o.dst with
  | none => exact ⟨G none, hrel none, hev none⟩
  | some d =>
    refine ⟨G (some (.slot d)), (hrel _).lay (hd d hdst) (.osl ?_), hev _⟩
    have := OwnSl.mk (g := G (some (.slot d))) (w := w') (ℓ := .slot d) (xs ++ ys) b off cap sz (vs ++ news) _ T fz (by simp [hne]) (fun x hx => by
        rcases List.mem_append.1 hx with h | h
        · exact hsz x h
        · exact hsz2 x h) (by rw [List.flatMap_append]; exact (hr.append hr2).mono (hgr (some (.slot d))).pub (hgr (some (.slot d))).cell) (fun j v hj => by
        rw [List.getElem?_append] at hj
        split at hj
        · rename_i hlt2
          rw [hcellold _ (by omega)]; exact hc j v hj
        · rename_i hge
          have := hcellnew _ v hj
          rwa [show off + vs.length + (j - vs.length) = off + j by omega] at this) (by simp [G]; omega) (by simpa using hcap) (fun u hu => by
        rcases List.mem_append.1 hu with h | h
        · exact hone u h
        · exact hone2 u h) (by simp [G]) hb' (by simp; omega) (fun o h1 h2 => by
        rw [frozen_fz hb', ← frozen_fz hb]; exact hf o (by simp at h1; omega) h2)
    simpa using this
end
end W

/-
  Slices that grow.
-/
set_option linter.unusedSimpArgs false
set_option linter.unusedVariables false
namespace W
open Go (World Value Addr IntKind Program TypeId FuncId Operand Act Oper Next Result Sem BinOp UnOp)
section
variable {P : Program} {M : Maps} {g : Gh} {w : World} {β : Nat → Nat} {st : St} {o : Oper} {a : Act}
structure Src (P : Program) (g : Gh) (w : World) (size : Nat) (c : Value) (ys : List D) (news : List Value) : Prop where
  len : ∀ w', (Go.Builtin.lenOf c).run P w' = .ok ys.length w'
  cells : ∀ w', SameMem w w' → (Go.Builtin.firstCells size ys.length c).run P w' = .ok news.toArray w'
  rep : RepDL g.pub w (ys.flatMap D.cells) news
  one : ∀ u ∈ news, u.oneCell' = true
  sz : ∀ x ∈ ys, x.cells.length = size
theorem src_nil (size : Nat) : Src P g w size (.slice none 0 0) [] [] :=
  ⟨fun _ => rfl, fun _ _ => rfl, .nil, by simp, by simp⟩
theorem src_slice {ys : List D} {c : Value} {size : Nat} (h : RepD g.pub w (.sl ys) c) (hh : headIs size ys = true) : ∃ news, Src P g w size c ys news := by
  cases h with
  | sl0 ad cap => exact ⟨[], fun _ => rfl, fun w' hw => by simp [Go.Builtin.firstCells, Go.loadCells, Go.loadCellsFrom], .nil, by simp, by simp⟩
  | sl _ b off cap sz vs hne hs hrep hcell hpub hcap hone =>
    have hsz := headIs_sz hh hne hs
    subst hsz
    refine ⟨vs, fun _ => rfl, fun w' hw => ?_, hrep, hone, hs⟩
    refine Go.run_firstCells_some (P := P) w' sz ys.length _ _ _ vs (by rw [← hrep.length, flat_len ys _ hs]) (fun j v hj => ?_)
    rw [add_none]
    have := hcell j v hj
    simpa only [World.cell?, hw.heap] using this
theorem src_text {z : ByteArray} : Src P g w 1 (.string z) ((z.data.toList.map (·.toNat)).map fun n : Nat => D.i .u8 n) (z.data.toList.map fun b => Value.int .u8 b.toNat) := by
  have hn : ((z.data.toList.map (·.toNat)).map fun n : Nat => D.i .u8 n).length = z.size := by simp
  refine ⟨fun w' => ?_, fun w' hw => ?_, ?_, fun u hu => ?_, fun x hx => ?_⟩
  · rw [hn]; rfl
  · rw [hn]
    simp only [Go.Builtin.firstCells, Sem.run_pure]
    congr 1
    have : z.extract 0 z.size = z := by
      apply ByteArray.ext
      rw [ByteArray.data_extract]
      exact Array.extract_size
    rw [this]
    apply Array.ext'
    simp
  · generalize z.data.toList = l
    induction l with
    | nil => exact .nil
    | cons b l ih => exact .cons _ _ _ _ (.i _ _) ih
  · simp only [List.mem_map] at hu
    obtain ⟨b, _, rfl⟩ := hu
    rfl
  · simp only [List.mem_map] at hx
    obtain ⟨b, _, rfl⟩ := hx
    rfl
def AppT (P : Program) (u : TypeId) : Prop := P.underlying u = some .string ∨ ∃ e, P.underlying u = some (.slice e)
theorem run_app_room {t u ty e : TypeId} {i : Go.TypeInfo} (ht : P.underlying t = some (.slice e)) (hu : AppT P u) (hi : P.info? e = some i) {c : Value} {ys : List D} {news : List Value} (hs : Src P g w i.size c ys news)
    {b off sLen sCap : Nat} (hroom : sLen + ys.length ≤ sCap) {w' : World} (hst : (Go.storeCells ⟨b, off + sLen * i.size, none⟩ news).run P w = .ok () w') :
    (Go.Builtin.append_ #[t, u] ty #[.slice (some ⟨b, off, none⟩) sLen sCap, c]).run P w = .ok (.slice (some ⟨b, off, none⟩) (sLen + ys.length) sCap) w' := by
  have h1 := hs.len w
  have h2 := hs.cells w (SameMem.refl w)
  rcases hu with hu | ⟨e', hu⟩ <;>
  simp [Go.Builtin.append_, Go.run_underlying ht, Go.run_underlying hu, Go.sizeOf, Go.typeInfo, hi, h1, h2, hroom, add_none, hst]
theorem run_app_room0 {t u ty e : TypeId} {i : Go.TypeInfo} (ht : P.underlying t = some (.slice e)) (hu : AppT P u) (hi : P.info? e = some i) {c : Value} (hs : Src P g w i.size c [] [])
    {ad : Addr} {n : Nat} : (Go.Builtin.append_ #[t, u] ty #[.slice (some ad) n n, c]).run P w = .ok (.slice (some ad) n n) w := by
  have h1 := hs.len w
  have h2 := hs.cells w (SameMem.refl w)
  have hst : ∀ x, (Go.storeCells x []).run P w = .ok () w := fun x => rfl
  simp only [List.length_nil] at h1 h2
  rcases hu with hu | ⟨e', hu⟩ <;>
  simp [Go.Builtin.append_, Go.run_underlying ht, Go.run_underlying hu, Go.sizeOf, Go.typeInfo, hi, h1, h2, hst]
theorem run_app_nil0 {t u ty e : TypeId} {i : Go.TypeInfo} (ht : P.underlying t = some (.slice e)) (hu : AppT P u) (hi : P.info? e = some i) {c : Value} {news : List Value} (hs : Src P g w i.size c [] news) :
    (Go.Builtin.append_ #[t, u] ty #[.slice none 0 0, c]).run P w = .ok (.slice none 0 0) w := by
  have h1 := hs.len w
  have h2 := hs.cells w (SameMem.refl w)
  simp only [List.length_nil] at h1 h2
  rcases hu with hu | ⟨e', hu⟩ <;>
  simp [Go.Builtin.append_, Go.run_underlying ht, Go.run_underlying hu, Go.sizeOf, Go.typeInfo, hi, h1, h2]
theorem run_app_grow {t u ty e : TypeId} {i : Go.TypeInfo} {z : Value} (ht : P.underlying t = some (.slice e)) (hu : AppT P u) (hi : P.info? e = some i) (hz : i.zero = some z) {c : Value} {ys : List D} {news : List Value} (hs : Src P g w i.size c ys news)
    {base : Option Addr} {sLen sCap : Nat} {olds : List Value} (hold : (Go.Builtin.firstCells i.size sLen (.slice base sLen sCap)).run P w.drew = .ok olds.toArray w.drew)
    (hg : sCap < sLen + ys.length) (hroomy : roomy i.bytes (sLen + ys.length) = true) :
    (Go.Builtin.append_ #[t, u] ty #[.slice base sLen sCap, c]).run P w =
      .ok (.slice (some ⟨w.heap.size, 0, none⟩) (sLen + ys.length) (Go.grownCap w (sLen + ys.length) sCap e))
        (w.drew.alloc (.cells (olds.toArray ++ news.toArray ++ Go.Builtin.zeroCells z.cells (Go.grownCap w (sLen + ys.length) sCap e - (sLen + ys.length))) e)) := by
  simp only [roomy, Bool.and_eq_true] at hroomy
  have hb1 := Nat.le_of_ble_eq_true hroomy.1
  have hb2 := Nat.le_of_ble_eq_true hroomy.2
  have h1 := hs.len w
  have h2 := hs.cells w.drew ⟨rfl, rfl, rfl⟩
  have hn : ¬ (sLen + ys.length ≤ sCap) := by omega
  have h63' : ¬ (9223372036854775807 < ((sLen : Int) + (ys.length : Int))) := by omega
  have hfit := Go.growslice_fits hg hb1
  have h48' : ¬ (281474976710656 < Go.Builtin.nextslicecap (sLen + ys.length) sCap * i.bytes) := by omega
  rcases hu with hu | ⟨e', hu⟩ <;>
  · simp [Go.Builtin.append_, Go.run_underlying ht, Go.run_underlying hu, Go.sizeOf, Go.typeInfo, Go.zeroValue, hi, hz, h1, hn, h63', h48', Go.Question.forced, h2, hold, Go.newRow, Go.grownCap]
    try (congr 2; apply Array.ext'; simp [List.append_assoc])
theorem run_append {c : Go.Call} {args : List Operand} {ats : List TypeId} {x y : Operand} {s u : TypeId} (ho : o.op = .call c) (hcal : c.callee = .builtin .append) (hargs : c.args.toList = [x, y]) (hats : c.argTypes.toList = [s, u]) {v : Value} {w' : World}
    (h : ∀ ty, (Go.Builtin.append_ #[s, u] ty #[a.eval x, a.eval y]).run P w = .ok v w') : (Go.execOp a.eval o).run P w = .ok (.value v) w' := by
  obtain ⟨cal, cargs, cats⟩ := c
  simp only at hcal hargs hats
  subst hcal
  have e1 : cargs = #[x, y] := Array.ext' hargs
  have e2 : cats = #[s, u] := Array.ext' hats
  subst e1; subst e2
  simp only [Go.execOp, ho, Go.resolve, Go.invoke, Go.builtin, Sem.run_bind, Sem.run_pure, Result.andThen_ok]
  simp [h]
theorem opnds_two {x' y' : O} {f : Nat → Bool} {args : List Operand} (h : opnds M f 0 args = some [x', y']) : ∃ x y, args = [x, y] ∧ opnd M (f 0) x = some x' ∧ opnd M (f 1) y = some y' := by
  cases args with
  | nil => simp [opnds] at h
  | cons x l =>
    simp only [opnds] at h
    split at h
    · rename_i z r hz hr
      simp only [Option.some.injEq, List.cons.injEq] at h
      obtain ⟨rfl, rfl⟩ := h
      cases l with
      | nil => simp [opnds] at hr
      | cons y l =>
        simp only [opnds] at hr
        split at hr
        · rename_i z2 r2 hz2 hr2
          simp only [Option.some.injEq, List.cons.injEq] at hr
          obtain ⟨rfl, rfl⟩ := hr
          cases l with
          | nil => exact ⟨x, y, rfl, hz, hz2⟩
          | cons q l =>
            simp only [opnds] at hr2
            split at hr2 <;> simp at hr2
        · cases hr
    · cases h
theorem grown_cells (w : World) {z : Value} {i : Go.TypeInfo} (hzs : z.cells.size = i.size) (need old : Nat) (e : TypeId) {all : List Value} (hl : all.length = need * i.size) :
    Go.grownCap w need old e * i.size ≤ (all.toArray ++ Go.Builtin.zeroCells z.cells (Go.grownCap w need old e - need)).size := by
  have hge := Go.grownCap_ge w need old e
  simp only [Array.size_append, List.size_toArray, Go.size_zeroCells, hzs, hl, ← Nat.add_mul]
  exact Nat.mul_le_mul_right _ (by omega)
theorem no_frozen (n : Nat) : ∀ j, j < n → (decide (((0, 0) : Nat × Nat).1 ≤ j) && decide (j < ((0, 0) : Nat × Nat).2)) = false := fun j _ => by simp
def nilApp (ys : List D) : V := match ys with | [] => .d .nil | _ => .osl ys
theorem app_new (hd : DstOk o a) (hR : Rel M g w β st a.tmps) {t u e : TypeId} {i : Go.TypeInfo} {z : Value} (ht : P.underlying t = some (.slice e)) (hu : AppT P u) (hi : P.info? e = some i) (hz : i.zero = some z) (hzs : z.cells.size = i.size)
    {x y : Operand} {c : Go.Call} (ho : o.op = .call c) (hcal : c.callee = .builtin .append) (hargs : c.args.toList = [x, y]) (hats : c.argTypes.toList = [t, u])
    {ys : List D} {news : List Value} (hs : Src P g w i.size (a.eval y) ys news) (hx : a.eval x = .slice none 0 0) (hroomy : roomy i.bytes ys.length = true) {r : Or}
    (hr : ok (nilApp ys) st = some r) : Left1 P M g w o a r := by
  cases hys : ys with
  | nil =>
    subst hys
    exact left_pure hd hR (.s (.d _ _ .nil)) (run_append (args := []) (ats := []) ho hcal hargs hats (fun ty => by rw [hx]; exact run_app_nil0 ht hu hi hs)) hr
  | cons y0 l =>
    have hne : ys ≠ [] := by rw [hys]; simp
    have e1 : nilApp ys = mkSl ys := by rw [hys]; rfl
    rw [e1] at hr
    simp only [ok, Option.some.injEq] at hr
    subst hr
    have hpos : 0 < ys.length := by rw [hys]; simp
    have hrun := run_app_grow (ty := 0) ht hu hi hz hs (base := none) (sLen := 0) (sCap := 0) (olds := []) rfl (by omega) (by rw [Nat.zero_add]; exact hroomy)
    simp only [Nat.zero_add, List.append_nil, Array.empty_append] at hrun
    have hsm : SameMem w w.drew := ⟨rfl, rfl, rfl⟩
    have hR' := hR.sameMem hsm
    have hln : news.length = ys.length * i.size := by rw [← hs.rep.length, flat_len ys _ hs.sz]
    obtain ⟨g', h1, h2⟩ := put_new (T := e) (fz := (0, 0)) (arr := news.toArray ++ Go.Builtin.zeroCells z.cells (Go.grownCap w ys.length 0 e - ys.length)) hd hR' hs.sz (hs.rep.mono (hsm.grow g).pub (hsm.grow g).cell)
      (by simp) (Go.grownCap_ge w ys.length 0 e) (grown_cells w hzs _ _ _ hln) hs.one (no_frozen _)
    refine ⟨_, _, g', β, .value (run_append (args := []) (ats := []) ho hcal hargs hats (fun ty => ?_)), h1, (hsm.evo g).trans h2⟩
    rw [hx]
    have hrun' := run_app_grow (ty := ty) ht hu hi hz hs (base := none) (sLen := 0) (sCap := 0) (olds := []) rfl (by omega) (by rw [Nat.zero_add]; exact hroomy)
    simpa using hrun'
theorem app_full0 (hd : DstOk o a) (hR1 : Rel M g w β st a.tmps) {t u e : TypeId} {i : Go.TypeInfo} {z : Value} (ht : P.underlying t = some (.slice e)) (hu : AppT P u) (hi : P.info? e = some i)
    {x y : Operand} {c : Go.Call} (ho : o.op = .call c) (hcal : c.callee = .builtin .append) (hargs : c.args.toList = [x, y]) (hats : c.argTypes.toList = [t, u])
    (hs : Src P g w i.size (a.eval y) [] []) {xs : List D} {ad : Addr} (hxe : a.eval x = .slice (some ad) xs.length xs.length) (h : RepD g.pub w (.sl xs) (.slice (some ad) xs.length xs.length)) :
    Left1 P M g w o a ⟨false, true, .osl xs, st⟩ := by
  refine ⟨_, w, g, β, .value (run_append (args := []) (ats := []) ho hcal hargs hats (fun ty => ?_)), hR1.putFull hd (fun ℓ => .full xs ad h), Evo.refl g w⟩
  rw [hxe]
  exact run_app_room0 ht hu hi hs
theorem app_full1 (hd : DstOk o a) (hR1 : Rel M g w β st a.tmps) {t u e : TypeId} {i : Go.TypeInfo} {z : Value} (ht : P.underlying t = some (.slice e)) (hu : AppT P u) (hi : P.info? e = some i) (hz : i.zero = some z) (hzs : z.cells.size = i.size)
    {x y : Operand} {c : Go.Call} (ho : o.op = .call c) (hcal : c.callee = .builtin .append) (hargs : c.args.toList = [x, y]) (hats : c.argTypes.toList = [t, u])
    {ys : List D} {news : List Value} (hs : Src P g w i.size (a.eval y) ys news) (hypos : 0 < ys.length) {xs : List D} {ad : Addr} (hxe : a.eval x = .slice (some ad) xs.length xs.length) (h : RepD g.pub w (.sl xs) (.slice (some ad) xs.length xs.length))
    (hh : headIs i.size xs = true) (hroomy : roomy i.bytes (xs.length + ys.length) = true) :
    Left1 P M g w o a ⟨false, true, .osl (xs ++ ys), st⟩ := by
  have hsm : SameMem w w.drew := ⟨rfl, rfl, rfl⟩
  have hR' := hR1.sameMem hsm
  have hlen : (xs ++ ys).length = xs.length + ys.length := by simp
  obtain ⟨vs, hvsz, hrep, hlv, hone, hold⟩ : ∃ vs : List Value, (∀ x ∈ xs, x.cells.length = i.size) ∧ RepDL g.pub w (xs.flatMap D.cells) vs ∧ vs.length = xs.length * i.size ∧ (∀ u ∈ vs, u.oneCell' = true) ∧
      ∀ w', SameMem w w' → (Go.Builtin.firstCells i.size xs.length (.slice (some ad) xs.length xs.length)).run P w' = .ok vs.toArray w' := by
    cases h with
    | sl0 =>
      refine ⟨[], fun x hx => by simp at hx, .nil, by simp, fun u hu => by simp at hu, fun w' hw => ?_⟩
      exact Go.run_firstCells_some (P := P) w' i.size 0 _ _ _ [] (by simp) (fun j v hj => by simp at hj)
    | sl _ b off cap sz vs hne hsz hrep hc hp hcap hone =>
      have hsz' := headIs_sz hh hne hsz
      subst hsz'
      have hlv : vs.length = xs.length * i.size := by rw [← hrep.length, flat_len xs _ hsz]
      exact ⟨vs, hsz, hrep, hlv, hone, fun w' hw => Go.run_firstCells_some (P := P) w' i.size xs.length _ _ _ vs hlv (fun j v hj => by
        rw [add_none]
        have := hc j v hj
        simpa only [World.cell?, hw.heap] using this)⟩
  have hln : news.length = ys.length * i.size := by rw [← hs.rep.length, flat_len ys _ hs.sz]
  have hlall : (vs ++ news).length = (xs.length + ys.length) * i.size := by rw [List.length_append, hlv, hln, Nat.add_mul]
  have hgc := grown_cells w hzs (xs.length + ys.length) xs.length e hlall
  obtain ⟨g', h1, h2⟩ := put_new (xs := xs ++ ys) (sz := i.size) (vs := vs ++ news) (T := e) (fz := (0, 0)) (arr := vs.toArray ++ news.toArray ++ Go.Builtin.zeroCells z.cells (Go.grownCap w (xs.length + ys.length) xs.length e - (xs.length + ys.length)))
    (cap := Go.grownCap w (xs.length + ys.length) xs.length e) hd hR' (fun q hq => by
      rcases List.mem_append.1 hq with h | h
      · exact hvsz q h
      · exact hs.sz q h) (by rw [List.flatMap_append]; exact (hrep.append hs.rep).mono (hsm.grow g).pub (hsm.grow g).cell)
    (by simp only [Array.toList_append]; exact List.take_left) (by rw [hlen]; exact Go.grownCap_ge w _ xs.length e) (by simpa using hgc) (fun q hq => by
      rcases List.mem_append.1 hq with h | h
      · exact hone q h
      · exact hs.one q h) (no_frozen _)
  have e2 : mkSl (xs ++ ys) = .osl (xs ++ ys) := by
    cases hxy : xs ++ ys with
    | nil => simp at hxy; rw [hxy.2] at hypos; simp at hypos
    | cons q l => rfl
  rw [e2, hlen] at h1
  refine ⟨_, _, g', β, .value (run_append (args := []) (ats := []) ho hcal hargs hats (fun ty => ?_)), h1, (hsm.evo g).trans h2⟩
  rw [hxe]
  exact run_app_grow ht hu hi hz hs (hold _ hsm) (by omega) hroomy
theorem app_full (hd : DstOk o a) (hR1 : Rel M g w β st a.tmps) {t u e : TypeId} {i : Go.TypeInfo} {z : Value} (ht : P.underlying t = some (.slice e)) (hu : AppT P u) (hi : P.info? e = some i) (hz : i.zero = some z) (hzs : z.cells.size = i.size)
    {x y : Operand} {c : Go.Call} (ho : o.op = .call c) (hcal : c.callee = .builtin .append) (hargs : c.args.toList = [x, y]) (hats : c.argTypes.toList = [t, u])
    {ys : List D} {news : List Value} (hs : Src P g w i.size (a.eval y) ys news) {xs : List D} {ad : Addr} (hxe : a.eval x = .slice (some ad) xs.length xs.length) (h : RepD g.pub w (.sl xs) (.slice (some ad) xs.length xs.length))
    (hh : headIs i.size xs = true) (hroomy : roomy i.bytes (xs.length + ys.length) = true) :
    Left1 P M g w o a ⟨false, true, .osl (xs ++ ys), st⟩ := by
  cases ys with
  | nil =>
    have hnews : news = [] := by
      have := hs.rep.length
      simp at this
      exact List.eq_nil_of_length_eq_zero this.symm
    subst hnews
    rw [List.append_nil]
    exact app_full0 (z := z) hd hR1 ht hu hi ho hcal hargs hats hs hxe h
  | cons y0 ys => exact app_full1 hd hR1 ht hu hi hz hzs ho hcal hargs hats hs (by simp) hxe h hh hroomy
theorem app_own (hd : DstOk o a) (hR : Rel M g w β st a.tmps) {t u e : TypeId} {i : Go.TypeInfo} {z : Value} (ht : P.underlying t = some (.slice e)) (hu : AppT P u) (hi : P.info? e = some i) (hz : i.zero = some z) (hzs : z.cells.size = i.size)
    {x y : Operand} {c : Go.Call} (ho : o.op = .call c) (hcal : c.callee = .builtin .append) (hargs : c.args.toList = [x, y]) (hats : c.argTypes.toList = [t, u])
    {ys : List D} {news : List Value} (hs : Src P g w i.size (a.eval y) ys news) {n : Nat} {xs : List D} (hx : OwnSl g w (.slot n) xs (a.eval x)) (hh : headIs i.size xs = true) (hroomy : roomy i.bytes (xs.length + ys.length) = true) {r : Or}
    (hr : ok (.osl (xs ++ ys)) { st with env := (n, .undef) :: st.env } = some r) : Left1 P M g w o a r := by
  simp only [ok, Option.some.injEq] at hr
  subst hr
  generalize hxe : a.eval x = xc at hx
  have hR1 := hR.drop n
  cases hx with
  | full ad h =>
    exact app_full hd hR1 ht hu hi hz hzs ho hcal hargs hats hs hxe h hh hroomy
  | mk b off cap sz vs arr T fz hne hsz hrep hc hp hcap hone ho' hb ha hf =>
    have hsz' := headIs_sz hh hne hsz
    subst hsz'
    have hlv : vs.length = xs.length * i.size := by rw [← hrep.length, flat_len xs _ hsz]
    have hln : news.length = ys.length * i.size := by rw [← hs.rep.length, flat_len ys _ hs.sz]
    by_cases hroom : xs.length + ys.length ≤ cap
    · obtain ⟨g', h1, h2⟩ := put_grown hd hR1 (n := n) (by simp [get_cons]) hne hsz hrep hc hp hone ho' hb ha hf hs.sz hs.rep hs.one hroom
      have hmul : xs.length * i.size + ys.length * i.size ≤ cap * i.size := by rw [← Nat.add_mul]; exact Nat.mul_le_mul_right _ hroom
      have hst := run_storeCells_free P b (off + xs.length * i.size) T fz news 0 arr w hb (fun j h1 h2 => by rw [← frozen_fz hb]; exact hf j (by omega) (by omega)) (by omega) hs.one
      simp only [Nat.add_zero] at hst
      rw [← hlv] at hst
      refine ⟨_, _, g', β, .value (run_append (args := []) (ats := []) ho hcal hargs hats (fun ty => ?_)), h1, h2⟩
      rw [hxe]
      exact run_app_room ht hu hi hs hroom (by rw [← hlv]; exact hst)
    · have hold : ∀ w', SameMem w w' → (Go.Builtin.firstCells i.size xs.length (.slice (some ⟨b, off, none⟩) xs.length cap)).run P w' = .ok vs.toArray w' := fun w' hw =>
        Go.run_firstCells_some (P := P) w' i.size xs.length _ _ _ vs hlv (fun j v hj => by
          rw [add_none]
          have := hc j v hj
          simpa only [World.cell?, hw.heap] using this)
      have hsm : SameMem w w.drew := ⟨rfl, rfl, rfl⟩
      have hR' := hR1.sameMem hsm
      have hlen : (xs ++ ys).length = xs.length + ys.length := by simp
      have hlall : (vs ++ news).length = (xs.length + ys.length) * i.size := by rw [List.length_append, hlv, hln, Nat.add_mul]
      have hgc := grown_cells w hzs (xs.length + ys.length) cap e hlall
      obtain ⟨g', h1, h2⟩ := put_new (xs := xs ++ ys) (sz := i.size) (vs := vs ++ news) (T := e) (fz := (0, 0)) (arr := vs.toArray ++ news.toArray ++ Go.Builtin.zeroCells z.cells (Go.grownCap w (xs.length + ys.length) cap e - (xs.length + ys.length)))
        (cap := Go.grownCap w (xs.length + ys.length) cap e) hd hR' (fun q hq => by
          rcases List.mem_append.1 hq with h | h
          · exact hsz q h
          · exact hs.sz q h) (by rw [List.flatMap_append]; exact (hrep.append hs.rep).mono (hsm.grow g).pub (hsm.grow g).cell)
        (by simp only [Array.toList_append]; exact List.take_left) (by rw [hlen]; exact Go.grownCap_ge w _ cap e) (by simpa using hgc) (fun q hq => by
          rcases List.mem_append.1 hq with h | h
          · exact hone q h
          · exact hs.one q h) (no_frozen _)
      have e2 : mkSl (xs ++ ys) = .osl (xs ++ ys) := by
        cases xs with
        | nil => exact absurd rfl hne
        | cons q l => rfl
      rw [e2, hlen] at h1
      refine ⟨_, _, g', β, .value (run_append (args := []) (ats := []) ho hcal hargs hats (fun ty => ?_)), h1, (hsm.evo g).trans h2⟩
      rw [hxe]
      exact run_app_grow ht hu hi hz hs (hold _ hsm) (by omega) hroomy
end
end W

/-
  'append'; values built of parts; slices built of parts; texts and their bytes.
-/
set_option linter.unusedSimpArgs false
set_option linter.unusedVariables false
namespace W
open Go (World Value Addr IntKind Program TypeId FuncId Operand Act Oper Next Result Sem BinOp UnOp)
section
variable {P : Program} {M : Maps} {g : Gh} {w : World} {β : Nat → Nat} {st : St} {o : Oper} {a : Act}
theorem sim_append (hd : DstOk o a) (hR : Rel M g w β st a.tmps) {c : Go.Call} (hcal : c.callee = .builtin .append) {t u e : TypeId} (hats : c.argTypes.toList = [t, u]) (ht : P.underlying t = some (.slice e)) (hu : AppT P u)
    {i : Go.TypeInfo} (hi : P.info? e = some i) {zd : D} (hz : zeroD P e = some zd) (hzl : zd.cells.length = i.size) {m : Bool} {x' y' : O} (hx : opnds M (fun k => k == 0 && m) 0 c.args.toList = some [x', y'])
    (ho : o.op = .call c) {r : Or} (hr : eAppend i.size i.bytes x' y' st = some r) : Left1 P M g w o a r := by
  obtain ⟨x, y, hargs, hx1, hy1⟩ := opnds_two hx
  obtain ⟨i2, z, hi2, hzz, hzd⟩ := zeroD_inv hz
  rw [hi] at hi2
  cases hi2
  have hzs : z.cells.size = i.size := by
    have := (toD_rep g.pub w z zd hzd).cells.length
    rw [hzl] at this
    simpa using this.symm
  have hX := rdm_rep hR hx1
  have hY : RepV M g w β (rd st.env y') (a.eval y) := rd_rep hR (by simpa using hy1)
  unfold eAppend at hr
  split at hr
  · rename_i v hv
    have hone : ∀ {n : Nat} {xs : List D} {c' : Value}, RepV M g w β (.osl xs) c' → False := by
      intro n xs c' h
      cases h with
      | s h => cases h
    unfold appendV at hv
    split at hv
    · -- nil, nil
      rename_i hz1 hz2
      rw [hz1] at hX; rw [hz2] at hY
      have hs : Src P g w i.size (a.eval y) [] [] := by
        have := hY.inv_d
        generalize a.eval y = cc at this
        cases this; exact src_nil _
      have hxe : a.eval x = .slice none 0 0 := by
        generalize a.eval x = cc at hX
        cases hX with
        | v h => have := h.inv_d; cases this; rfl
      cases hv
      exact app_new hd (hR.spent x') ht hu hi hzz hzs ho hcal hargs hats hs hxe (by simp [roomy]) hr
    · -- nil, slice
      rename_i ys hz1 hz2
      rw [hz1] at hX; rw [hz2] at hY
      have hxe : a.eval x = .slice none 0 0 := by
        generalize a.eval x = cc at hX
        cases hX with
        | v h => have := h.inv_d; cases this; rfl
      cases hc : (headIs i.size ys && roomy i.bytes ys.length) with
      | false => simp [hc] at hv
      | true =>
        simp only [hc, cond_true, Option.some.injEq] at hv
        simp only [Bool.and_eq_true] at hc
        obtain ⟨news, hs⟩ := src_slice (P := P) hY.inv_d hc.1
        have hv' : nilApp ys = v := by rw [← hv]; rfl
        rw [← hv'] at hr
        exact app_new hd (hR.spent x') ht hu hi hzz hzs ho hcal hargs hats hs hxe hc.2 hr
    · -- nil, text
      rename_i ys hz1 hz2
      rw [hz1] at hX; rw [hz2] at hY
      have hxe : a.eval x = .slice none 0 0 := by
        generalize a.eval x = cc at hX
        cases hX with
        | v h => have := h.inv_d; cases this; rfl
      cases hc : (Nat.beq i.size 1 && roomy i.bytes ys.length) with
      | false => simp [hc] at hv
      | true =>
        simp only [hc, cond_true, Option.some.injEq] at hv
        simp only [Bool.and_eq_true] at hc
        have h1 := Nat.eq_of_beq_eq_true hc.1
        obtain ⟨zb, e1, f1⟩ := repD_s hY.inv_d
        have hs : Src P g w i.size (a.eval y) ((zb.data.toList.map (·.toNat)).map fun n : Nat => D.i .u8 n) (zb.data.toList.map fun b => Value.int .u8 b.toNat) := by rw [h1, e1]; exact src_text
        rw [f1] at hs
        have hv' : nilApp (ys.map fun n : Nat => D.i .u8 n) = v := by rw [← hv]; cases ys <;> rfl
        rw [← hv'] at hr
        exact app_new hd (hR.spent x') ht hu hi hzz hzs ho hcal hargs hats hs hxe (by simpa using hc.2) hr
    · -- own, nil
      rename_i xs hz1 hz2
      rw [hz1] at hX; rw [hz2] at hY
      simp only [Option.some.injEq] at hv
      subst hv
      have hs : Src P g w i.size (a.eval y) [] [] := by
        have := hY.inv_d
        generalize a.eval y = cc at this
        cases this; exact src_nil _
      cases hX with
      | v h => exact absurd h (fun h => hone (n := 0) h)
      | own h =>
        rename_i n
        simp only [ok, Option.some.injEq] at hr
        subst hr
        obtain ⟨g', h1, h2⟩ := (hR.drop n).putOwn hd (by simp [get_cons]) h
        refine ⟨a.eval x, w, g', β, .value (run_append (args := []) (ats := []) ho hcal hargs hats (fun ty => ?_)), h1, h2⟩
        cases hxe : a.eval x with
        | slice base n' cap =>
          rw [hxe] at h
          cases h with
          | mk b off cap' sz vs arr T fz hne hsz hrep hc hp hcap hone ho' hb ha hf =>
            exact run_app_room (ys := []) ht hu hi hs (by simpa using hcap) rfl
          | full ad h => exact run_app_room0 ht hu hi hs
        | _ => rw [hxe] at h; cases h
    · -- own, slice
      rename_i xs ys hz1 hz2
      rw [hz1] at hX; rw [hz2] at hY
      cases hc : (headIs i.size xs && headIs i.size ys && roomy i.bytes (xs.length + ys.length)) with
      | false => simp [hc] at hv
      | true =>
        simp only [hc, cond_true, Option.some.injEq] at hv
        simp only [Bool.and_eq_true] at hc
        obtain ⟨news, hs⟩ := src_slice (P := P) hY.inv_d hc.1.2
        subst hv
        cases hX with
        | v h => exact absurd h (fun h => hone (n := 0) h)
        | own h => exact app_own hd hR ht hu hi hzz hzs ho hcal hargs hats hs h hc.1.1 hc.2 hr
    · -- own, text
      rename_i xs ys hz1 hz2
      rw [hz1] at hX; rw [hz2] at hY
      cases hc : (headIs i.size xs && Nat.beq i.size 1 && roomy i.bytes (xs.length + ys.length)) with
      | false => simp [hc] at hv
      | true =>
        simp only [hc, cond_true, Option.some.injEq] at hv
        simp only [Bool.and_eq_true] at hc
        have h1 := Nat.eq_of_beq_eq_true hc.1.2
        obtain ⟨zb, e1, f1⟩ := repD_s hY.inv_d
        have hs : Src P g w i.size (a.eval y) ((zb.data.toList.map (·.toNat)).map fun n : Nat => D.i .u8 n) (zb.data.toList.map fun b => Value.int .u8 b.toNat) := by rw [h1, e1]; exact src_text
        rw [f1] at hs
        subst hv
        cases hX with
        | v h => exact absurd h (fun h => hone (n := 0) h)
        | own h => exact app_own hd hR ht hu hi hzz hzs ho hcal hargs hats hs h hc.1.1 (by simpa using hc.2) hr
    · cases hv
  · cases hr
end
end W

/-
  Values and slices built of parts; texts and their bytes; rows that are made.
-/
set_option linter.unusedSimpArgs false
set_option linter.unusedVariables false
namespace W
open Go (World Value Addr IntKind Program TypeId FuncId Operand Act Oper Next Result Sem BinOp UnOp)
inductive All2 {α β : Type} (R : α → β → Prop) : List α → List β → Prop
  | nil : All2 R [] []
  | cons {x : α} {y : β} {l : List α} {r : List β} (h : R x y) (hl : All2 R l r) : All2 R (x :: l) (y :: r)
theorem fold_splice (off : Nat) (v : Value) (cs : Array Value) (h : off + v.cells.size ≤ cs.size) :
    (v.cells.zipIdx.foldl (fun cs (x : Value × Nat) => cs.setIfInBounds (off + x.2) x.1) cs).toList = cs.toList.take off ++ v.cells.toList ++ cs.toList.drop (off + v.cells.toList.length) := by
  have e : v.cells.zipIdx.foldl (fun cs (x : Value × Nat) => cs.setIfInBounds (off + x.2) x.1) cs = (v.cells.toList.zipIdx 0).foldl (fun cs (x : Value × Nat) => cs.setIfInBounds (off + x.2) x.1) cs := by
    rw [← Array.foldl_toList, Array.toList_zipIdx]
  rw [e]
  obtain ⟨h1, h2⟩ := Go.Great.foldl_set off v.cells.toList 0 cs
  apply List.ext_getElem?
  intro k
  rw [Array.getElem?_toList, h2 k, List.append_assoc, List.getElem?_append]
  have t1 : (cs.toList.take off).length = off := by simp; omega
  rw [t1]
  split
  · rename_i hin
    rw [if_neg (by omega), List.getElem?_append_left (by omega)]
    simp
  · rename_i hout
    split
    · rename_i hlt
      rw [List.getElem?_take, if_pos hlt]; simp
    · rename_i hge
      by_cases hk : k - off < v.cells.toList.length
      · exfalso
        have : k < cs.size := by simp at hk; omega
        exact hout ⟨by omega, by omega, this⟩
      · rw [List.getElem?_append_right (by omega), List.getElem?_drop]
        have : off + v.cells.toList.length + (k - off - v.cells.toList.length) = k := by omega
        rw [this]; simp
theorem RepSL.take {M : Maps} {g : Gh} {w : World} : ∀ {cs : List V} {vl : List Value} (n : Nat), RepSL M g w cs vl → RepSL M g w (cs.take n) (vl.take n)
  | _, _, 0, _ => .nil
  | _, _, n + 1, .nil => .nil
  | _, _, n + 1, .cons _ _ _ _ hx hl => .cons _ _ _ _ hx (RepSL.take n hl)
theorem RepSL.drop {M : Maps} {g : Gh} {w : World} : ∀ {cs : List V} {vl : List Value} (n : Nat), RepSL M g w cs vl → RepSL M g w (cs.drop n) (vl.drop n)
  | _, _, 0, h => h
  | _, _, n + 1, .nil => .nil
  | _, _, n + 1, .cons _ _ _ _ hx hl => RepSL.drop n hl
section
variable {P : Program} {M : Maps} {g : Gh} {w : World} {β : Nat → Nat} {st : St} {o : Oper} {a : Act}
inductive RepPs (M : Maps) (g : Gh) (w : World) (place : Nat → Option (Nat × Nat)) : List (Nat × Nat × V) → List (Nat × Value) → Prop
  | nil : RepPs M g w place [] []
  | cons (off size i : Nat) (v : V) (c : Value) (l : List (Nat × Nat × V)) (l' : List (Nat × Value)) (hp : place i = some (off, size)) (h : RepSL M g w v.cells c.cells.toList) (hl : RepPs M g w place l l') :
      RepPs M g w place ((off, size, v) :: l) ((i, c) :: l')
theorem fill_rep {place : Nat → Option (Nat × Nat)} : ∀ {ps : List (Nat × Nat × V)} {ps' : List (Nat × Value)} {cells cs : List V} {arr : Array Value}, RepPs M g w place ps ps' → RepSL M g w cells arr.toList →
    fill cells ps = some cs → ∃ arr', Go.Instr.fill place arr ps' = some arr' ∧ RepSL M g w cs arr'.toList
  | _, _, cells, cs, arr, .nil, hc, h => by
    simp only [fill, Option.some.injEq] at h
    subst h
    exact ⟨arr, rfl, hc⟩
  | _, _, cells, cs, arr, .cons off size i v c l l' hp hv hl, hc, h => by
    simp only [fill] at h
    split at h
    · rename_i hfit
      have hlen := hc.length
      have hlv := hv.length
      have e1 : c.cells.size = size := by rw [← hfit.1]; simpa using hlv.symm
      have e2 : ¬ (c.cells.size ≠ size ∨ off + c.cells.size > arr.size) := by
        simp at hlen
        omega
      have hsp := fold_splice off c arr (by simp at hlen; omega)
      obtain ⟨arr', h1, h2⟩ := fill_rep (arr := c.cells.zipIdx.foldl (fun cs (x : Value × Nat) => cs.setIfInBounds (off + x.2) x.1) arr) hl (by
        rw [hsp]
        have := ((hc.take off).append hv).append (hc.drop (off + size))
        rwa [show off + size = off + c.cells.toList.length by rw [← hfit.1, hlv]] at this ⊢) h
      refine ⟨arr', ?_, h2⟩
      simp only [Go.Instr.fill, hp]
      rw [if_neg (by simpa using e2)]
      exact h1
    · cases h
theorem parts_rep (hR : Rel M g w β st a.tmps) {place : Nat → Option (Nat × Nat)} : ∀ {ps : List (Nat × Operand)} {ps' : List (Nat × Nat × O)}, 
    (All2 (fun (p : Nat × Operand) (q : Nat × Nat × O) => place p.1 = some (q.1, q.2.1) ∧ opnd M false p.2 = some q.2.2) ps ps') → partsOk (ps'.map fun (o, s, x) => (o, s, rd st.env x)) = true →
    RepPs M g w place (ps'.map fun (o, s, x) => (o, s, rd st.env x)) (ps.map fun (i, x) => (i, a.eval x))
  | _, _, .nil, _ => .nil
  | (i, x) :: ps, (off, s, y) :: ps', .cons h hl, hk => by
    simp only [List.map_cons, partsOk, Bool.and_eq_true] at hk
    refine .cons off s i _ _ _ _ h.1 ?_ (parts_rep hR hl hk.2)
    have := rd_rep hR h.2
    generalize rd st.env y = v at this hk
    generalize a.eval x = c at this
    cases this with
    | s hs => exact hs.cells hk.1
    | lp => simp [V.cells, V.ones, V.one, V.ok] at hk
    | cp => simp [V.cells, V.ones, V.one, V.ok] at hk
theorem sim_build_core (hd : DstOk o a) (hR : Rel M g w β st a.tmps) {t : TypeId} {ps : Array (Nat × Operand)} (ho : o.op = .build t ps) {zd : D} (hz : zeroD P t = some zd) {ps' : List (Nat × Nat × O)} {place : Nat → Option (Nat × Nat)}
    (hps : All2 (fun (p : Nat × Operand) (q : Nat × Nat × O) => place p.1 = some (q.1, q.2.1) ∧ opnd M false p.2 = some q.2.2) ps.toList ps')
    (hbuilt : ∀ z vs cells, toD z = some zd → P.info? t = P.info? t → (∃ i, P.info? t = some i ∧ i.zero = some z) → Go.Instr.fill place z.cells vs = some cells → P.built t vs = some cells)
    {r : Or} (hr : eBuild zd.cells ps' st = some r) : Left1 P M g w o a r := by
  obtain ⟨i, z, hi, hzz, hzd⟩ := zeroD_inv hz
  unfold eBuild at hr
  cases hk : partsOk (ps'.map fun (o, s, x) => (o, s, rd st.env x)) with
  | false => simp [hk] at hr
  | true =>
    simp only [hk, Bool.not_true, cond_false] at hr
    split at hr
    · rename_i cs hcs
      have hrep := (toD_rep g.pub w z zd hzd).cells
      obtain ⟨arr, h1, h2⟩ := fill_rep (parts_rep hR hps hk) (RepSL.ofD hrep) hcs
      refine left_pure hd hR (.s (mkAgg_rep h2)) ?_ hr
      have hb := hbuilt z _ arr hzd rfl ⟨i, hi, hzz⟩ h1
      have := Go.run_build (P := P) w t (ps.map fun (i, x) => (i, a.eval x)) arr (by simpa using hb)
      simp only [Go.execOp, ho, Sem.run_bind, this, Result.andThen_ok, Sem.run_pure]
    · cases hr
theorem parts2_all {fs : Array Go.Field} {places : List (Nat × Nat)} (hpl : (fs.toList.mapM fun f => (P.info? f.type).map fun i => (f.offset, i.size)) = some places) : ∀ {ps : List (Nat × Operand)} {ps' : List (Nat × Nat × O)}, parts2 M P fs ps = some ps' →
    All2 (fun (p : Nat × Operand) (q : Nat × Nat × O) => places[p.1]? = some (q.1, q.2.1) ∧ opnd M false p.2 = some q.2.2) ps ps'
  | [], ps', h => by simp only [parts2, Option.some.injEq] at h; subst h; exact .nil
  | (i, x) :: ps, ps', h => by
    simp only [parts2] at h
    split at h
    · rename_i f y r hf hy hr
      split at h
      · rename_i l hl
        simp only [Option.some.injEq] at h
        subst h
        refine .cons ⟨?_, hy⟩ (parts2_all hpl hr)
        obtain ⟨inf, d, hi, hu, rfl⟩ := lay_inv hl
        have := Go.mapM_some_get hpl i f (by simpa using hf)
        rw [← this, hi]
        rfl
      · cases h
    · cases h
theorem partsA_all {size : Nat} : ∀ {ps : List (Nat × Operand)} {ps' : List (Nat × Nat × O)}, partsA M size ps = some ps' →
    All2 (fun (p : Nat × Operand) (q : Nat × Nat × O) => (some (p.1 * size, size) : Option (Nat × Nat)) = some (q.1, q.2.1) ∧ opnd M false p.2 = some q.2.2) ps ps'
  | [], ps', h => by simp only [partsA, Option.some.injEq] at h; subst h; exact .nil
  | (i, x) :: ps, ps', h => by
    simp only [partsA] at h
    split at h
    · rename_i y r hy hr
      simp only [Option.some.injEq] at h
      subst h
      exact .cons ⟨rfl, hy⟩ (partsA_all hr)
    · cases h
theorem sim_buildStruct (hd : DstOk o a) (hR : Rel M g w β st a.tmps) {t : TypeId} {ps : Array (Nat × Operand)} (ho : o.op = .build t ps) {fs : Array Go.Field} (hu : P.underlying t = some (.struct fs))
    (hpl : (fs.toList.mapM fun f => (P.info? f.type).map fun i => (f.offset, i.size)).isSome = true) {zd : D} (hz : zeroD P t = some zd) {ps' : List (Nat × Nat × O)} (hps : parts2 M P fs ps.toList = some ps')
    {r : Or} (hr : eBuild zd.cells ps' st = some r) : Left1 P M g w o a r := by
  obtain ⟨places, hpl⟩ := Option.isSome_iff_exists.1 hpl
  refine sim_build_core hd hR ho hz (place := fun i => places[i]?) (parts2_all hpl hps) (fun z vs cells _ _ hi hf => ?_) hr
  obtain ⟨i, hi, hzz⟩ := hi
  simp only [Go.Program.built, hi, hu, hzz, hpl]
  simpa using hf
theorem sim_buildArray (hd : DstOk o a) (hR : Rel M g w β st a.tmps) {t : TypeId} {ps : Array (Nat × Operand)} (ho : o.op = .build t ps) {n : Nat} {e : TypeId} (hu : P.underlying t = some (.array n e))
    {l : L} (hl : lay P e = some l) {zd : D} (hz : zeroD P t = some zd) {ps' : List (Nat × Nat × O)} (hps : partsA M l.n ps.toList = some ps')
    {r : Or} (hr : eBuild zd.cells ps' st = some r) : Left1 P M g w o a r := by
  obtain ⟨inf, d, hie, hue, rfl⟩ := lay_inv hl
  refine sim_build_core hd hR ho hz (place := fun i => some (i * inf.size, inf.size)) (partsA_all hps) (fun z vs cells _ _ hi hf => ?_) hr
  obtain ⟨i, hi, hzz⟩ := hi
  simp only [Go.Program.built, hi, hu, hzz, hie]
  exact hf
end
end W

/-
  Slices built of parts; texts and their bytes; rows that are made.
-/
set_option linter.unusedSimpArgs false
set_option linter.unusedVariables false
namespace W
open Go (World Value Addr IntKind Program TypeId FuncId Operand Act Oper Next Result Sem BinOp UnOp)
theorem RepDL.splice {pub : Nat → Nat} {w : World} {l : List D} {vs : List Value} (h : RepDL pub w l vs) {l' : List D} {vs' : List Value} (h' : RepDL pub w l' vs') (off : Nat) :
    RepDL pub w (l.take off ++ l' ++ l.drop (off + l'.length)) (vs.take off ++ vs' ++ vs.drop (off + vs'.length)) := by
  rw [h'.length]
  exact ((h.take off).append h').append (h.drop _)
theorem flat_set : ∀ (xs : List D) (sz j : Nat) (y : D), (∀ x ∈ xs, x.cells.length = sz) → y.cells.length = sz → j < xs.length →
    (xs.set j y).flatMap D.cells = (xs.flatMap D.cells).take (j * sz) ++ y.cells ++ (xs.flatMap D.cells).drop (j * sz + sz)
  | [], _, _, _, _, _, h => by simp at h
  | x :: xs, sz, 0, y, hs, hy, _ => by
    have h0 := hs x (by simp)
    simp only [List.set_cons_zero, List.flatMap_cons, Nat.zero_mul, List.take_zero, List.nil_append, Nat.zero_add, ← h0, List.drop_left' rfl]
  | x :: xs, sz, j + 1, y, hs, hy, hl => by
    have h0 := hs x (by simp)
    have ih := flat_set xs sz j y (fun z hz => hs z (by simp [hz])) hy (by simpa using hl)
    simp only [List.set_cons_succ, List.flatMap_cons]
    rw [ih, show (j + 1) * sz = x.cells.length + j * sz by rw [h0, Nat.succ_mul]; omega, show x.cells.length + j * sz + sz = x.cells.length + (j * sz + sz) by omega,
      List.take_length_add_append, List.drop_append (i := x.cells.length + (j * sz + sz))]
    simp [List.drop_eq_nil_of_le, List.append_assoc]
theorem D.wf_ones {x : D} (h : x.wf = true) : D.ones x.cells = true := h
theorem wfs_ones {pub : Nat → Nat} {w : World} : ∀ {xs : List D} {vs : List Value}, D.wfs xs = true → RepDL pub w (xs.flatMap D.cells) vs → ∀ u ∈ vs, u.oneCell' = true := by
  intro xs vs h hr
  refine hr.ones ?_
  clear hr
  induction xs with
  | nil => rfl
  | cons x l ih =>
    simp only [D.wfs, Bool.and_eq_true] at h
    rw [List.flatMap_cons]
    have app : ∀ (a b : List D), D.ones a = true → D.ones b = true → D.ones (a ++ b) = true := by
      intro a b
      induction a with
      | nil => exact fun _ h => h
      | cons q a iha => intro h1 h2; simp only [List.cons_append, D.ones, Bool.and_eq_true] at h1 ⊢; exact ⟨h1.1, iha h1.2 h2⟩
    exact app _ _ h.1 (ih h.2)
section
variable {P : Program} {M : Maps} {g : Gh} {w : World} {β : Nat → Nat} {st : St} {o : Oper} {a : Act}
inductive RepPd (g : Gh) (w : World) : List (Nat × V) → List (Nat × Value) → Prop
  | nil : RepPd g w [] []
  | cons (i : Nat) (x : D) (c : Value) (l : List (Nat × V)) (l' : List (Nat × Value)) (h : RepDL g.pub w x.cells c.cells.toList) (hl : RepPd g w l l') : RepPd g w ((i, .d x) :: l) ((i, c) :: l')
  | other (i : Nat) (v : V) (c : Value) (l : List (Nat × V)) (l' : List (Nat × Value)) (h : ∀ x, v ≠ .d x) : RepPd g w ((i, v) :: l) ((i, c) :: l')
theorem fillD_rep {size : Nat} (hpos : 0 < size) : ∀ {ps : List (Nat × V)} {ps' : List (Nat × Value)} {es xs : List D} {arr : Array Value}, RepPd g w ps ps' → RepDL g.pub w (es.flatMap D.cells) arr.toList → (∀ x ∈ es, x.cells.length = size) →
    fillD size es ps = some xs → ∃ arr', Go.Instr.fill (fun i => some (i * size, size)) arr ps' = some arr' ∧ RepDL g.pub w (xs.flatMap D.cells) arr'.toList ∧ (∀ x ∈ xs, x.cells.length = size) ∧ xs.length = es.length
  | _, _, es, xs, arr, .nil, hc, hs, h => by
    simp only [fillD, Option.some.injEq] at h
    subst h
    exact ⟨arr, rfl, hc, hs, rfl⟩
  | _, _, es, xs, arr, .other i v c l l' hv, hc, hs, h => by
    cases v <;> simp [fillD] at h
    exact absurd rfl (hv _)
  | _, _, es, xs, arr, .cons i x c l l' hv hl, hc, hs, h => by
    simp only [fillD] at h
    split at h
    · rename_i hfit
      have hlen := hc.length
      rw [flat_len es _ hs] at hlen
      have hlv := hv.length
      have e1 : c.cells.size = size := by rw [← hfit.1]; simpa using hlv.symm
      have hle : i * size + size ≤ es.length * size := by
        rw [← Nat.succ_mul]; exact Nat.mul_le_mul_right _ hfit.2
      have e2 : ¬ (c.cells.size ≠ size ∨ i * size + c.cells.size > arr.size) := by
        simp at hlen
        omega
      have hsp := fold_splice (i * size) c arr (by simp at hlen; omega)
      have hs' : ∀ y ∈ es.set i x, y.cells.length = size := fun y hy => by
        rcases List.mem_or_eq_of_mem_set hy with h | h
        · exact hs y h
        · rw [h]; exact hfit.1
      obtain ⟨arr', h1, h2, h3, h4⟩ := fillD_rep hpos (arr := c.cells.zipIdx.foldl (fun cs (x : Value × Nat) => cs.setIfInBounds (i * size + x.2) x.1) arr) hl (by
        rw [hsp, flat_set es size i x hs hfit.1 hfit.2]
        have := hc.splice hv (i * size)
        rwa [hfit.1] at this) hs' h
      refine ⟨arr', ?_, h2, h3, by rw [h4]; simp⟩
      simp only [Go.Instr.fill]
      rw [if_neg (by simpa using e2)]
      exact h1
    · cases h
theorem partsS_rep (hR : Rel M g w β st a.tmps) : ∀ {ps : List (Nat × Operand)} {ps' : List (Nat × O)}, partsS M ps = some ps' → RepPd g w (ps'.map fun (j, x) => (j, rd st.env x)) (ps.map fun (i, x) => (i, a.eval x))
  | [], ps', h => by simp only [partsS, Option.some.injEq] at h; subst h; exact .nil
  | (i, x) :: ps, ps', h => by
    simp only [partsS] at h
    split at h
    · rename_i y r hy hr
      simp only [Option.some.injEq] at h
      subst h
      simp only [List.map_cons]
      have h1 := rd_rep hR hy
      have ih := partsS_rep hR hr
      cases hv : rd st.env y with
      | d x' => rw [hv] at h1; exact .cons i x' _ _ _ h1.inv_d.cells ih
      | _ => exact .other i _ _ _ _ (by intro x e; cases e)
    · cases h
theorem rep_replicate {zd : D} {z : Value} {size : Nat} (hz : RepDL g.pub w zd.cells z.cells.toList) (hsz : zd.cells.length = size) (hpos : 0 < size) : ∀ n, 
    RepDL g.pub w ((List.replicate n zd).flatMap D.cells) (((Array.range (n * size)).map (z.cells[· % z.cells.size]!)).toList) := by
  have hzs : z.cells.size = size := by rw [← hsz]; simpa using hz.length.symm
  intro n
  induction n with
  | zero => simpa using RepDL.nil
  | succ n ih =>
    have e1 : (List.replicate (n + 1) zd).flatMap D.cells = (List.replicate n zd).flatMap D.cells ++ zd.cells := by
      rw [List.replicate_succ', List.flatMap_append]; simp
    have e2 : ((Array.range ((n + 1) * size)).map (z.cells[· % z.cells.size]!)).toList = ((Array.range (n * size)).map (z.cells[· % z.cells.size]!)).toList ++ z.cells.toList := by
      apply List.ext_getElem?
      intro k
      rw [List.getElem?_append]
      simp only [Array.toList_map, List.getElem?_map, Array.toList_range, List.length_map, List.length_range, hzs]
      have hm : (n + 1) * size = n * size + size := by rw [Nat.succ_mul]
      split
      · rename_i hk
        rw [List.getElem?_range (by omega), List.getElem?_range hk]
      · rename_i hk
        by_cases hk2 : k < (n + 1) * size
        · rw [List.getElem?_range hk2]
          have e3 : k % size = k - n * size := by
            have : k = k - n * size + n * size := by omega
            rw [this, Nat.add_mul_mod_self_right, Nat.mod_eq_of_lt (by omega)]
            omega
          have hlt : k - n * size < z.cells.size := by omega
          simp [e3, hlt]
        · rw [List.getElem?_eq_none (by simp; omega), List.getElem?_eq_none (by simp; omega)]; rfl
    rw [e1, e2]
    exact ih.append hz
theorem map_range0 (f : Nat → Value) : (Array.range 0).map f = #[] := by
  apply Array.ext'
  simp only [Array.toList_map, Array.toList_range]
  rfl
theorem run_buildSlice0 {t e : TypeId} {ie : Go.TypeInfo} {ps : Array (Nat × Value)} {cells : Array Value} (hu : P.underlying t = some (.slice e)) (hie : P.info? e = some ie)
    (h : Go.Instr.fill (fun i => some (i * ie.size, ie.size)) #[] ps.toList = some cells) :
    (Go.Instr.buildSlice t 0 ps).run P w = .ok (.slice (some ⟨w.heap.size, 0, none⟩) 0 0) (w.alloc (.cells cells e)) := by
  simp [Go.Instr.buildSlice, Go.run_underlying hu, Go.sizeOf, Go.typeInfo, hie, map_range0, h, Go.newRow]
theorem sim_buildSlice (hd : DstOk o a) (hR : Rel M g w β st a.tmps) {t e : TypeId} {n : Nat} {ps : Array (Nat × Operand)} (ho : o.op = .buildSlice t n ps) (hu : P.underlying t = some (.slice e)) {l : L} (hl : lay P e = some l) {zd : D} (hz : zeroD P e = some zd)
    (hs : zd.cells.length = l.n ∧ 0 < l.n ∧ n * l.n ≤ 16777216) {ps' : List (Nat × O)} (hps : partsS M ps.toList = some ps')
    {r : Or} (hr : eBuildSlice zd n ps' st = some r) : Left1 P M g w o a r := by
  obtain ⟨ie, d, hie, hue, rfl⟩ := lay_inv hl
  obtain ⟨i2, z, hi2, hzz, hzd⟩ := zeroD_inv hz
  rw [hie] at hi2
  cases hi2
  simp only at hs
  obtain ⟨hs1, hs2, hs3⟩ := hs
  unfold eBuildSlice at hr
  split at hr
  · rename_i xs hxs
    split at hr
    · rename_i hwf
      simp only [ok, Option.some.injEq] at hr
      subst hr
      rw [hs1] at hxs
      have hrep := (toD_rep g.pub w z zd hzd).cells
      have hrep0 := rep_replicate hrep hs1 hs2 n
      obtain ⟨arr, h1, h2, h3, h4⟩ := fillD_rep (arr := (Array.range (n * ie.size)).map (z.cells[· % z.cells.size]!)) hs2 (partsS_rep hR hps) hrep0 (fun x hx => by rw [List.eq_of_mem_replicate hx]; exact hs1) hxs
      rw [List.length_replicate] at h4
      have hrun : (Go.Instr.buildSlice t n (ps.map fun (i, x) => (i, a.eval x))).run P w = .ok (.slice (some ⟨w.heap.size, 0, none⟩) n n) (w.alloc (.cells arr e)) := by
        by_cases hn : n = 0
        · subst hn
          refine run_buildSlice0 hu hie ?_
          rw [Nat.zero_mul, map_range0] at h1
          simpa using h1
        · have : 0 < n * ie.size := Nat.mul_pos (by omega) hs2
          exact Go.run_buildSlice (P := P) w t e n _ arr ie z hu hie hzz (by simpa using hs3) (by omega) (by simpa using h1)
      have hlen := h2.length
      rw [flat_len xs _ h3] at hlen
      by_cases hx0 : xs = []
      case pos =>
        subst hx0
        simp only [List.length_nil] at h4
        subst h4
        have hR' := hR.alloc none 0 (.cells arr e)
        have hrun2 : (Go.execOp a.eval o).run P w = .ok (.value (.slice (some ⟨w.heap.size, 0, none⟩) 0 0)) (w.alloc (.cells arr e)) := by
          simp only [Go.execOp, ho, Sem.run_bind, hrun, Result.andThen_ok, Sem.run_pure]
        exact ⟨.slice (some ⟨w.heap.size, 0, none⟩) 0 0, _, _, β, .value hrun2, hR'.putFull hd (fun ℓ => .full [] ⟨w.heap.size, 0, none⟩ (.sl0 _ 0)), alloc_evo hR.fr none 0 _⟩
      obtain ⟨g', k1, k2⟩ := put_new (T := e) (fz := (0, 0)) (cap := n) (arr := arr) hd hR h3 h2 (by rw [List.take_length]) (by rw [h4]; exact Nat.le_refl _) (by rw [← h4]; simp at hlen; omega) (wfs_ones hwf h2) (no_frozen _)
      rw [h4] at k1
      have e9 : mkSl xs = .osl xs := by
        cases xs with
        | nil => exact absurd rfl hx0
        | cons x l => rfl
      rw [e9] at k1
      exact ⟨_, _, g', β, .value (by simp only [Go.execOp, ho, Sem.run_bind, hrun, Result.andThen_ok, Sem.run_pure]), k1, k2⟩
    · cases hr
  · cases hr
end
end W

/-
  Texts and their bytes; rows that are made.
-/
set_option linter.unusedSimpArgs false
set_option linter.unusedVariables false
namespace W
open Go (World Value Addr IntKind Program TypeId FuncId Operand Act Oper Next Result Sem BinOp UnOp)
theorem alloc_freeze (w : World) (arr : Array Value) (e : TypeId) (n : Nat) : (w.alloc (.cells arr e)).freeze ⟨w.heap.size, n, none⟩ 1 = w.alloc (.cells arr e (n, n + 1)) := by
  have h : ∀ f : Go.Obj → Go.Obj, (w.heap.push (.cells arr e)).modify w.heap.size f = w.heap.push (f (.cells arr e)) := by
    intro f
    apply Array.ext_getElem?
    intro i
    rw [Array.getElem?_modify, Array.getElem?_push, Array.getElem?_push]
    by_cases hi : i = w.heap.size
    · subst hi; simp
    · have h2 : w.heap.size ≠ i := fun h => hi h.symm
      simp [hi, h2]
  unfold World.freeze
  simp only [Nat.one_ne_zero, if_false]
  show ({ (w.alloc (.cells arr e)) with heap := (w.heap.push (.cells arr e)).modify w.heap.size _ } : World) = _
  rw [h]
  rfl
def toB (w : World) (z : ByteArray) (e : TypeId) : Array Value := z.data.map (fun b : UInt8 => Value.int .u8 (b.toNat : Int)) ++ Array.replicate (Go.grownCap w z.size 0 e - z.size) (.int .u8 0)
section
variable {P : Program} {M : Maps} {g : Gh} {w : World} {β : Nat → Nat} {st : St} {o : Oper} {a : Act}
theorem run_toBytes {src dst e : TypeId} {z : ByteArray} {d : Go.TypeDesc} (hs : P.underlying src = some d) (hd : P.underlying dst = some (.slice e)) (he : P.underlying e = some (.int .u8)) :
    (Go.convert src dst (.string z)).run P w = .ok (.slice (some ⟨w.heap.size, 0, none⟩) z.size (Go.grownCap w z.size 0 e))
      (w.drew.alloc (.cells (toB w z e) e
        ((toB w z e).size,
         (toB w z e).size + 1))) := by
  have h1 : (Go.convert src dst (.string z)).run P w = (Go.Conv.stringToBytes e z).run P w := by
    simp only [Go.convert, Sem.run_bind, Go.run_underlying hs, Go.run_underlying hd, Result.andThen_ok]
    cases d <;> simp [Go.run_underlying he]
  rw [h1]
  have hf : (Go.Question.appendCap z.size 0 e).forced = false := rfl
  unfold Go.Conv.stringToBytes
  simp only [Sem.run_bind, Go.run_choose, hf, Bool.false_eq_true, if_false, Result.andThen_ok, Go.newRow, Go.run_newObj_alloc, Sem.run_pure, Go.markStringish, Go.run_shape]
  have hsh : (w.drew.alloc (.cells (toB w z e) e)).shape? w.heap.size =
      some (e, (toB w z e).size) := by
    unfold World.shape?
    have := alloc_heap_new w.drew (.cells (toB w z e) e)
    have e0 : w.drew.heap.size = w.heap.size := rfl
    rw [e0] at this
    rw [this]
  have hfr := alloc_freeze w.drew (toB w z e) e (toB w z e).size
  show ((match World.shape? (w.drew.alloc (.cells (toB w z e) e)) w.heap.size with
    | some (_, n) => Go.freeze { block := w.heap.size, off := n } 1
    | _ => pure ()).run P _).andThen _ = _
  rw [hsh]
  simp only [Go.run_freeze, Result.andThen_ok]
  have e0 : w.drew.heap.size = w.heap.size := rfl
  rw [e0] at hfr
  exact congrArg (fun W => Result.ok (Value.slice (some ⟨w.heap.size, 0, none⟩) z.size (Go.grownCap w z.size 0 e)) W) hfr
theorem sim_bytes (hd : DstOk o a) (hR : Rel M g w β st a.tmps) {src dst e : TypeId} {x : Operand} {x' : O} (hx : opnd M false x = some x') (hs : P.underlying src = some .string) (hdt : P.underlying dst = some (.slice e)) (he : P.underlying e = some (.int .u8))
    (ho : o.op = .convert src dst x) {r : Or} (hr : eBytes x' st = some r) : Left1 P M g w o a r := by
  have h1 := rd_rep hR hx
  unfold eBytes at hr
  split at hr
  · rename_i t hz
    rw [hz] at h1
    obtain ⟨z, e1, f1⟩ := repD_s h1.inv_d
    simp only [ok, Option.some.injEq] at hr
    subst hr
    have hrun := run_toBytes (P := P) (w := w) (z := z) hs hdt he
    have hsm : SameMem w w.drew := ⟨rfl, rfl, rfl⟩
    have hR' := hR.sameMem hsm
    have hsrc := src_text (P := P) (g := g) (w := w) (z := z)
    rw [f1] at hsrc
    have hlen : (t.map fun n : Nat => D.i .u8 n).length = z.size := by rw [← f1]; simp
    have hge := Go.grownCap_ge w z.size 0 e
    have hd1 : z.data.size = z.size := rfl
    obtain ⟨g', k1, k2⟩ := put_new (T := e) (cap := Go.grownCap w z.size 0 e) (arr := toB w z e)
      (fz := ((toB w z e).size,
         (toB w z e).size + 1)) hd hR' hsrc.sz (hsrc.rep.mono (hsm.grow g).pub (hsm.grow g).cell)
      (by simp only [toB, Array.toList_append, Array.toList_map]; exact List.take_left) (by rw [hlen]; exact hge) (by simp [toB]; omega) hsrc.one (fun j hj => by
        have : ¬ ((toB w z e).size ≤ j) := by simp [toB]; omega
        simp only [this, decide_false, Bool.false_and])
    rw [hlen] at k1
    refine ⟨_, _, g', β, .value ?_, k1, (hsm.evo g).trans k2⟩
    simp only [Go.execOp, ho, Sem.run_bind, e1, hrun, Result.andThen_ok, Sem.run_pure]
    rfl
  · cases hr
theorem bytesOf_rep {pub : Nat → Nat} : ∀ {xs : List D} {t : List Nat} {vs : List Value}, bytesOf xs = some t → RepDL pub w (xs.flatMap D.cells) vs → vs = (t.map fun n : Nat => (n : Int)).map (Value.int .u8) ∧ (∀ x ∈ xs, x.cells.length = 1) ∧ (∀ n ∈ t, n < 256) ∧ t.length = xs.length
  | [], t, vs, h, hr => by
    simp only [bytesOf, Option.some.injEq] at h
    subst h
    cases hr
    exact ⟨rfl, by simp, by simp, rfl⟩
  | x :: xs, t, vs, h, hr => by
    unfold bytesOf at h
    split at h
    · rename_i heq; cases heq
    · rename_i n l heq
      simp only [List.cons.injEq] at heq
      obtain ⟨rfl, rfl⟩ := heq
      split at h
      · rename_i hn
        cases hb : bytesOf xs with
        | none => simp [hb] at h
        | some t' =>
          simp only [hb, Option.map_some, Option.some.injEq] at h
          subst h
          simp only [List.flatMap_cons, D.cells, List.singleton_append] at hr
          cases hr with
          | cons _ v _ vs' h1 h2 =>
            have e := repD_i h1
            obtain ⟨i1, i2, i3, i4⟩ := bytesOf_rep hb h2
            refine ⟨?_, ?_, ?_, by simp [i4]⟩
            · rw [e, i1]; simp [Int.toNat_of_nonneg hn.1]
            · intro y hy
              rcases List.mem_cons.1 hy with h | h
              · subst h; rfl
              · exact i2 y h
            · intro m hm
              rcases List.mem_cons.1 hm with h | h
              · subst h; omega
              · exact i3 m h
      · cases h
    · cases h
theorem fold_push : ∀ (ns : List Nat) (s : ByteArray), ((ns.map fun n : Nat => (n : Int)).foldl (fun r n => r.push (UInt8.ofNat n.toNat)) s).data.toList = s.data.toList ++ ns.map UInt8.ofNat
  | [], s => by simp
  | n :: ns, s => by
    simp only [List.map_cons, List.foldl_cons]
    rw [fold_push ns]
    simp [ByteArray.push]
theorem fold_push_nat {ns : List Nat} (h : ∀ n ∈ ns, n < 256) : ((ns.map fun n : Nat => (n : Int)).foldl (fun r n => r.push (UInt8.ofNat n.toNat)) ByteArray.empty).data.toList.map (·.toNat) = ns := by
  rw [fold_push]
  simp only [List.map_append, List.map_map]
  have : (ByteArray.empty.data.toList.map (·.toNat)) = [] := rfl
  rw [this, List.nil_append]
  conv => rhs; rw [← List.map_id ns]
  apply List.map_congr_left
  intro n hn
  have := h n hn
  simp [UInt8.toNat_ofNat']
  omega
theorem allD_get {M : Maps} {g : Gh} {w : World} : ∀ {cs : List V} {vs : List Value} {ds : List D}, allD cs = some ds → cs.length = vs.length → (∀ (i : Nat) x v, cs[i]? = some x → vs[i]? = some v → RepS M g w (copy1 x) v) → RepDL g.pub w ds vs
  | [], [], ds, h, _, _ => by simp only [allD, Option.some.injEq] at h; subst h; exact .nil
  | [], _ :: _, _, _, hl, _ => by simp at hl
  | _ :: _, [], _, _, hl, _ => by simp at hl
  | x :: cs, v :: vs, ds, h, hl, hr => by
    have h0 := hr 0 x v rfl rfl
    have hrest : ∀ (i : Nat) y u, cs[i]? = some y → vs[i]? = some u → RepS M g w (copy1 y) u := fun i y u hy hu => hr (i + 1) y u (by simpa using hy) (by simpa using hu)
    cases x with
    | d y =>
      simp only [allD] at h
      split at h
      · rename_i r hr1
        simp only [Option.some.injEq] at h; subst h
        cases h0 with
        | d _ _ h0 => exact .cons _ _ _ _ h0 (allD_get hr1 (by simpa using hl) hrest)
      · cases h
    | osl y =>
      simp only [allD] at h
      split at h
      · rename_i r hr1
        simp only [Option.some.injEq] at h; subst h
        cases h0 with
        | d _ _ h0 => exact .cons _ _ _ _ h0 (allD_get hr1 (by simpa using hl) hrest)
      · cases h
    | _ => simp [allD] at h
theorem cells_part {M : Maps} {g : Gh} {w : World} {cs : List V} {ds : List D} {b off n : Nat} {arr : Array Value} {T : TypeId} {fz : Nat × Nat} (hds : allD ((cs.drop off).take n) = some ds) (hl : cs.length = arr.size) (hle : off + n ≤ cs.length)
    (hb : w.heap[b]? = some (.cells arr T fz)) (hr : ∀ (i : Nat) x v, cs[i]? = some x → arr[i]? = some v → RepS M g w (copy1 x) v) :
    ∃ vs : List Value, vs.length = n ∧ RepDL g.pub w ds vs ∧ ∀ (j : Nat) v, vs[j]? = some v → w.cell? ⟨b, off + j, none⟩ = some v := by
  refine ⟨(arr.toList.drop off).take n, by simp; omega, allD_get (M := M) hds (by simp; omega) (fun i x v hx hv => ?_), fun j v hj => ?_⟩
  · have hi : i < n := by
      have := (List.getElem?_eq_some_iff.1 hx).1
      simp at this; omega
    refine hr (off + i) x v ?_ ?_
    · simpa [List.getElem?_take, hi, List.getElem?_drop] using hx
    · simpa [List.getElem?_take, hi, List.getElem?_drop] using hv
  · have hj' : j < n := by
      have := (List.getElem?_eq_some_iff.1 hj).1
      simp at this; omega
    have : arr[off + j]? = some v := by simpa [List.getElem?_take, hj', List.getElem?_drop] using hj
    simp [World.cell?, hb, this]
theorem bytes_flat : ∀ {ds : List D} {t : List Nat}, bytesOf ds = some t → ds.flatMap D.cells = ds
  | [], _, _ => rfl
  | x :: l, t, h => by
    cases x with
    | i k n =>
      cases k with
      | u8 =>
        simp only [bytesOf] at h
        split at h
        · cases hb : bytesOf l with
          | none => simp [hb] at h
          | some r => rw [List.flatMap_cons, bytes_flat hb]; rfl
        · cases h
      | _ => simp [bytesOf] at h
    | _ => simp [bytesOf] at h
theorem sim_text (hd : DstOk o a) (hR : Rel M g w β st a.tmps) {src dst e : TypeId} {x : Operand} {x' : O} (hx : opnd M false x = some x') (hs : P.underlying src = some (.slice e)) (hdt : P.underlying dst = some .string) (he : P.underlying e = some (.int .u8))
    (ho : o.op = .convert src dst x) {r : Or} (hr : eText x' st = some r) : Left1 P M g w o a r := by
  have h1 := rd_rep hR hx
  have hrun : ∀ {ad : Option Addr} {l c : Nat} {z : ByteArray}, a.eval x = .slice ad l c → (Go.Conv.bytesToString (.slice ad l c)).run P w = .ok (.string z) w → (Go.execOp a.eval o).run P w = .ok (.value (.string z)) w := by
    intro ad l c z hc hb
    have := Go.run_convert_bytes_string (P := P) w src dst e ad l c hs he hdt
    simp only [Go.execOp, ho, Sem.run_bind, hc, this, hb, Result.andThen_ok, Sem.run_pure]
  have cellsRun : ∀ {b off : Nat} {vs : List Value}, (∀ j v, vs[j]? = some v → w.cell? ⟨b, off + j, none⟩ = some v) → (Go.loadCells ⟨b, off, none⟩ vs.length).run P w = .ok vs.toArray w := fun {b off vs} h =>
    Go.run_loadCells_list (P := P) w ⟨b, off, none⟩ vs (fun j v hj => by rw [add_none]; exact h j v hj)
  unfold eText at hr
  split at hr
  · rename_i hz
    rw [hz] at h1
    have h2 := h1.inv_d
    generalize hc : a.eval x = cc at h2
    cases h2
    exact left_pure hd hR (.s (.d _ _ (.s [] ByteArray.empty rfl))) (hrun hc rfl) hr
  · rename_i xs hz
    rw [hz] at h1
    have h2 := h1.inv_d
    split at hr
    · rename_i t ht
      generalize hc : a.eval x = cc at h2
      cases h2 with
      | sl0 ad cap =>
        simp only [bytesOf, Option.some.injEq] at ht
        subst ht
        refine left_pure hd hR (.s (.d _ _ (.s [] ByteArray.empty rfl))) (hrun hc ?_) hr
        have := Go.run_bytesToString (P := P) w ad 0 cap [] rfl
        exact this
      | sl _ b off cap sz vs hne hsz hrep hcell hpub hcap hone =>
        obtain ⟨i1, i2, i3, i4⟩ := bytesOf_rep ht hrep
        refine left_pure hd hR (.s (.d _ _ (.s t _ (fold_push_nat i3)))) (hrun hc ?_) hr
        refine Go.run_bytesToString (P := P) w _ _ _ _ ?_
        have hl : vs.length = xs.length := by rw [i1]; simp [i4]
        rw [← hl, ← i1]
        exact cellsRun hcell
    · cases hr
  · rename_i id off n cap hz
    rw [hz] at h1
    split at hr
    · rename_i cs hob
      rw [Bool.cond_eq_ite] at hr
      split at hr
      · rename_i hle
        have hle := Nat.le_of_ble_eq_true hle
        split at hr
        · rename_i ds hds
          split at hr
          · rename_i t ht
            generalize hc : a.eval x = cc at h1
            cases h1 with
            | s h1 =>
              cases h1 with
              | rs _ _ _ _ hid hcap =>
                cases hR.h id _ hob with
                | cells _ arr T hb ho hp hl hr0 =>
                  have hsub : ∃ vs : List Value, vs.length = n ∧ RepDL g.pub w ds vs ∧ ∀ (j : Nat) v, vs[j]? = some v → w.cell? ⟨g.φ id, off + j, none⟩ = some v := cells_part (M := M) (g := g) hds hl hle hb (fun i x v hx hv => (hr0 i x v hx hv).read)
                  obtain ⟨vs, hvl, hrep, hcell⟩ := hsub
                  obtain ⟨i1, i2, i3, i4⟩ := bytesOf_rep ht (by rw [bytes_flat ht]; exact hrep)
                  refine left_pure hd hR (.s (.d _ _ (.s t _ (fold_push_nat i3)))) (hrun hc ?_) hr
                  refine Go.run_bytesToString (P := P) w _ _ _ _ ?_
                  rw [← hvl, ← i1]
                  exact cellsRun hcell
          · cases hr
        · cases hr
      · cases hr
    · cases hr
  · cases hr
theorem sim_mkSlice (hd : DstOk o a) (hR : Rel M g w β st a.tmps) {t e : TypeId} {x y : Operand} {x' y' : O} (hu : P.underlying t = some (.slice e)) {i : Go.TypeInfo} (hi : P.info? e = some i) {zd : D} (hz : zeroD P e = some zd) (hs : i.size = 1 ∧ i.bytes ≤ 262144)
    (hx : opnd M false x = some x') (hy : opnd M false y = some y') (ho : o.op = .makeSlice t x y) {r : Or} (hr : eMkSlice zd x' y' st = some r) : Left1 P M g w o a r := by
  have h1 := rd_rep hR hx
  have h2 := rd_rep hR hy
  obtain ⟨i2, z, hi2, hzz, hzd⟩ := zeroD_inv hz
  rw [hi] at hi2
  cases hi2
  unfold eMkSlice at hr
  split at hr
  · rename_i k1 n k2 m hv1 hv2
    rw [hv1] at h1; rw [hv2] at h2
    split at hr
    · rename_i hb
      split at hr
      · rename_i hnm
        subst hnm
        simp only [okH, Option.some.injEq] at hr
        subst hr
        have e1 := repD_i h1.inv_d
        have e2 := repD_i h2.inv_d
        have hrep := (toD_rep g.pub w z zd hzd).cells
        have hc1 : zd.cells = [zd] := by
          have := hb.2.2.2
          cases zd <;> first | rfl | (simp [D.one] at this)
        have hw : IntKind.i64.wrap n = n := Go.wrap_small n hb.1 (by omega)
        obtain ⟨N, rfl⟩ : ∃ N : Nat, n = N := ⟨n.toNat, (Int.toNat_of_nonneg hb.1).symm⟩
        have hN : N ≤ 1073741824 := by have := hb.2.2.1; omega
        have hsmall : ¬ ((i.bytes : Int) * (N : Int) > 2 ^ 48) := by
          have h3 : i.bytes * N ≤ 262144 * 1073741824 := Nat.mul_le_mul hs.2 hN
          have h4 : ((i.bytes * N : Nat) : Int) ≤ 281474976710656 := by omega
          rw [Int.natCast_mul] at h4
          omega
        have hneg : ¬ ((N : Int) < 0) := by omega
        have hrun : (Go.Instr.makeSlice t (a.eval x) (a.eval y)).run P w = .ok (.slice (some ⟨w.heap.size, 0, none⟩) N N) (w.alloc (.cells ((Array.range N).map (z.cells[· % z.cells.size]!)) e)) := by
          have hai : ∀ (k : IntKind) (n : Int), (Go.asInt (.int k n)).run P w = .ok n w := fun _ _ => rfl
          rw [e1, e2]
          by_cases h0 : N = 0
          · subst h0
            have hai0 : ∀ (k : IntKind), (Go.asInt (.int k 0)).run P w = .ok 0 w := fun _ => rfl
            have hw0 : IntKind.i64.wrap 0 = 0 := by decide
            simp [Go.Instr.makeSlice, Go.run_underlying hu, Go.typeInfo, hi, hai0, hw0, Go.sizeOf, Go.newRow, map_range0]
          · simp [Go.Instr.makeSlice, Go.run_underlying hu, Go.typeInfo, hi, hai, hw, hneg, hsmall, Go.sizeOf, hs.1, h0, run_zero hi hzz, Go.newRow]
            intro hbad
            omega
        have hz0 := rep_replicate hrep (size := 1) (by rw [hc1]; rfl) (by omega) N
        have hz1 : (List.replicate N zd).flatMap D.cells = List.replicate N zd := by
          clear hz0 hrun hsmall hneg hN hw e1 e2 hb hv1 hv2 h1 h2
          induction N with
          | zero => rfl
          | succ N ih => rw [List.replicate_succ, List.flatMap_cons, ih, hc1]; rfl
        rw [hz1, Nat.mul_one] at hz0
        have hz2 := repC_ofD (M := M) hz0 (fun i => Loc.ocell g.n i)
        have hlen : ((List.replicate N zd).map V.d).length = ((Array.range N).map (z.cells[· % z.cells.size]!)).size := by simp
        obtain ⟨k1, k2⟩ := make_obj hd hR e hlen hz2
        refine ⟨.slice (some ⟨w.heap.size, 0, none⟩) N N, _, g.withObj w.heap.size, β, .value (w' := w.alloc (.cells ((Array.range N).map (z.cells[· % z.cells.size]!)) e)) (by simp only [Go.execOp, ho, Sem.run_bind, hrun, Result.andThen_ok, Sem.run_pure]), ?_, k2⟩
        have hv : RepV M (g.withObj w.heap.size) (w.alloc (.cells ((Array.range N).map (z.cells[· % z.cells.size]!)) e)) β (.rs st.H.length 0 (N : Int).toNat (N : Int).toNat) (.slice (some ⟨w.heap.size, 0, none⟩) N N) := by
          have := RepS.rs (M := M) (g := g.withObj w.heap.size) (w := w.alloc (.cells ((Array.range N).map (z.cells[· % z.cells.size]!)) e)) g.n 0 N N (Nat.lt_succ_self _) (Nat.le_refl _)
          rw [← hR.n]
          simpa [Gh.withObj] using RepV.s (β := β) this
        have e3 : List.replicate (N : Int).toNat (V.d zd) = (List.replicate N zd).map V.d := by simp
        rw [e3]
        exact k1.putV hd hv
      · cases hr
    · cases hr
  · cases hr
theorem sim_assertOk (hd : DstOk o a) (hR : Rel M g w β st a.tmps) {t xt : TypeId} {t' : Nat} (hm : look M.tm t = some t') (hinj : M.tm.all (fun p => p.2 != t' || p.1 == t) = true) {dd : Go.TypeDesc} (hu : P.underlying t = some dd) (hni : ∀ m, dd ≠ .interface m)
    {zd : D} (hz : zeroD P t = some zd) {x : Operand} {x' : O} (hx : opnd M false x = some x') (ho : o.op = .typeAssert x xt t true) {r : Or} (hr : eAssertOk t' zd x' st = some r) : Left1 P M g w o a r := by
  have h1 := rd_rep hR hx
  obtain ⟨i2, z, hi2, hzz, hzd⟩ := zeroD_inv hz
  have hrz : (Go.zeroValue t).run P w = .ok z w := run_zero hi2 hzz
  have hzr : RepS M g w (.d zd) z := .d _ _ (toD_rep g.pub w z zd hzd)
  have hb : ∀ b, RepS M g w (.d (.b b)) (.bool b) := fun b => .d _ _ (.b b)
  unfold eAssertOk at hr
  split at hr
  · rename_i t2 v hv
    rw [hv] at h1
    generalize hc : a.eval x = c at h1
    cases h1 with
    | s h3 => cases h3 with
      | ifc _ t3 _ c3 hlk hrep =>
        by_cases he : t2 = t'
        · subst he
          have ht : t3 = t := by
            have key : ∀ (l : List (Nat × Nat)), l.all (fun p => p.2 != t2 || p.1 == t) = true → look l t3 = some t2 → t3 = t := by
              intro l
              induction l with
              | nil => intro _ h; cases h
              | cons p l ih =>
                intro hall hl
                simp only [List.all_cons, Bool.and_eq_true] at hall
                simp only [look, Bool.cond_eq_ite] at hl
                split at hl
                · rename_i hbq
                  simp only [Option.some.injEq] at hl
                  have := hall.1
                  simp only [hl, bne_self_eq_false, Bool.false_or, beq_iff_eq] at this
                  rw [← this]; exact Nat.eq_of_beq_eq_true hbq
                · exact ih hall.2 hl
            exact key _ hinj hlk
          subst ht
          simp only [Nat.beq_refl, cond_true] at hr
          refine left_pure hd hR (.s (.tup _ #[c3, .bool true] (.cons _ _ _ _ hrep (.cons _ _ _ _ (hb true) .nil)))) ?_ hr
          simp only [Go.execOp, ho, hc, Go.Instr.typeAssert, Sem.run_bind, Go.run_underlying hu, Result.andThen_ok]
          cases dd <;> first | (simp [Sem.run_bind, Sem.run_pure]; done) | exact absurd rfl (hni _)
        · have hbe : Nat.beq t2 t' = false := by
            cases hq : Nat.beq t2 t' with
            | false => rfl
            | true => exact absurd (Nat.eq_of_beq_eq_true hq) he
          simp only [hbe, cond_false] at hr
          have hne : t3 ≠ t := fun e => by
            subst e
            rw [hm] at hlk
            simp only [Option.some.injEq] at hlk
            exact he hlk.symm
          refine left_pure hd hR (.s (.tup _ #[z, .bool false] (.cons _ _ _ _ hzr (.cons _ _ _ _ (hb false) .nil)))) ?_ hr
          simp only [Go.execOp, ho, hc, Go.Instr.typeAssert, Sem.run_bind, Go.run_underlying hu, Result.andThen_ok]
          cases dd <;> first | (simp [Sem.run_bind, Sem.run_pure, hne, hrz]; done) | exact absurd rfl (hni _)
  · rename_i hv
    rw [hv] at h1
    have h3 := h1.inv_d
    generalize hc : a.eval x = c at h3
    cases h3
    refine left_pure hd hR (.s (.tup _ #[z, .bool false] (.cons _ _ _ _ hzr (.cons _ _ _ _ (hb false) .nil)))) ?_ hr
    simp only [Go.execOp, ho, hc, Go.Instr.typeAssert, Sem.run_bind, Go.run_underlying hu, Result.andThen_ok]
    cases dd <;> first | (simp [Sem.run_bind, Sem.run_pure, hrz]; done) | exact absurd rfl (hni _)
  · cases hr
theorem ones_flat : ∀ {xs : List D}, D.ones xs = true → xs.flatMap D.cells = xs
  | [], _ => rfl
  | x :: l, h => by
    simp only [D.ones, Bool.and_eq_true] at h
    rw [List.flatMap_cons, ones_flat h.2]
    have := h.1
    cases x <;> first | rfl | (simp [D.one] at this)
theorem sim_buildRow (hd : DstOk o a) (hR : Rel M g w β st a.tmps) {t e : TypeId} {n : Nat} {ps : Array (Nat × Operand)} (ho : o.op = .buildSlice t n ps) (hu : P.underlying t = some (.slice e)) {l : L} (hl : lay P e = some l) {zd : D} (hz : zeroD P e = some zd)
    (hs : zd.cells.length = l.n ∧ 0 < l.n ∧ n * l.n ≤ 16777216) (h1n : l.n = 1) {ps' : List (Nat × O)} (hps : partsS M ps.toList = some ps')
    {r : Or} (hr : eBuildRow zd n ps' st = some r) : Left1 P M g w o a r := by
  obtain ⟨ie, d, hie, hue, rfl⟩ := lay_inv hl
  obtain ⟨i2, z, hi2, hzz, hzd⟩ := zeroD_inv hz
  rw [hie] at hi2
  cases hi2
  simp only at hs h1n
  obtain ⟨hs1, hs2, hs3⟩ := hs
  unfold eBuildRow at hr
  split at hr
  · rename_i xs hxs
    split at hr
    · rename_i hwf
      simp only [okH, Option.some.injEq] at hr
      subst hr
      rw [hs1] at hxs
      have hrep := (toD_rep g.pub w z zd hzd).cells
      have hrep0 := rep_replicate hrep hs1 hs2 n
      obtain ⟨arr, h1, h2, h3, h4⟩ := fillD_rep (arr := (Array.range (n * ie.size)).map (z.cells[· % z.cells.size]!)) hs2 (partsS_rep hR hps) hrep0 (fun x hx => by rw [List.eq_of_mem_replicate hx]; exact hs1) hxs
      rw [List.length_replicate] at h4
      have hn0 : n ≠ 0 := by
        intro e; subst e
        exact hwf.2.2 (List.eq_nil_of_length_eq_zero h4)
      have hrun : (Go.Instr.buildSlice t n (ps.map fun (i, x) => (i, a.eval x))).run P w = .ok (.slice (some ⟨w.heap.size, 0, none⟩) n n) (w.alloc (.cells arr e)) := by
        have : 0 < n * ie.size := Nat.mul_pos (by omega) hs2
        exact Go.run_buildSlice (P := P) w t e n _ arr ie z hu hie hzz (by simpa using hs3) (by omega) (by simpa using h1)
      rw [ones_flat hwf.2.1] at h2
      have hz2 := repC_ofD (M := M) h2 (fun i => Loc.ocell g.n i)
      have hlen : (xs.map V.d).length = arr.size := by
        have := h2.length
        simpa using this
      obtain ⟨k1, k2⟩ := make_obj hd hR e hlen hz2
      refine ⟨.slice (some ⟨w.heap.size, 0, none⟩) n n, _, g.withObj w.heap.size, β, .value (w' := w.alloc (.cells arr e)) (by simp only [Go.execOp, ho, Sem.run_bind, hrun, Result.andThen_ok, Sem.run_pure]), ?_, k2⟩
      have hv : RepV M (g.withObj w.heap.size) (w.alloc (.cells arr e)) β (.rs st.H.length 0 xs.length xs.length) (.slice (some ⟨w.heap.size, 0, none⟩) n n) := by
        have := RepS.rs (M := M) (g := g.withObj w.heap.size) (w := w.alloc (.cells arr e)) g.n 0 n n (Nat.lt_succ_self _) (Nat.le_refl _)
        rw [← hR.n, h4]
        simpa [Gh.withObj] using RepV.s (β := β) this
      exact k1.putV hd hv
    · cases hr
  · cases hr
end
end W

/-
  Calls: what goes in, what comes back, whose it is meanwhile.
-/
set_option linter.unusedSimpArgs false
set_option linter.unusedVariables false
namespace W
open Go (World Value Addr IntKind Program TypeId FuncId Operand Act Oper Next Result Sem BinOp UnOp Ending Exit)
structure RelH (M : Maps) (g : Gh) (w : World) (H : List Obj) : Prop where
  n : g.n = H.length
  h : ∀ id o, H[id]? = some o → RepO M g w id o
  fresh : ∀ b, w.heap.size ≤ b → g.own b = none ∧ g.pub b = 0
  gl : GlOk M g w
theorem Rel.toH {M : Maps} {g : Gh} {w : World} {β : Nat → Nat} {st : St} {tmps : Array Value} (h : Rel M g w β st tmps) : RelH M g w st.H := ⟨h.n, h.h, h.fresh, h.gl⟩
inductive RepA (M : Maps) (g : Gh) (w : World) (j : Nat) : V → Value → Prop
  | s {v : V} {c : Value} (h : RepS M g w v c) : RepA M g w j v c
  | osl {xs : List D} {c : Value} (h : OwnSl g w (.slot j) xs c) : RepA M g w j (.osl xs) c
inductive ArgsRep (M : Maps) (g : Gh) (w : World) : Nat → List V → List Value → Prop
  | nil (j : Nat) : ArgsRep M g w j [] []
  | cons {j : Nat} {v : V} {c : Value} {vs : List V} {cs : List Value} (h : RepA M g w j v c) (hl : ArgsRep M g w (j + 1) vs cs) : ArgsRep M g w j (v :: vs) (c :: cs)
def CallPost (M : Maps) (g : Gh) (w : World) (r : Cr) : Ending → World → Prop
  | .returned v, w' => r.pan = false ∧ ∃ g', RelH M g' w' r.H ∧ Evo g w g' w' ∧ RepA M g' w' 0 r.v v
  | .panicked ch, w' => r.pan = true ∧ ∃ g' cv, ch = [{ v := cv, recovered := false }] ∧ RelH M g' w' r.H ∧ Evo g w g' w' ∧ RepA M g' w' 0 r.v cv
  | .outgrown, _ => False
def Does (P : Program) (f : FuncId) (args : Array Value) (w : World) (R : Ending → World → Prop) : Prop :=
  ∀ (o : Oper) (a : Act) (K : Act → World → Prop) (Q : Exit → Act → World → Prop), (∀ v w', R (.returned v) w' → K (a.put o.dst v) w') → (∀ ch w', R (.panicked ch) w' → Q (.panic ch) a w') →
    o.upon P a K Q ((Go.callFunc f args).run P w)
def CallSim (P : Program) (M : Maps) (call : Call) : Prop :=
  ∀ (i : Nat) (vs : List V) (H : List Obj) (r : Cr), call i vs H = some r → ∀ f', look M.fm f' = some i → ∀ g w argv, ArgsRep M g w 0 vs argv → RelH M g w H →
    Does P f' argv.toArray w (CallPost M g w r)
def enterOwn (hand : Nat → Option Nat) : Option Loc → Option Loc
  | some (.slot n) => match hand n with
    | some j => some (.slot j)
    | none => some .out
  | some (.bblk _) => some .out
  | some (.bcell _ _) => some .out
  | x => x
def enterGh (hand : Nat → Option Nat) (g : Gh) : Gh := { g with own := fun b => enterOwn hand (g.own b) }
def backOwn (d : Option Nat) : Option Loc → Option Loc
  | some (.slot 0) => d.map .slot
  | some (.slot _) => none
  | some (.bblk _) => none
  | some (.bcell _ _) => none
  | x => x
def restOwn (hand : Nat → Option Nat) (d : Option Nat) (old new : Option Loc) : Option Loc :=
  match old with
  | some (.slot n) => match hand n with
    | some _ => backOwn d new
    | none => some (.slot n)
  | some (.bblk n) => some (.bblk n)
  | some (.bcell n i) => some (.bcell n i)
  | _ => backOwn d new
def restGh (hand : Nat → Option Nat) (d : Option Nat) (g g2 : Gh) : Gh := { g2 with own := fun b => restOwn hand d (g.own b) (g2.own b) }
theorem OwnSl.relabel {g g' : Gh} {w : World} {ℓ ℓ' : Loc} {xs : List D} {c : Value} (h : OwnSl g w ℓ xs c) (hp : g'.pub = g.pub) (ho : ∀ b, g.own b = some ℓ → g'.own b = some ℓ') : OwnSl g' w ℓ' xs c := by
  cases h with
  | mk b off cap sz vs arr T fz hne hsz hr hc hp' hcap hone ho' hb ha hff =>
    exact .mk xs b off cap sz vs arr T fz hne hsz (hp ▸ hr) hc (hp ▸ hp') hcap hone (ho b ho') hb ha hff
  | full ad h => exact .full xs ad (hp ▸ h)
section
variable {P : Program} {M : Maps} {g g2 : Gh} {w w2 : World} {hand : Nat → Option Nat} {d : Option Nat}
theorem enter_grow : Grow g w (enterGh hand g) w := ⟨Nat.le_refl _, fun _ => Nat.le_refl _, fun _ _ _ => rfl⟩
theorem enter_keptO (id : Nat) : Kept g w (enterGh hand g) w (.oblk id) := ⟨fun b h => ⟨by simp [enterGh, h, enterOwn], rfl, rfl⟩⟩
theorem enter_keptC (id i : Nat) : Kept g w (enterGh hand g) w (.ocell id i) := ⟨fun b h => ⟨by simp [enterGh, h, enterOwn], rfl, rfl⟩⟩
theorem enter_relH {H : List Obj} (h : RelH M g w H) : RelH M (enterGh hand g) w H :=
  ⟨h.n, fun id o ho => (h.h id o ho).mono enter_grow (Nat.le_refl _) (fun _ _ => rfl) (by rw [h.n]; exact (List.getElem?_eq_some_iff.1 ho).1) (enter_keptO id) (fun i => enter_keptC id i),
    fun b hb => by
      have := h.fresh b hb
      exact ⟨by simp [enterGh, this.1, enterOwn], this.2⟩, h.gl.mono enter_grow⟩
theorem rest_local (hE : Evo (enterGh hand g) w g2 w2) {b : Nat} (hb : b < w.heap.size) (ho : enterOwn hand (g.own b) = some .out) : g2.own b = some .out ∧ w2.heap[b]? = w.heap[b]? ∧ g2.pub b = g.pub b := by
  obtain ⟨h1, h2, h3⟩ := hE.keep b hb (.inr ho)
  exact ⟨h1.trans ho, h2, h3⟩
theorem own_lt (hf : Fresh g w) {b : Nat} {ℓ : Loc} (h : g.own b = some ℓ) : b < w.heap.size := by
  rcases Nat.lt_or_ge b w.heap.size with hlt | hge
  · exact hlt
  · rw [(hf.f b hge).1] at h; cases h
theorem rest_grow (hE : Evo (enterGh hand g) w g2 w2) : Grow g w (restGh hand d g g2) w2 := ⟨hE.size, hE.pub, hE.cell⟩
theorem rest_keptSlot (hf : Fresh g w) (hE : Evo (enterGh hand g) w g2 w2) {k : Nat} (hk : hand k = none) : Kept g w (restGh hand d g g2) w2 (.slot k) := ⟨fun b h => by
  obtain ⟨h1, h2, h3⟩ := rest_local hE (own_lt hf h) (by rw [h]; simp [enterOwn, hk])
  exact ⟨by simp [restGh, h, restOwn, hk], h2, h3⟩⟩
theorem rest_keptBlk (hf : Fresh g w) (hE : Evo (enterGh hand g) w g2 w2) (k : Nat) : Kept g w (restGh hand d g g2) w2 (.bblk k) := ⟨fun b h => by
  obtain ⟨h1, h2, h3⟩ := rest_local hE (own_lt hf h) (by rw [h]; simp [enterOwn])
  exact ⟨by simp [restGh, h, restOwn], h2, h3⟩⟩
theorem rest_keptCell (hf : Fresh g w) (hE : Evo (enterGh hand g) w g2 w2) (k i : Nat) : Kept g w (restGh hand d g g2) w2 (.bcell k i) := ⟨fun b h => by
  obtain ⟨h1, h2, h3⟩ := rest_local hE (own_lt hf h) (by rw [h]; simp [enterOwn])
  exact ⟨by simp [restGh, h, restOwn], h2, h3⟩⟩
theorem rest_new (hf : Fresh g w) (hE : Evo (enterGh hand g) w g2 w2) {b : Nat} {ℓ : Loc} (h : g2.own b = some ℓ) (hℓ : ℓ ≠ .out) : restOwn hand d (g.own b) (g2.own b) = backOwn d (some ℓ) := by
  have key : enterOwn hand (g.own b) ≠ some .out := fun ho => by
    have hb : b < w.heap.size := by
      cases hg : g.own b with
      | none => rw [hg] at ho; simp [enterOwn] at ho
      | some l => exact own_lt hf hg
    have := (rest_local hE hb ho).1
    rw [h] at this
    exact hℓ (Option.some.inj this)
  rw [h]
  cases hg : g.own b with
  | none => rfl
  | some l =>
    rw [hg] at key
    cases l with
    | slot n =>
      cases hh : hand n with
      | none => simp [enterOwn, hh] at key
      | some j => simp [restOwn, hh]
    | bblk n => simp [enterOwn] at key
    | bcell n i => simp [enterOwn] at key
    | oblk | ocell | out => rfl
theorem rest_grow2 : Grow g2 w2 (restGh hand d g g2) w2 := ⟨Nat.le_refl _, fun _ => Nat.le_refl _, fun _ _ _ => rfl⟩
theorem rest_kept2O (hf : Fresh g w) (hE : Evo (enterGh hand g) w g2 w2) (id : Nat) : Kept g2 w2 (restGh hand d g g2) w2 (.oblk id) := ⟨fun b h => ⟨by
  show restOwn hand d (g.own b) (g2.own b) = _
  rw [rest_new hf hE h (by simp)]; rfl, rfl, rfl⟩⟩
theorem rest_kept2C (hf : Fresh g w) (hE : Evo (enterGh hand g) w g2 w2) (id i : Nat) : Kept g2 w2 (restGh hand d g g2) w2 (.ocell id i) := ⟨fun b h => ⟨by
  show restOwn hand d (g.own b) (g2.own b) = _
  rw [rest_new hf hE h (by simp)]; rfl, rfl, rfl⟩⟩
theorem rest_relH (hf : Fresh g w) (hE : Evo (enterGh hand g) w g2 w2) {H : List Obj} (h : RelH M g2 w2 H) : RelH M (restGh hand d g g2) w2 H :=
  ⟨h.n, fun id o ho => (h.h id o ho).mono rest_grow2 (Nat.le_refl _) (fun _ _ => rfl) (by rw [h.n]; exact (List.getElem?_eq_some_iff.1 ho).1) (rest_kept2O hf hE id) (fun i => rest_kept2C hf hE id i),
    fun b hb => by
      have h2 := h.fresh b hb
      have h1 := hf.f b (Nat.le_trans hE.size hb)
      exact ⟨by simp [restGh, h1.1, h2.1, restOwn, backOwn], h2.2⟩, h.gl.mono rest_grow2⟩
theorem rest_evo (hf : Fresh g w) (hE : Evo (enterGh hand g) w g2 w2) : Evo g w (restGh hand d g g2) w2 :=
  ⟨rest_grow hE, hE.n, hE.φ, fun b hb ho => by
    have he : enterOwn hand (g.own b) = g.own b := by rcases ho with h | h <;> rw [h] <;> rfl
    have ho' : (enterGh hand g).own b = none ∨ (enterGh hand g).own b = some .out := by
      show enterOwn hand (g.own b) = none ∨ enterOwn hand (g.own b) = some .out
      rw [he]; exact ho
    obtain ⟨h1, h2, h3⟩ := hE.keep b hb ho'
    have h1' : g2.own b = g.own b := by rw [h1]; exact he
    refine ⟨?_, h2, h3⟩
    show restOwn hand d (g.own b) (g2.own b) = g.own b
    rw [h1']
    rcases ho with h | h <;> rw [h] <;> rfl, hE.io⟩
theorem rest_osl (hf : Fresh g w) (hE : Evo (enterGh hand g) w g2 w2) {n : Nat} (hd : d = some n) {xs : List D} {c : Value} (h : OwnSl g2 w2 (.slot 0) xs c) : OwnSl (restGh hand d g g2) w2 (.slot n) xs c := by
  refine h.relabel rfl (fun b ho => ?_)
  show restOwn hand d (g.own b) (g2.own b) = _
  rw [rest_new hf hE ho (by simp), hd]
  rfl
end
def handOf : Nat → List O → Nat → Option Nat
  | _, [], _ => none
  | j, .mv m :: l, n => if m = n then some j else handOf (j + 1) l n
  | j, _ :: l, n => handOf (j + 1) l n
theorem handOf_none : ∀ {l : List O} {j n : Nat}, handOf j l n = none → n ∉ mvsOf l
  | [], _, _, _ => by simp [mvsOf]
  | .mv m :: l, j, n, h => by
    simp only [handOf] at h
    split at h
    · cases h
    · rename_i hne
      simp only [mvsOf, List.mem_cons, not_or]
      exact ⟨fun e => hne e.symm, handOf_none h⟩
  | .t m :: l, j, n, h => handOf_none (l := l) (j := j + 1) h
  | .c m :: l, j, n, h => handOf_none (l := l) (j := j + 1) h
  | .f m :: l, j, n, h => handOf_none (l := l) (j := j + 1) h
  | .g _ _ :: l, j, n, h => handOf_none (l := l) (j := j + 1) h
theorem handOf_some : ∀ {l : List O} {j n : Nat} {k : Nat}, handOf j l n = some k → n ∈ mvsOf l
  | [], _, _, _, h => by simp [handOf] at h
  | .mv m :: l, j, n, k, h => by
    simp only [handOf] at h
    split at h
    · rename_i e; simp [mvsOf, e]
    · simp only [mvsOf, List.mem_cons]; exact .inr (handOf_some h)
  | .t m :: l, j, n, k, h => handOf_some (l := l) (j := j + 1) h
  | .c m :: l, j, n, k, h => handOf_some (l := l) (j := j + 1) h
  | .f m :: l, j, n, k, h => handOf_some (l := l) (j := j + 1) h
  | .g _ _ :: l, j, n, k, h => handOf_some (l := l) (j := j + 1) h
theorem nodupB_nodup : ∀ {l : List Nat}, nodupB l = true → l.Nodup
  | [], _ => List.nodup_nil
  | n :: l, h => by
    simp only [nodupB, Bool.and_eq_true, Bool.not_eq_true', List.any_eq_false] at h
    refine List.nodup_cons.2 ⟨fun hm => h.1 n hm (by simp), nodupB_nodup h.2⟩
theorem get_spentAll : ∀ (l : List O) (e : Env) (k : Nat), get k (spentAll l e) = if k ∈ mvsOf l then .undef else get k e
  | [], e, k => by simp [spentAll, mvsOf]
  | .mv m :: l, e, k => by
    simp only [spentAll, spent, mvsOf, List.mem_cons]
    rw [get_spentAll l, get_cons]
    by_cases h1 : k ∈ mvsOf l <;> by_cases h2 : k = m <;> simp [h1, h2]
  | .t m :: l, e, k => get_spentAll l e k
  | .c m :: l, e, k => get_spentAll l e k
  | .f m :: l, e, k => get_spentAll l e k
  | .g _ _ :: l, e, k => get_spentAll l e k
section
variable {P : Program} {M : Maps} {g : Gh} {w : World} {β : Nat → Nat} {st : St} {o : Oper} {a : Act}
theorem enter_repS {v : V} {c : Value} {hand : Nat → Option Nat} (h : RepS M g w v c) : RepS M (enterGh hand g) w v c := h.mono enter_grow (Nat.le_refl _) (fun _ _ => rfl) h.ref
theorem enter_list {hand : Nat → Option Nat} : ∀ {vs : List V} {cs : List Value} (j : Nat), RepSL M g w vs cs → ArgsRep M (enterGh hand g) w j vs cs
  | _, _, j, .nil => .nil j
  | _, _, j, .cons _ _ _ _ h hl => .cons (.s (enter_repS h)) (enter_list (j + 1) hl)
theorem args_append : ∀ {vs : List V} {cs : List Value} {vs' : List V} {cs' : List Value} {j : Nat}, ArgsRep M g w j vs cs → ArgsRep M g w (j + vs.length) vs' cs' → ArgsRep M g w j (vs ++ vs') (cs ++ cs')
  | [], _, _, _, j, .nil _, h' => by simpa using h'
  | _ :: vs, _, _, _, j, .cons h hl, h' => .cons h (args_append hl (by
      simp only [List.length_cons] at h'
      rwa [show j + 1 + vs.length = j + (vs.length + 1) by omega]))
theorem RepV.leavesS {v : V} {c : Value} (h : RepV M g w β v c) (hv : v.leaves = true) : RepS M g w v c := by
  cases h with
  | s h => exact h
  | lp => simp [V.leaves, V.ok] at hv
  | cp => simp [V.leaves, V.ok] at hv
theorem enter_args (hR : Rel M g w β st a.tmps) {hand : Nat → Option Nat} {m : Nat → Bool} : ∀ {xs : List Operand} {os : List O} (i j : Nat), opnds M m i xs = some os → V.allLeave (os.map (rd st.env)) = true → (mvsOf os).Nodup →
    (∀ n ∈ mvsOf os, hand n = handOf j os n) → ArgsRep M (enterGh hand g) w j (os.map (rd st.env)) (xs.map a.eval)
  | [], os, i, j, h, _, _, _ => by simp only [opnds, Option.some.injEq] at h; subst h; exact .nil j
  | x :: xs, os, i, j, h, hl, hnd, hh => by
    simp only [opnds] at h
    split at h
    · rename_i y r hy hr
      simp only [Option.some.injEq] at h
      subst h
      simp only [List.map_cons, V.allLeave, Bool.and_eq_true] at hl ⊢
      have h1 := rdm_rep hR hy
      have hnd' : (mvsOf r).Nodup := by
        cases y with
        | mv n => exact (List.nodup_cons.1 hnd).2
        | _ => exact hnd
      have ih := enter_args hR (hand := hand) (i + 1) (j + 1) hr hl.2 hnd' (fun n hn => by
        cases y with
        | mv n' =>
          have hne : n' ≠ n := fun e => (List.nodup_cons.1 hnd).1 (e ▸ hn)
          rw [hh n (by simp [mvsOf, hn])]
          simp [handOf, hne]
        | t _ => rw [hh n hn]; rfl
        | c _ => rw [hh n hn]; rfl
        | f _ => rw [hh n hn]; rfl
        | g _ _ => rw [hh n hn]; rfl)
      refine .cons ?_ ih
      generalize hv : rd st.env y = v at h1 hl
      cases h1 with
      | v h1 => exact .s (enter_repS (h1.leavesS hl.1))
      | own h1 =>
        rename_i n xs'
        have hn : hand n = some j := by rw [hh n (by simp [mvsOf])]; simp [handOf]
        exact .osl (h1.relabel rfl (fun b ho => by simp [enterGh, ho, enterOwn, hn]))
    · cases h
end
end W

/-
  A call, as the caller sees it; a function's body, as the call sees it.
-/
set_option linter.unusedSimpArgs false
set_option linter.unusedVariables false
namespace W
open Go (World Value Addr IntKind Program TypeId FuncId Operand Act Oper Next Result Sem BinOp UnOp Ending Exit)
theorem allLeave_append {a b : List V} : V.allLeave (a ++ b) = (V.allLeave a && V.allLeave b) := by
  induction a with
  | nil => simp [V.allLeave]
  | cons v l ih => simp [V.allLeave, ih, Bool.and_assoc]
section
variable {P : Program} {M : Maps} {g : Gh} {w : World} {β : Nat → Nat} {st : St} {o : Oper} {a : Act} {call : Call}
theorem Rel.restRel (hR : Rel M g w β st a.tmps) {os : List O} {j : Nat} {g2 : Gh} {w2 : World} (hE : Evo (enterGh (handOf j os) g) w g2 w2) {H' : List Obj} (hH : RelH M g2 w2 H') {lo : Nat} (d : Option Nat) :
    Rel M (restGh (handOf j os) d g g2) w2 β { env := W.spentAll os st.env, H := H', lo := lo } a.tmps := by
  have hf := hR.fr
  have hrh := rest_relH (d := d) hf hE hH
  refine ⟨hrh.n, fun k => ?_, hrh.h, hrh.fresh, hrh.gl⟩
  show RepT M _ w2 β k (get k (W.spentAll os st.env)) _
  rw [get_spentAll]
  by_cases hk : k ∈ mvsOf os
  · simp only [hk, if_true]; exact .s (.undef _)
  · simp only [hk, if_false]
    have hh : handOf j os k = none := by
      cases hq : handOf j os k with
      | none => rfl
      | some q => exact absurd (handOf_some hq) hk
    refine (hR.e k).mono (rest_grow hE) ?_ ?_ (rest_keptSlot hf hE hh) (rest_keptBlk hf hE k) (fun i => rest_keptCell hf hE k i)
    · exact hE.n
    · exact hE.φ
theorem Rel.putCall (hd : DstOk o a) (hR : Rel M g w β st a.tmps) {os : List O} {j : Nat} {g2 : Gh} {w2 : World} (hE : Evo (enterGh (handOf j os) g) w g2 w2) {H' : List Obj} (hH : RelH M g2 w2 H') {v : V} {c : Value} (hv : RepA M g2 w2 0 v c) {lo : Nat} :
    ∃ g', Rel M g' w2 β (put o.dst v { env := W.spentAll os st.env, H := H', lo := lo }) (a.put o.dst c).tmps ∧ Evo g w g' w2 := by
  have hf := hR.fr
  have hrel : ∀ d, Rel M (restGh (handOf j os) d g g2) w2 β { env := W.spentAll os st.env, H := H', lo := lo } a.tmps := fun d => hR.restRel hE hH d
  cases hv with
  | s hv =>
    refine ⟨_, (hrel none).putV hd (.s ?_), rest_evo hf hE⟩
    exact hv.mono rest_grow2 (Nat.le_refl _) (fun _ _ => rfl) hv.ref
  | osl hv =>
    rw [put_plain (by intro cs e; cases e), Act.put_tmps]
    cases hdst : o.dst with
    | none => exact ⟨_, hrel none, rest_evo hf hE⟩
    | some n => exact ⟨_, (hrel (some n)).lay (hd n hdst) (.osl (rest_osl hf hE rfl hv)), rest_evo hf hE⟩
theorem sim_call (hcs : CallSim P M call) (hd : DstOk o a) (hR : Rel M g w β st a.tmps) {c : Go.Call} {f : Operand} {f' : O} {m : Nat → Bool} {l : List O} (hcal : c.callee = .value f) (hf : opnd M false f = some f')
    (hx : opnds M m 0 c.args.toList = some l) (hnd : nodupB (mvsOf l) = true) (ho : o.op = .call c) {r : Or} (hr : eCall call f' l st = some r) {K : Act → World → Prop} {Q : Exit → Act → World → Prop}
    (hK : r.pan = false → ∀ c w' g' β', Rel M g' w' β' (put o.dst r.v r.st) (a.put o.dst c).tmps → Evo g w g' w' → K (a.put o.dst c) w')
    (hQ : r.pan = true → ∀ cv w' g' β', Rel M g' w' β' r.st a.tmps → Evo g w g' w' → RepA M g' w' 0 r.v cv → Q (.panic [{ v := cv, recovered := false }]) a w') :
    o.wp P a w K Q := by
  have h1 := rd_rep hR hf
  unfold eCall at hr
  split at hr
  · rename_i i first cap hfv
    simp only at hr
    split at hr
    · rename_i hl
      split at hr
      · rename_i q hq
        simp only [Option.some.injEq] at hr
        subst hr
        rw [hfv] at h1
        generalize hfe : a.eval f = fc at h1
        cases h1 with
        | s h1 => cases h1 with
          | fn _ f2 _ _ fv cv hlook hr1 hr2 =>
            simp only [allLeave_append, Bool.and_eq_true] at hl
            let hand := handOf first.length l
            have ha1 : ArgsRep M (enterGh hand g) w 0 first fv.toList := enter_list 0 hr1
            have ha2 : ArgsRep M (enterGh hand g) w first.length (l.map (rd st.env)) (c.args.toList.map a.eval) :=
              enter_args hR 0 first.length hx hl.1.2 (nodupB_nodup hnd) (fun _ _ => rfl)
            have ha3 := enter_list (hand := hand) (first ++ l.map (rd st.env)).length hr2
            have hargs := args_append (args_append ha1 (by simpa using ha2)) (by simpa using ha3)
            have hdoes := hcs i _ _ q hq f2 hlook (enterGh hand g) w _ hargs (enter_relH hR.toH)
            have hrun : (Go.execOp a.eval o).run P w = (Go.callFunc f2 (fv.toList ++ c.args.toList.map a.eval ++ cv.toList).toArray).run P w := by
              have e : (fv.toList ++ c.args.toList.map a.eval ++ cv.toList).toArray = fv ++ c.args.map a.eval ++ cv := by
                apply Array.ext'; simp
              rw [e]
              simp only [Go.execOp, ho, Go.resolve, hcal, hfe, Go.Deferred.ofValue, Sem.run_bind, Sem.run_pure, Result.andThen_ok, Go.invoke]
            unfold Oper.wp
            rw [hrun]
            refine hdoes o a K Q (fun v w' hp => ?_) (fun ch w' hp => ?_)
            · obtain ⟨hpan, g', hH, hE, hv⟩ := hp
              obtain ⟨g3, h3, h4⟩ := hR.putCall hd hE hH hv
              exact hK hpan v w' g3 β h3 h4
            · obtain ⟨hpan, g', cv', rfl, hH, hE, hv⟩ := hp
              refine hQ hpan cv' w' (restGh hand (some 0) g g') β (hR.restRel hE hH (some 0)) (rest_evo hR.fr hE) ?_
              simp only at hv ⊢
              generalize q.v = qv at hv
              cases hv with
              | s hv => exact .s (hv.mono rest_grow2 (Nat.le_refl _) (fun _ _ => rfl) hv.ref)
              | osl hv => exact .osl (rest_osl hR.fr hE rfl hv)
      · cases hr
    · cases hr
  · cases hr
theorem RepO.shrink {g2 : Gh} {w2 : World} {id : Nat} {ob : Obj} (h : RepO M g2 w2 id ob) (h0 : RepO M g w id ob) (hn : g.n ≤ g2.n) (hid : id < g.n) : RepO M { g2 with n := g.n } w2 id ob := by
  have hg : Grow g2 w2 { g2 with n := g.n } w2 := ⟨Nat.le_refl _, fun _ => Nat.le_refl _, fun _ _ _ => rfl⟩
  cases h with
  | cells cs arr T hb ho hp hl hr =>
    cases h0 with
    | cells _ arr0 T0 hb0 ho0 hp0 hl0 hr0 =>
      refine .cells cs arr T hb ho hp hl (fun i x v hx hv => ?_)
      have hlt : i < arr0.size := by rw [← hl0]; exact (List.getElem?_eq_some_iff.1 hx).1
      have h1 := hr0 i x arr0[i] hx (by simp [hlt])
      cases hr i x v hx hv with
      | s h2 =>
        cases h1 with
        | s h1 => exact .s (h2.mono hg (Nat.le_refl _) (fun _ _ => rfl) h1.ref)
        | osl _ => cases h2
      | osl h2 => exact .osl (h2.relabel rfl (fun _ h => h))
  | map es ents clock hb ho hr =>
    cases h0 with
    | map _ ents0 clock0 hb0 ho0 hr0 =>
      refine .map es ents clock hb ho ?_
      clear hb hb0
      generalize ents.toList = l at hr
      generalize ents0.toList = l0 at hr0
      induction hr generalizing l0 with
      | nil => exact .nil
      | cons k x e es ents hk hgk hx hl ih =>
        cases hr0 with
        | cons _ _ e0 _ l0' hk0 hgk0 hx0 hl0 =>
          exact .cons k x e es ents (hk.mono (fun _ => Nat.le_refl _) (fun _ _ _ => rfl)) hgk (hx.mono hg (Nat.le_refl _) (fun _ _ => rfl) hx0.ref) (ih _ hl0)
theorem settle_cases (n : Nat) (H : List Obj) (v : V) : settle n H v = v ∨ ∃ id off len cap cs ds, v = .rs id off len cap ∧ n ≤ id ∧ H[id]? = some (.cells cs) ∧ off + len ≤ cs.length ∧ 0 < len ∧ allD ((cs.drop off).take len) = some ds ∧ D.ones ds = true ∧ settle n H v = .d (.sl ds) := by
  cases v with
  | rs id off len cap =>
    simp only [settle]
    cases hn : Nat.ble n id with
    | false => exact .inl (by simp)
    | true =>
      simp only [cond_true, settleR]
      split
      · rename_i cs hcs
        cases hb : (Nat.ble (off + len) cs.length && Nat.blt 0 len) with
        | false => exact .inl (by simp)
        | true =>
          simp only [cond_true]
          simp only [Bool.and_eq_true] at hb
          split
          · rename_i ds hds
            cases ho : D.ones ds with
            | false => exact .inl (by simp)
            | true =>
              exact .inr ⟨id, off, len, cap, cs, ds, rfl, Nat.le_of_ble_eq_true hn, hcs, Nat.le_of_ble_eq_true hb.1, by have := Nat.le_of_ble_eq_true hb.2; omega, hds, ho, by simp⟩
          · exact .inl rfl
      · exact .inl rfl
  | _ => exact .inl rfl
def Gh.settled (g : Gh) (n b k : Nat) : Gh := { n := n, φ := g.φ, pub := fun x => if x = b then k else g.pub x, own := fun x => if x = b then none else g.own x }
theorem leave_settled {H : List Obj} {st2 : St} {g2 : Gh} {w2 : World} (h0 : RelH M g w H) (h2 : RelH M g2 w2 st2.H) (hE : Evo g w g2 w2) (hold : ∀ id, id < H.length → st2.H[id]? = H[id]?)
    {id off len cap : Nat} {c : Value} (hv : RepA M g2 w2 0 (.rs id off len cap) c) {cs : List V} {ds : List D} (hid : H.length ≤ id) (hob : st2.H[id]? = some (.cells cs)) (hle : off + len ≤ cs.length) (hpos : 0 < len)
    (hds : allD ((cs.drop off).take len) = some ds) (hones : D.ones ds = true) :
    ∃ g', RelH M g' w2 H ∧ Evo g w g' w2 ∧ RepA M g' w2 0 (.d (.sl ds)) c := by
  cases h2.h id _ hob with
  | cells _ arr T hb ho hp hl hr =>
    have hbl : g2.φ id < w2.heap.size := (Array.getElem?_eq_some_iff.1 hb).1
    let g' := g2.settled g.n (g2.φ id) arr.size
    have hg : Grow g2 w2 g' w2 := ⟨Nat.le_refl _, fun x => by
      show g2.pub x ≤ (if x = g2.φ id then arr.size else g2.pub x)
      split
      · rename_i e; subst e; rw [hp]; exact Nat.zero_le _
      · exact Nat.le_refl _, fun _ _ _ => rfl⟩
    have hg1 : Grow { g2 with n := g.n } w2 g' w2 := ⟨hg.size, hg.pub, hg.cell⟩
    have hk : ∀ ℓ, ℓ ≠ .oblk id → Kept { g2 with n := g.n } w2 g' w2 ℓ := fun ℓ hℓ => ⟨fun x hx => by
      have hne : x ≠ g2.φ id := by
        intro e; subst e
        have hx' : g2.own (g2.φ id) = some ℓ := hx
        rw [ho] at hx'
        exact hℓ (Option.some.inj hx').symm
      exact ⟨by simp [g', Gh.settled, hne]; exact hx, rfl, by simp [g', Gh.settled, hne]⟩⟩
    have hgn : g'.n = g.n := rfl
    refine ⟨g', ⟨h0.n, fun i ob hi => ?_, fun x hx => ?_, h2.gl.mono hg⟩, ⟨⟨hE.size, fun x => Nat.le_trans (hE.pub x) (hg.pub x), hE.cell⟩, Nat.le_refl _, hE.φ, fun x hx hxo => ?_, hE.io⟩, ?_⟩
    · have hlt : i < H.length := (List.getElem?_eq_some_iff.1 hi).1
      have e := hold i hlt
      have hgl : i < g.n := by rw [h0.n]; exact hlt
      exact ((h2.h i ob (e ▸ hi)).shrink (h0.h i ob hi) hE.n hgl).mono hg1 (Nat.le_refl _) (fun _ _ => rfl) hgl (hk _ (by simp; omega)) (fun j => hk _ (by simp))
    · have hne : x ≠ g2.φ id := by omega
      have := h2.fresh x hx
      simpa [g', Gh.settled, hne] using this
    · obtain ⟨k1, k2, k3⟩ := hE.keep x hx hxo
      have hne : x ≠ g2.φ id := by
        intro e; subst e
        rw [ho] at k1
        rcases hxo with h | h <;> rw [h] at k1 <;> cases k1
      exact ⟨by simp [g', Gh.settled, hne]; exact k1, k2, by simp [g', Gh.settled, hne]; exact k3⟩
    · cases hv with
      | s hv =>
        cases hv with
        | rs _ _ _ _ hidn hcap =>
          obtain ⟨vs, hvl, hrep, hcell⟩ := cells_part (M := M) (g := g2) hds hl hle hb (fun i x v hx hv => (hr i x v hx hv).read)
          have hdl : ds.length = len := by rw [hrep.length, hvl]
          have hflat : ∀ (l : List D), D.ones l = true → l.flatMap D.cells = l ∧ ∀ x ∈ l, x.cells.length = 1 := by
            intro l
            induction l with
            | nil => intro _; exact ⟨rfl, fun x hx => by simp at hx⟩
            | cons y l ih =>
              intro h
              simp only [D.ones, Bool.and_eq_true] at h
              obtain ⟨i1, i2⟩ := ih h.2
              refine ⟨by rw [List.flatMap_cons, i1, one_cells h.1]; rfl, fun x hx => ?_⟩
              rcases List.mem_cons.1 hx with rfl | hx
              · rw [one_cells h.1]; rfl
              · exact i2 x hx
          obtain ⟨f1, f2⟩ := hflat ds hones
          have hrep' : RepDL g'.pub w2 ds vs := hrep.mono hg.pub hg.cell
          refine .s (.d _ _ ?_)
          rw [← hdl]
          refine .sl ds (g2.φ id) off cap 1 vs (by intro e; rw [e] at hdl; simp at hdl; omega) f2 (by rw [f1]; exact hrep') hcell ?_ (by omega) (hrep.ones hones)
          show off + vs.length ≤ (if g2.φ id = g2.φ id then arr.size else _)
          rw [if_pos rfl, hvl, ← hl]
          exact hle
theorem leave_post {H : List Obj} {st2 : St} {g2 : Gh} {w2 : World} (h0 : RelH M g w H) (h2 : RelH M g2 w2 st2.H) (hE : Evo g w g2 w2) (hlo : ∀ id, id < st2.lo → id < H.length → st2.H[id]? = H[id]?)
    {pan : Bool} {v : V} {c : Value} (hv : RepA M g2 w2 0 v c) {r : Cr} (hr : leave H pan v st2 = some r) :
    r.pan = pan ∧ ∃ g', RelH M g' w2 r.H ∧ Evo g w g' w2 ∧ RepA M g' w2 0 r.v c := by
  unfold leave at hr
  cases hl : v.leaves with
  | false => simp [hl] at hr
  | true =>
    simp only [hl, cond_true] at hr
    cases hs : (Nat.ble (settle H.length st2.H v).ref H.length && Nat.ble H.length st2.lo) with
    | false =>
      simp only [hs, cond_false, Option.some.injEq] at hr
      subst hr
      exact ⟨rfl, g2, h2, hE, hv⟩
    | true =>
      simp only [hs, cond_true, Option.some.injEq] at hr
      subst hr
      simp only [Bool.and_eq_true] at hs
      have hs1 := Nat.le_of_ble_eq_true hs.1
      have hs2 := Nat.le_of_ble_eq_true hs.2
      rcases settle_cases H.length st2.H v with hset | ⟨id, off, len, cap, cs, ds, rfl, k1, k2, k3, k4, k5, k6, k7⟩
      case inr =>
        rw [k7]
        exact ⟨rfl, leave_settled h0 h2 hE (fun i hi => hlo i (by omega) hi) hv k1 k2 k3 k4 k5 k6⟩
      rw [hset] at hs1 ⊢
      have hg : Grow g2 w2 { g2 with n := g.n } w2 := ⟨Nat.le_refl _, fun _ => Nat.le_refl _, fun _ _ _ => rfl⟩
      refine ⟨rfl, { g2 with n := g.n }, ⟨h0.n, fun id ob hob => ?_, h2.fresh, h2.gl.mono hg⟩, ⟨⟨hE.size, hE.pub, hE.cell⟩, Nat.le_refl _, hE.φ, hE.keep, hE.io⟩, ?_⟩
      · have hlt : id < H.length := (List.getElem?_eq_some_iff.1 hob).1
        have e := hlo id (by omega) hlt
        exact (h2.h id ob (e ▸ hob)).shrink (h0.h id ob hob) hE.n (by rw [h0.n]; exact hlt)
      · cases hv with
        | s hv => exact .s (hv.mono hg (Nat.le_refl _) (fun _ _ => rfl) (by rw [h0.n]; exact hs1))
        | osl hv => exact .osl (hv.relabel rfl (fun _ h => h))
end
end W

/-
  Every operation.
-/
set_option linter.unusedSimpArgs false
set_option linter.unusedVariables false
namespace W
open Go (World Value Addr IntKind Program TypeId FuncId Operand Act Oper Next Result Sem BinOp UnOp Ending Exit)
section
variable {P : Program} {M : Maps} {g : Gh} {w : World} {β : Nat → Nat} {st : St} {o : Oper} {a : Act} {call : Call}
structure Ends (P : Program) (M : Maps) (g : Gh) (w : World) (o : Oper) (a : Act) (r : Or) (K : Act → World → Prop) (Q : Exit → Act → World → Prop) : Prop where
  k : r.pan = false → ∀ c w' g' β', Rel M g' w' β' (put o.dst r.v r.st) (a.put o.dst c).tmps → Evo g w g' w' → K (a.put o.dst c) w'
  q : r.pan = true → ∀ cv w' g' β', Rel M g' w' β' r.st a.tmps → Evo g w g' w' → RepA M g' w' 0 r.v cv → Q (.panic [{ v := cv, recovered := false }]) a w'
theorem Left1.wp {r : Or} {K : Act → World → Prop} {Q : Exit → Act → World → Prop} (h : Left1 P M g w o a r) (hp : r.pan = false) (he : Ends P M g w o a r K Q) : o.wp P a w K Q := by
  obtain ⟨c, w', g', β', hy, hR, hE⟩ := h
  exact hy.wp (he.k hp c w' g' β' hR hE)
theorem sim_panic (hR : Rel M g w β st a.tmps) {x : Operand} {x' : O} (hx : opnd M false x = some x') (ho : o.op = .panic x) {r : Or} (hr : ePanic x' st = some r) {K : Act → World → Prop} {Q : Exit → Act → World → Prop}
    (he : Ends P M g w o a r K Q) : o.wp P a w K Q := by
  have h1 := rd_rep hR hx
  unfold ePanic at hr
  split at hr
  · rename_i t y hv
    simp only [Option.some.injEq] at hr
    subst hr
    rw [hv] at h1
    generalize hc : a.eval x = c at h1
    cases h1 with
    | s h1 =>
      have h2 := h1
      cases h1 with
      | ifc _ t' _ cv ht hcv =>
        have hrun : (Go.execOp a.eval o).run P w = .halt (.panic (.iface t' cv)) w := by
          simp only [Go.execOp, ho, hc, Go.Instr.panic, Sem.run_bind]
          rfl
        unfold Oper.wp
        rw [hrun]
        exact he.q rfl _ w g β hR (Evo.refl g w) (.s h2)
  · cases hr
theorem sim_op (hcs : CallSim P M call) (hd : DstOk o a) (hR : Rel M g w β st a.tmps) {A : Ann} {m : Nat → Bool} {loc : Bool} {k : OpK} (htr : trOp M P A m loc o.op = some k) (hloc : loc = true → o.dst ≠ none)
    {r : Or} (hr : evalK call k st = some r) {K : Act → World → Prop} {Q : Exit → Act → World → Prop} (he : Ends P M g w o a r K Q) : o.wp P a w K Q := by
  have fin : k.mayPan = false → Left1 P M g w o a r → o.wp P a w K Q := fun hk h => h.wp (pan_evalK hr hk) he
  cases hop : o.op with
  | move x =>
    simp only [hop, trOp, Option.map_eq_some_iff] at htr
    obtain ⟨y, hy, rfl⟩ := htr
    exact fin rfl (sim_mov hd hR hy (.inl hop) hr)
  | assign x =>
    simp only [hop, trOp, Option.map_eq_some_iff] at htr
    obtain ⟨y, hy, rfl⟩ := htr
    exact fin rfl (sim_mov hd hR hy (.inr hop) hr)
  | pick c x y =>
    simp only [hop, trOp, Option.bind_eq_bind, Option.bind_eq_some_iff, Option.pure_def, Option.some.injEq] at htr
    obtain ⟨c', hc, x', hx, y', hy, rfl⟩ := htr
    exact fin rfl (sim_pick hd hR hc hx hy hop hr)
  | alloc t =>
    simp only [hop, trOp, Option.bind_eq_bind, Option.bind_eq_some_iff, Option.pure_def, Option.some.injEq] at htr
    obtain ⟨z, hz, rfl⟩ := htr
    exact fin rfl (sim_alloc hd hR hz hop hloc hr)
  | box t x =>
    simp only [hop, trOp, Option.bind_eq_bind, Option.bind_eq_some_iff, Option.pure_def, Option.some.injEq] at htr
    obtain ⟨x', hx, rfl⟩ := htr
    exact fin rfl (sim_box hd hR hx hop hloc hr)
  | build t ps =>
    simp only [hop, trOp] at htr
    split at htr
    · rename_i fs hu
      split at htr
      · rename_i hpl
        simp only [Option.bind_eq_bind, Option.bind_eq_some_iff, Option.pure_def, Option.some.injEq] at htr
        obtain ⟨z, hz, ps', hps, rfl⟩ := htr
        exact fin rfl (sim_buildStruct hd hR hop hu hpl hz hps hr)
      · cases htr
    · rename_i n e hu
      simp only [Option.bind_eq_bind, Option.bind_eq_some_iff, Option.pure_def, Option.some.injEq] at htr
      obtain ⟨z, hz, l, hl, ps', hps, rfl⟩ := htr
      exact fin rfl (sim_buildArray hd hR hop hu hl hz hps hr)
    · cases htr
  | buildSlice t n ps =>
    simp only [hop, trOp] at htr
    split at htr
    · rename_i e hu
      split at htr
      · rename_i l z hl hz
        split at htr
        · rename_i hs
          split at htr
          · split at htr
            · rename_i h1n
              simp only [Option.bind_eq_bind, Option.bind_eq_some_iff, Option.pure_def, Option.some.injEq] at htr
              obtain ⟨ps', hps, rfl⟩ := htr
              exact fin rfl (sim_buildRow hd hR hop hu hl hz hs h1n hps hr)
            · cases htr
          · simp only [Option.bind_eq_bind, Option.bind_eq_some_iff, Option.pure_def, Option.some.injEq] at htr
            obtain ⟨ps', hps, rfl⟩ := htr
            exact fin rfl (sim_buildSlice hd hR hop hu hl hz hs hps hr)
        · cases htr
      · cases htr
    · cases htr
  | load t x =>
    simp only [hop, trOp, Option.bind_eq_bind, Option.bind_eq_some_iff, Option.pure_def, Option.some.injEq] at htr
    obtain ⟨l, hl, x', hx, rfl⟩ := htr
    refine fin rfl ?_
    simp only [evalK] at hr
    cases hm : m 9 with
    | false => rw [hm] at hr; exact sim_load hd hR hl hx hop hr
    | true => rw [hm] at hr; exact sim_loadMv hd hR hl hx hop hr
  | store t p x =>
    simp only [hop, trOp, Option.bind_eq_bind, Option.bind_eq_some_iff, Option.pure_def, Option.some.injEq] at htr
    obtain ⟨l, hl, p', hp, x', hx, rfl⟩ := htr
    exact fin rfl (sim_store hd hR hl hp hx hop hr)
  | nilCheck x =>
    simp only [hop, trOp, Option.map_eq_some_iff] at htr
    obtain ⟨y, hy, rfl⟩ := htr
    exact fin rfl (sim_nilCheck hd hR hy hop hr)
  | binOp op t x y yt =>
    simp only [hop, trOp, Option.bind_eq_bind, Option.bind_eq_some_iff, Option.pure_def, Option.some.injEq] at htr
    obtain ⟨kd, hk, x', hx, y', hy, rfl⟩ := htr
    exact fin rfl (sim_bin hd hR hx hy hk hop hr)
  | unOp op t x =>
    simp only [hop, trOp, Option.bind_eq_bind, Option.bind_eq_some_iff, Option.pure_def, Option.some.injEq] at htr
    obtain ⟨x', hx, rfl⟩ := htr
    exact fin rfl (sim_un hd hR hx hop hr)
  | convert s t x =>
    simp only [hop, trOp] at htr
    split at htr
    · rename_i k1 k2 h1 h2
      simp only [Option.bind_eq_bind, Option.bind_eq_some_iff, Option.pure_def, Option.some.injEq] at htr
      obtain ⟨x', hx, rfl⟩ := htr
      exact fin rfl (sim_conv hd hR hx h1 h2 hop hr)
    · rename_i h1 h2
      simp only [Option.bind_eq_bind, Option.bind_eq_some_iff, Option.pure_def, Option.some.injEq] at htr
      obtain ⟨x', hx, rfl⟩ := htr
      exact fin rfl (sim_convS hd hR hx h1 h2 hop hr)
    · rename_i e h1 h2
      split at htr
      · rename_i h3
        simp only [Option.bind_eq_bind, Option.bind_eq_some_iff, Option.pure_def, Option.some.injEq] at htr
        obtain ⟨x', hx, rfl⟩ := htr
        exact fin rfl (sim_bytes hd hR hx h1 h2 h3 hop hr)
      · cases htr
    · rename_i e h1 h2
      split at htr
      · rename_i h3
        simp only [Option.bind_eq_bind, Option.bind_eq_some_iff, Option.pure_def, Option.some.injEq] at htr
        obtain ⟨x', hx, rfl⟩ := htr
        exact fin rfl (sim_text hd hR hx h1 h2 h3 hop hr)
      · cases htr
    · cases htr
  | typeAssert x xt t c =>
    cases c with
    | false => simp [hop, trOp] at htr
    | true =>
      simp only [hop, trOp] at htr
      split at htr
      · cases htr
      · cases htr
      · rename_i dd hni hu
        split at htr
        · rename_i t' ht
          split at htr
          · rename_i hinj
            simp only [Option.bind_eq_bind, Option.bind_eq_some_iff, Option.pure_def, Option.some.injEq] at htr
            obtain ⟨z, hz, x', hx, rfl⟩ := htr
            exact fin rfl (sim_assertOk hd hR ht hinj hu (fun m e => hni m e) hz hx hop hr)
          · cases htr
        · cases htr
  | makeInterface t x =>
    simp only [hop, trOp] at htr
    split at htr
    · cases htr
    · cases htr
    · rename_i dd hni hu
      simp only [Option.bind_eq_bind, Option.bind_eq_some_iff, Option.pure_def, Option.some.injEq] at htr
      obtain ⟨t', ht, x', hx, rfl⟩ := htr
      exact fin rfl (sim_mkIfc hd hR ht hu (fun m e => hni m e) hx hop hr)
  | makeFunc fn xs ys =>
    cases fn with
    | func f =>
      simp only [hop, trOp, Option.bind_eq_bind, Option.bind_eq_some_iff, Option.pure_def, Option.some.injEq] at htr
      obtain ⟨f', hf, xs', hx, ys', hy, rfl⟩ := htr
      exact fin rfl (sim_mkFn hd hR hf hx hy hop hr)
    | _ => simp [hop, trOp] at htr
  | makeMap t x =>
    cases x with
    | none =>
      simp only [hop, trOp] at htr
      split at htr
      · simp only [Option.some.injEq] at htr
        subst htr
        exact fin rfl (sim_mkMap hd hR hop hr)
      · cases htr
    | some x => simp [hop, trOp] at htr
  | makeSlice t x y =>
    simp only [hop, trOp] at htr
    split at htr
    · rename_i e hu
      split at htr
      · rename_i i z hi hz
        split at htr
        · rename_i hs
          simp only [Option.bind_eq_bind, Option.bind_eq_some_iff, Option.pure_def, Option.some.injEq] at htr
          obtain ⟨x', hx, y', hy, rfl⟩ := htr
          exact fin rfl (sim_mkSlice hd hR hu hi hz hs hx hy hop hr)
        · cases htr
      · cases htr
    · cases htr
  | slice t x lo hi mx =>
    cases mx with
    | some z =>
      cases hi with
      | none => simp [hop, trOp] at htr
      | some h =>
        simp only [hop, trOp] at htr
        split at htr
        · rename_i e hu
          simp only [Option.bind_eq_bind, Option.bind_eq_some_iff, Option.pure_def, Option.some.injEq] at htr
          obtain ⟨l, hl, x', hx, lo', hlo, hi', hhi, mx', hmx, rfl⟩ := htr
          exact fin rfl (sim_sliceM hd hR hu hl hx hlo hhi hmx hop hr)
        · cases htr
    | none =>
      simp only [hop, trOp] at htr
      split at htr
      · rename_i hu
        simp only [Option.bind_eq_bind, Option.bind_eq_some_iff, Option.pure_def, Option.some.injEq] at htr
        obtain ⟨x', hx, lo', hlo, hi', hhi, rfl⟩ := htr
        refine fin rfl ?_
        exact sim_sliceS hd hR hu hx hlo hhi hop hr
      · rename_i e hu
        simp only [Option.bind_eq_bind, Option.bind_eq_some_iff, Option.pure_def, Option.some.injEq] at htr
        obtain ⟨l, hl, x', hx, lo', hlo, hi', hhi, rfl⟩ := htr
        exact fin rfl (sim_sliceL hd hR hu hl hx hlo hhi hop hr)
      · rename_i n e hu
        split at htr
        · rename_i i hi1
          split at htr
          · rename_i h1s
            simp only [Option.bind_eq_bind, Option.bind_eq_some_iff, Option.pure_def, Option.some.injEq] at htr
            obtain ⟨x', hx, lo', hlo, hi', hhi, rfl⟩ := htr
            exact fin rfl (sim_sliceA hd hR hu hi1 h1s hx hlo hhi hop hr)
          · cases htr
        · cases htr
      · cases htr
  | fieldAddr t x f =>
    simp only [hop, trOp] at htr
    split at htr
    · rename_i fs hu
      split at htr
      · rename_i fd hfd
        split at htr
        · rename_i l hl
          split at htr
          · cases htr
          · rename_i h0
            simp only [Option.bind_eq_bind, Option.bind_eq_some_iff, Option.pure_def, Option.some.injEq] at htr
            obtain ⟨x', hx, rfl⟩ := htr
            exact fin rfl (sim_fieldAddr hd hR hu hfd hl h0 hx hop hr)
        · cases htr
      · cases htr
    · cases htr
  | field t x f =>
    simp only [hop, trOp] at htr
    split at htr
    · rename_i fs hu
      split at htr
      · rename_i fd hfd
        simp only [Option.bind_eq_bind, Option.bind_eq_some_iff, Option.pure_def, Option.some.injEq] at htr
        obtain ⟨x', hx, l, hl, rfl⟩ := htr
        exact fin rfl (sim_field hd hR hu hfd hl hx hop hr)
      · cases htr
    · cases htr
  | indexAddr t x i =>
    simp only [hop, trOp] at htr
    split at htr
    · rename_i e hu
      simp only [Option.bind_eq_bind, Option.bind_eq_some_iff, Option.pure_def, Option.some.injEq] at htr
      obtain ⟨x', hx, i', hi, l, hl, rfl⟩ := htr
      exact fin rfl (sim_indexAddrS hd hR hu hl hx hi hop hr)
    · rename_i n e hu
      simp only [Option.bind_eq_bind, Option.bind_eq_some_iff, Option.pure_def, Option.some.injEq] at htr
      obtain ⟨x', hx, i', hi, l, hl, rfl⟩ := htr
      exact fin rfl (sim_indexAddrA hd hR hu hl hx hi hop hr)
    · cases htr
  | index t x i =>
    simp only [hop, trOp] at htr
    split at htr
    · rename_i hu
      simp only [Option.bind_eq_bind, Option.bind_eq_some_iff, Option.pure_def, Option.some.injEq] at htr
      obtain ⟨x', hx, i', hi, rfl⟩ := htr
      exact fin rfl (sim_index hd hR hu hx hi hop hr)
    · cases htr
  | lookup t x i c =>
    simp only [hop, trOp] at htr
    split at htr
    · rename_i k e hu
      simp only [Option.bind_eq_bind, Option.bind_eq_some_iff, Option.pure_def, Option.some.injEq] at htr
      obtain ⟨kk, hk, z, hz, x', hx, i', hi, rfl⟩ := htr
      exact fin rfl (sim_lookup hd hR hu hk hz hx hi hop hr)
    · cases htr
  | mapUpdate t p i x =>
    simp only [hop, trOp] at htr
    split at htr
    · rename_i k e hu
      simp only [Option.bind_eq_bind, Option.bind_eq_some_iff, Option.pure_def, Option.some.injEq] at htr
      obtain ⟨kk, hk, p', hp, i', hi, x', hx, rfl⟩ := htr
      exact fin rfl (sim_mapUpdate hd hR hu hk hp hi hx (.inl hop) hr)
    · cases htr
  | insert t p i x =>
    simp only [hop, trOp] at htr
    split at htr
    · rename_i k e hu
      simp only [Option.bind_eq_bind, Option.bind_eq_some_iff, Option.pure_def, Option.some.injEq] at htr
      obtain ⟨kk, hk, p', hp, i', hi, x', hx, rfl⟩ := htr
      exact fin rfl (sim_mapUpdate hd hR hu hk hp hi hx (.inr hop) hr)
    · cases htr
  | extract t i =>
    cases t with
    | tmp t =>
      simp only [hop, trOp, Option.some.injEq] at htr
      subst htr
      exact fin rfl (sim_extract hd hR hop hr)
    | _ => simp [hop, trOp] at htr
  | panic x =>
    simp only [hop, trOp, Option.bind_eq_bind, Option.bind_eq_some_iff, Option.pure_def, Option.some.injEq] at htr
    obtain ⟨x', hx, rfl⟩ := htr
    exact sim_panic hR hx hop hr he
  | call c =>
    simp only [hop, trOp] at htr
    split at htr
    · rename_i hcal
      split at htr
      · rename_i s hats
        split at htr
        · rename_i hu
          simp only [Option.bind_eq_bind, Option.bind_eq_some_iff, Option.pure_def, Option.some.injEq] at htr
          obtain ⟨l, hl, rfl⟩ := htr
          refine fin rfl ?_
          rcases l with _ | ⟨x', _ | ⟨y', l⟩⟩
          · simp [evalK, eBi] at hr
          · exact sim_lenS hd hR hcal hats hu hl hop hr
          · simp [evalK, eBi] at hr
        · rename_i e hu
          simp only [Option.bind_eq_bind, Option.bind_eq_some_iff, Option.pure_def, Option.some.injEq] at htr
          obtain ⟨l, hl, rfl⟩ := htr
          refine fin rfl ?_
          rcases l with _ | ⟨x', _ | ⟨y', l⟩⟩
          · simp [evalK, eBi] at hr
          · exact sim_lenL hd hR hcal hats hu hl hop hr
          · simp [evalK, eBi] at hr
        · rename_i k e hu
          simp only [Option.bind_eq_bind, Option.bind_eq_some_iff, Option.pure_def, Option.some.injEq] at htr
          obtain ⟨l, hl, rfl⟩ := htr
          refine fin rfl ?_
          rcases l with _ | ⟨x', _ | ⟨y', l⟩⟩
          · simp [evalK, eBi] at hr
          · exact sim_lenM hd hR hcal hats hu hl hop hr
          · simp [evalK, eBi] at hr
        · cases htr
      · cases htr
    · rename_i hcal
      simp only [Option.bind_eq_bind, Option.bind_eq_some_iff, Option.pure_def, Option.some.injEq] at htr
      obtain ⟨l, hl, rfl⟩ := htr
      refine fin rfl ?_
      have hr' : (match maxD (l.map (rd st.env)) with | some v => ok v st | none => none) = some r := hr
      split at hr'
      · rename_i v hv
        exact sim_max hd hR hcal hl hop hv hr'
      · cases hr'
    · rename_i hcal
      simp only [Option.bind_eq_bind, Option.bind_eq_some_iff, Option.pure_def, Option.some.injEq] at htr
      obtain ⟨l, hl, rfl⟩ := htr
      refine fin rfl ?_
      have hr' : (match minD (l.map (rd st.env)) with | some v => ok v st | none => none) = some r := hr
      split at hr'
      · rename_i v hv
        exact sim_min hd hR hcal hl hop hv hr'
      · cases hr'
    · rename_i hcal
      split at htr
      · rename_i s u hats
        split at htr
        · rename_i e e2 hu hu2
          split at htr
          · rename_i i z hi hz
            split at htr
            · rename_i hzl
              simp only [Option.bind_eq_bind, Option.bind_eq_some_iff, Option.pure_def, Option.some.injEq] at htr
              obtain ⟨l, hl, rfl⟩ := htr
              refine fin rfl ?_
              rcases l with _ | ⟨x', _ | ⟨y', _ | ⟨z', l⟩⟩⟩
              · simp [evalK, eBi] at hr
              · simp [evalK, eBi] at hr
              · exact sim_append hd hR hcal hats hu (.inr ⟨_, hu2⟩) hi hz hzl hl hop hr
              · simp [evalK, eBi] at hr
            · cases htr
          · cases htr
        · rename_i e hu hu2
          split at htr
          · rename_i i z hi hz
            split at htr
            · rename_i hzl
              simp only [Option.bind_eq_bind, Option.bind_eq_some_iff, Option.pure_def, Option.some.injEq] at htr
              obtain ⟨l, hl, rfl⟩ := htr
              refine fin rfl ?_
              rcases l with _ | ⟨x', _ | ⟨y', _ | ⟨z', l⟩⟩⟩
              · simp [evalK, eBi] at hr
              · simp [evalK, eBi] at hr
              · exact sim_append hd hR hcal hats hu (.inl hu2) hi hz hzl hl hop hr
              · simp [evalK, eBi] at hr
            · cases htr
          · cases htr
        · cases htr
      · cases htr
    · rename_i f hcal
      simp only [Option.bind_eq_bind, Option.bind_eq_some_iff, Option.pure_def] at htr
      obtain ⟨f', hf, l, hl, htr⟩ := htr
      split at htr
      · rename_i hnd
        simp only [Option.some.injEq] at htr
        subst htr
        exact sim_call hcs hd hR hcal hf hl hnd hop hr he.k he.q
      · cases htr
    · cases htr
  | _ => simp [hop, trOp] at htr
end
end W

/-
  Frames of functions and of a range's rounds: what holds of an operation in the one holds in the other.
-/
set_option linter.unusedSimpArgs false
set_option linter.unusedVariables false
namespace W
open Go (World Value Addr IntKind Program TypeId FuncId Operand Act Oper Next Result Sem BinOp UnOp Ending Exit Code Fence)
inductive WF : Fence → Prop
  | wide : WF Fence.wide
  | round (l : Nat) : WF (Fence.wide.inRound l)
theorem WF.fn {F : Fence} (h : WF F) (f : FuncId) : F.fn f := by cases h <;> trivial
theorem WF.depth {F : Fence} (h : WF F) : F.depth.isSome = true → ∀ {p : Prop}, p := by cases h <;> (intro h; cases h)
theorem WF.room {F : Fence} (h : WF F) (n : Nat) : F.room n := by cases h <;> exact Go.room_wide n
theorem WF.steps {F : Fence} (h : WF F) {P : Program} {m m' : Go.Machine} : Go.StepsIn (Go.Machine.fenced P F) P m m' ↔ Go.Steps P m m' := by
  cases h with
  | wide => exact Go.stepsIn_wide
  | round l => rw [Go.fenced_inRound]; exact Go.stepsIn_wide
theorem WF.comes {F : Fence} (h : WF F) {P : Program} {m m' : Go.Machine} {e : Ending} : Go.ComesIn (Go.Machine.fenced P F) P m m' e ↔ Go.Comes P m m' e := by
  cases h with
  | wide => exact Go.comesIn_wide
  | round l => rw [Go.fenced_inRound]; exact Go.comesIn_wide
theorem WF.calls {F : Fence} (h : WF F) {n : Nat} {P : Program} {f : FuncId} {args : Array Value} {w : World} {R : Ending → World → Prop} : Go.CallsIn F n P f args w R ↔ Go.Calls P f args w R :=
  ⟨fun hc cs => let ⟨e, w', fr, r, s, x⟩ := hc.2 cs (h.room _); ⟨e, w', fr, r, h.comes.1 s, x⟩,
   fun hc => ⟨h.fn f, fun cs _ => let ⟨e, w', fr, r, s, x⟩ := hc cs; ⟨e, w', fr, r, h.comes.2 s, x⟩⟩⟩
def notDefer (o : Go.Op) : Prop := ∀ c, o ≠ .defer c
theorem wpIn_of_wp {F : Fence} (hF : WF F) {n : Nat} {P : Program} {o : Oper} {a : Act} {w : World} {K : Act → World → Prop} {Q : Exit → Act → World → Prop} (hnd : F.round = none ∨ notDefer o.op) (h : o.wp P a w K Q) :
    o.wpIn F n P a w K Q := by
  refine ⟨fun f _ => hF.fn f, ?_⟩
  have e : o.semAt F.round a.eval = Go.execOp a.eval o := by
    rcases hnd with h1 | h1
    · rw [h1]; rfl
    · exact Oper.semAt_eq _ _ _ h1
  rw [e]
  unfold Oper.wp at h
  generalize (Go.execOp a.eval o).run P w = r at h
  cases r with
  | ok x w' =>
    cases x <;> simp only [Oper.upon, Oper.uponIn] at h ⊢ <;> first
      | exact h
      | exact ⟨fun hd => hF.depth hd, hF.calls.2 h⟩
      | exact ⟨fun hd => hF.depth hd, fun c cs hr => let ⟨v, w', r, s⟩ := h c cs; ⟨v, w', r, hF.steps.2 s⟩⟩
      | exact h.elim
  | halt x w' => cases x <;> simp only [Oper.upon, Oper.uponIn] at h ⊢ <;> exact h
inductive MarksOk (g : Gh) (w0 w : World) : List Go.Deferred → Prop
  | nil : MarksOk g w0 w []
  | cons {d : Go.Deferred} {ms : List Go.Deferred} (r : Nat) (ht : d.target = .collected r) (hlo : w0.heap.size ≤ r) (hb : w.heap[r]? = some (.deferred (some []))) (ho : g.own r = none)
      (hf : ∀ d' ∈ ms, d'.target ≠ .collected r) (hl : MarksOk g w0 w ms) : MarksOk g w0 w (d :: ms)
theorem MarksOk.lt {g : Gh} {w0 w : World} {ms : List Go.Deferred} (h : MarksOk g w0 w ms) : ∀ d ∈ ms, ∃ r, d.target = .collected r ∧ w0.heap.size ≤ r ∧ r < w.heap.size := by
  induction h with
  | nil => intro d hd; cases hd
  | cons r ht hlo hb ho hf hl ih =>
    intro d hd
    rcases List.mem_cons.1 hd with rfl | hd
    · exact ⟨r, ht, hlo, (Array.getElem?_eq_some_iff.1 hb).1⟩
    · exact ih d hd
theorem MarksOk.mono {g g' : Gh} {w0 w w' : World} {ms : List Go.Deferred} (h : MarksOk g w0 w ms) (hE : Evo g w g' w') : MarksOk g' w0 w' ms := by
  induction h with
  | nil => exact .nil
  | cons r ht hlo hb ho hf hl ih =>
    obtain ⟨k1, k2, _⟩ := hE.keep r (Array.getElem?_eq_some_iff.1 hb).1 (.inl ho)
    exact .cons r ht hlo (k2.trans hb) (k1.trans ho) hf ih
theorem MarksOk.base {g : Gh} {w0 w0' w : World} (hs : w0'.heap.size ≤ w0.heap.size) {ms : List Go.Deferred} (h : MarksOk g w0 w ms) : MarksOk g w0' w ms := by
  induction h with
  | nil => exact .nil
  | cons r ht hlo hb ho hf hl ih => exact .cons r ht (Nat.le_trans hs hlo) hb ho hf ih
theorem MarksOk.append {g1 g2 : Gh} {w0 w1 w2 : World} (hE : Evo g1 w1 g2 w2) (hs : w0.heap.size ≤ w1.heap.size) {ms1 : List Go.Deferred} (h1 : MarksOk g1 w0 w1 ms1) : ∀ {ms2 : List Go.Deferred}, MarksOk g2 w1 w2 ms2 → MarksOk g2 w0 w2 (ms2 ++ ms1)
  | [], _ => h1.mono hE
  | d :: ms2, .cons r ht hlo hb ho hf hl => by
    refine .cons r ht (Nat.le_trans hs hlo) hb ho (fun d' hd' => ?_) (MarksOk.append hE hs h1 hl)
    rcases List.mem_append.1 hd' with h | h
    · exact hf d' h
    · obtain ⟨r', hr', _, hlt⟩ := h1.lt d' h
      rw [hr']
      intro e
      cases e
      omega
theorem cell_put {w : World} {r : Nat} {o o' : Go.Obj} (h : w.heap[r]? = some o) (ho : o.isCells = false) (ho' : o'.isCells = false) (a : Addr) : (w.putObj r o').cell? a = w.cell? a := by
  by_cases e : a.block = r
  · have h1 : (w.putObj r o').heap[a.block]? = some o' := by rw [e]; exact Go.World.putObj_heap_same (Array.getElem?_eq_some_iff.1 h).1
    have h2 : w.heap[a.block]? = some o := by rw [e]; exact h
    simp only [World.cell?, h1, h2]
    cases o <;> cases o' <;> simp_all [Go.Obj.isCells]
  · have h1 : (w.putObj r o').heap[a.block]? = w.heap[a.block]? := Go.World.putObj_heap_other e
    simp only [World.cell?, h1]
section
variable {M : Maps} {g : Gh} {w : World} {r : Nat} {o o' : Go.Obj}
theorem put_size_heap : (w.putObj r o').heap.size = w.heap.size := by simp [World.putObj]
theorem put_grow (h : w.heap[r]? = some o) (ho : o.isCells = false) (ho' : o'.isCells = false) : Grow g w g (w.putObj r o') := ⟨by rw [put_size_heap]; exact Nat.le_refl _, fun _ => Nat.le_refl _, fun b x _ => cell_put h ho ho' _⟩
theorem put_kept (hown : g.own r = none) (ℓ : Loc) : Kept g w g (w.putObj r o') ℓ := ⟨fun b hb => ⟨hb, Go.World.putObj_heap_other (fun e => by subst e; rw [hb] at hown; cases hown), rfl⟩⟩
theorem put_relH {H : List Obj} (hH : RelH M g w H) (h : w.heap[r]? = some o) (ho : o.isCells = false) (ho' : o'.isCells = false) (hown : g.own r = none) : RelH M g (w.putObj r o') H :=
  ⟨hH.n, fun id ob hob => (hH.h id ob hob).mono (put_grow h ho ho') (Nat.le_refl _) (fun _ _ => rfl) (by rw [hH.n]; exact (List.getElem?_eq_some_iff.1 hob).1) (put_kept hown _) (fun i => put_kept hown _),
    fun b hb => hH.fresh b (by rw [put_size_heap] at hb; exact hb), hH.gl.mono (put_grow h ho ho')⟩
theorem put_evo {g0 : Gh} {w0 : World} (hE : Evo g0 w0 g w) (hlo : w0.heap.size ≤ r) (h : w.heap[r]? = some o) (ho : o.isCells = false) (ho' : o'.isCells = false) : Evo g0 w0 g (w.putObj r o') :=
  ⟨hE.toGrow.trans (put_grow h ho ho'), hE.n, hE.φ, fun b hb hx => by
    obtain ⟨h1, h2, h3⟩ := hE.keep b hb hx
    exact ⟨h1, (Go.World.putObj_heap_other (by omega)).trans h2, h3⟩, hE.io.1, hE.io.2⟩
theorem put_rel {β : Nat → Nat} {st : St} {tmps : Array Value} (hR : Rel M g w β st tmps) (h : w.heap[r]? = some o) (ho : o.isCells = false) (ho' : o'.isCells = false) (hown : g.own r = none) : Rel M g (w.putObj r o') β st tmps := by
  have hH := put_relH hR.toH h ho ho' hown
  refine ⟨hH.n, fun k => ?_, hH.h, hH.fresh, hH.gl⟩
  exact (hR.e k).mono (put_grow h ho ho') (Nat.le_refl _) (fun _ _ => rfl) (put_kept hown _) (put_kept hown _) (fun i => put_kept hown _)
end
end W

/-
  Regions in their order, code, loops.
-/
set_option linter.unusedSimpArgs false
set_option linter.unusedVariables false
namespace W
open Go (World Value Addr IntKind Program TypeId FuncId Operand Act Oper Next Result Sem BinOp UnOp Ending Exit Code Fence)
def DefOk (g : Gh) (w0 w : World) (ds ds' : List Go.Deferred) : Prop := ∃ ms, ds' = ms ++ ds ∧ MarksOk g w0 w ms
theorem DefOk.refl {g : Gh} {w0 w : World} {ds : List Go.Deferred} : DefOk g w0 w ds ds := ⟨[], rfl, .nil⟩
theorem DefOk.same {g : Gh} {w0 w : World} {ds ds' : List Go.Deferred} (h : ds' = ds) : DefOk g w0 w ds ds' := by subst h; exact .refl
theorem DefOk.trans {g1 g2 : Gh} {w0 w1 w2 : World} {d0 d1 d2 : List Go.Deferred} (hs : w0.heap.size ≤ w1.heap.size) (h1 : DefOk g1 w0 w1 d0 d1) (hE : Evo g1 w1 g2 w2) (h2 : DefOk g2 w1 w2 d1 d2) : DefOk g2 w0 w2 d0 d2 := by
  obtain ⟨m1, rfl, k1⟩ := h1
  obtain ⟨m2, rfl, k2⟩ := h2
  exact ⟨m2 ++ m1, by simp, k1.append hE hs k2⟩
theorem DefOk.mono {g g' : Gh} {w0 w w' : World} {ds ds' : List Go.Deferred} (h : DefOk g w0 w ds ds') (hE : Evo g w g' w') : DefOk g' w0 w' ds ds' := by
  obtain ⟨ms, h1, h2⟩ := h
  exact ⟨ms, h1, h2.mono hE⟩
structure Good (nd : Prop) (M : Maps) (g : Gh) (w : World) (a : Act) (st' : St) (a' : Act) (w' : World) : Prop where
  r : ∃ g' β', Rel M g' w' β' st' a'.tmps ∧ Evo g w g' w' ∧ DefOk g' w w' a.defers a'.defers
  size : a'.tmps.size = a.tmps.size
  d : nd → a'.defers = a.defers
structure BadEnd (nd : Prop) (M : Maps) (g : Gh) (w : World) (a : Act) (v : V) (st' : St) (ch : List Go.PanicEntry) (a' : Act) (w' : World) : Prop where
  r : ∃ g' cv β', ch = [{ v := cv, recovered := false }] ∧ Rel M g' w' β' st' a'.tmps ∧ Evo g w g' w' ∧ RepA M g' w' 0 v cv ∧ DefOk g' w w' a.defers a'.defers
  size : a'.tmps.size = a.tmps.size
  d : nd → a'.defers = a.defers
def Post (nd : Prop) (M : Maps) (g : Gh) (w : World) (a : Act) (e : Ex) (st' : St) : Exit → Act → World → Prop := fun x a' w' =>
  match e, x with
  | .nrm, .normal => Good nd M g w a st' a' w'
  | .exit id, .exit id' => id' = id ∧ Good nd M g w a st' a' w'
  | .ret, .ret => Good nd M g w a st' a' w'
  | .pan v, .panic ch => BadEnd nd M g w a v st' ch a' w'
  | _, _ => False
theorem Good.trans {nd nd' : Prop} {M : Maps} {g g1 : Gh} {w w1 : World} {a a1 : Act} {st' : St} {a' : Act} {w' : World} (hE : Evo g w g1 w1) (hs : a1.tmps.size = a.tmps.size) (hd : DefOk g1 w w1 a.defers a1.defers) (hd' : nd → a1.defers = a.defers) (hn : nd → nd') (h : Good nd' M g1 w1 a1 st' a' w') : Good nd M g w a st' a' w' :=
  let ⟨⟨g', β', h1, h2, h4⟩, h3, h5⟩ := h
  ⟨⟨g', β', h1, hE.trans h2, hd.trans hE.size h2 h4⟩, h3.trans hs, fun k => (h5 (hn k)).trans (hd' k)⟩
theorem Good.weak {nd nd' : Prop} {M : Maps} {g : Gh} {w : World} {a : Act} {st' : St} {a' : Act} {w' : World} (hn : nd → nd') (h : Good nd' M g w a st' a' w') : Good nd M g w a st' a' w' := ⟨h.r, h.size, fun k => h.d (hn k)⟩
theorem Post.trans {nd nd' : Prop} {M : Maps} {g g1 : Gh} {w w1 : World} {a a1 : Act} {e : Ex} {st' : St} (hE : Evo g w g1 w1) (hs : a1.tmps.size = a.tmps.size) (hd : DefOk g1 w w1 a.defers a1.defers) (hd' : nd → a1.defers = a.defers) (hn : nd → nd') {x : Exit} {a' : Act} {w' : World}
    (h : Post nd' M g1 w1 a1 e st' x a' w') : Post nd M g w a e st' x a' w' := by
  unfold Post at *
  split at h
  · exact h.trans hE hs hd hd' hn
  · exact ⟨h.1, h.2.trans hE hs hd hd' hn⟩
  · exact h.trans hE hs hd hd' hn
  · obtain ⟨⟨g', cv, β', h1, h2, h3, h4, h5⟩, h6, h7⟩ := h
    exact ⟨⟨g', cv, β', h1, h2, hE.trans h3, h4, hd.trans hE.size h3 h5⟩, h6.trans hs, fun k => (h7 (hn k)).trans (hd' k)⟩
  · exact h.elim
theorem Post.weak {nd nd' : Prop} {M : Maps} {g : Gh} {w : World} {a : Act} {e : Ex} {st' : St} (hn : nd → nd') {x : Exit} {a' : Act} {w' : World} (h : Post nd' M g w a e st' x a' w') : Post nd M g w a e st' x a' w' :=
  h.trans (Evo.refl g w) rfl .refl (fun _ => rfl) hn
theorem put_size (a : Act) (d : Option Nat) (c : Value) : (a.put d c).tmps.size = a.tmps.size := by cases d <;> simp [Act.put]
theorem put_defers (a : Act) (d : Option Nat) (c : Value) : (a.put d c).defers = a.defers := by cases d <;> rfl
section
variable {P : Program} {M : Maps} {g : Gh} {w : World} {β : Nat → Nat} {st : St} {a : Act} {call : Call}
theorem wanted_rep (hR : Rel M g w β st a.tmps) {ops : Array Oper} {o : Oper} {g' : Option (Nat × Bool)} (hg : gOf ops o.guard = some g') {b : Bool} (hw : wanted g' st.env = some b) :
    Go.Region.wanted o (Go.yielded ops a.tmps) = b := by
  unfold Go.Region.wanted
  cases ho : o.guard with
  | none =>
    rw [ho] at hg
    simp only [gOf, Option.some.injEq] at hg
    subst hg
    simpa [wanted] using hw
  | some jw =>
    obtain ⟨j, want⟩ := jw
    rw [ho] at hg
    simp only [gOf] at hg
    split at hg
    · rename_i o' ho'
      split at hg
      · rename_i d hd
        simp only [Option.some.injEq] at hg
        subst hg
        have hy : Go.yielded ops a.tmps j = match a.tmps[d]? with | some (.bool b) => some b | _ => none := by
          simp only [Go.yielded, ho', Option.bind_some, hd]
          rfl
        simp only [hy]
        have he := hR.e d
        simp only [wanted] at hw
        split at hw
        · rename_i z hz
          simp only [Option.some.injEq] at hw
          rw [hz] at he
          have hv : a.tmps.getD d Go.undef = .bool z := by
            generalize a.tmps.getD d Go.undef = c at he
            cases he with
            | s h => cases h with | d _ _ h => cases h; rfl
          rw [Array.getD_eq_getD_getElem?] at hv
          cases hq : a.tmps[d]? with
          | none => rw [hq] at hv; simp [Go.undef] at hv
          | some c =>
            rw [hq] at hv
            simp only [Option.getD_some] at hv
            subst hv
            rw [← hw]
            simp
        · rename_i hz
          simp only [Option.some.injEq] at hw
          rw [hz] at he
          have hv : a.tmps.getD d Go.undef = .tuple #[] := by
            generalize a.tmps.getD d Go.undef = c at he
            cases he with
            | s h => cases h with | tup _ vs h => 
              have : vs = #[] := Array.ext' (by
                generalize vs.toList = l at h
                cases h; rfl)
              rw [this]
          rw [Array.getD_eq_getD_getElem?] at hv
          rw [← hw]
          cases hq : a.tmps[d]? with
          | none => rfl
          | some c =>
            rw [hq] at hv
            simp only [Option.getD_some] at hv
            subst hv
            rfl
        · cases hw
      · cases hg
    · cases hg
theorem rel_skip (hR : Rel M g w β st a.tmps) {o : Oper} (hd : DstOk o a) : Rel M g w β (put o.dst (.tup []) st) (a.put o.dst Go.undef).tmps :=
  hR.putV hd (.s (.tup [] #[] .nil))
theorem put_def {g : Gh} {w0 w : World} (a : Act) (d : Option Nat) (c : Value) : DefOk g w0 w a.defers (a.put d c).defers := .same (put_defers a d c)
theorem put_getD {a : Act} {d : Option Nat} {c : Value} {n : Nat} (h : d ≠ some n) : (a.put d c).tmps.getD n Go.undef = a.tmps.getD n Go.undef := by
  cases d with
  | none => rfl
  | some m =>
    have : m ≠ n := fun e => h (by rw [e])
    simp only [Act.put, Array.getD_eq_getD_getElem?]
    rw [Array.getElem?_setIfInBounds_ne this]
theorem sim_seg (hcs : CallSim P M call) {A : Ann} {rid nt : Nat} {ops : Array Oper} {F : Fence} (hF : WF F) {n : Nat} : ∀ (rest : List Oper) (i : Nat) (more : List Nat) (l : List Op) (st : St) (g : Gh) (w : World) (β : Nat → Nat) (a : Act), (∀ k o, rest[k]? = some o → ops[i + k]? = some o) →
    trOps M P A rid ops i rest = some l → (∀ o ∈ rest, ∀ d, o.dst = some d → d < nt) → (∀ o ∈ rest, F.round = none ∨ notDefer o.op) → nt ≤ a.tmps.size → ∀ (e : Ex) (st' : St), runOps call l st = some (e, st') → Rel M g w β st a.tmps →
    ∀ Q : Exit → Act → World → Prop, (∀ a' w', Good True M g w a st' a' w' → (∀ n, (∀ o ∈ rest, o.dst ≠ some n) → a'.tmps.getD n Go.undef = a.tmps.getD n Go.undef) → e = .nrm → Go.wpOpsIn F n P ops Q more a' w') → (∀ x a' w', Post True M g w a e st' x a' w' → e ≠ .nrm → Q x a' w') → Go.wpOpsIn F n P ops Q (List.range' i rest.length ++ more) a w
  | [], i, more, l, st, g, w, β, a, hget, htr, hdst, hnd, hnt, e, st', hrun, hR, Q, hK, hQ => by
    simp only [trOps, Option.some.injEq] at htr
    subst htr
    simp only [runOps, Option.some.injEq, Prod.mk.injEq] at hrun
    obtain ⟨rfl, rfl⟩ := hrun
    exact hK _ _ ⟨⟨g, β, hR, Evo.refl g w, .refl⟩, rfl, fun _ => rfl⟩ (fun _ _ => rfl) rfl
  | o :: rest, i, more, l, st, g, w, β, a, hget, htr, hdst, hnd, hnt, e, st', hrun, hR, Q, hK, hQ => by
    simp only [trOps] at htr
    split at htr
    · rename_i g' r hg hr
      simp only [Option.some.injEq] at htr
      subst htr
      have hoi : ops[i]? = some o := by simpa using hget 0 o rfl
      have hget' : ∀ k o, rest[k]? = some o → ops[i + 1 + k]? = some o := fun k o hk => by
        have := hget (k + 1) o (by simpa using hk)
        rwa [show i + (k + 1) = i + 1 + k by omega] at this
      have hd : DstOk o a := fun n hn => Nat.lt_of_lt_of_le (hdst o (by simp) n hn) hnt
      have hdst' : ∀ o ∈ rest, ∀ d, o.dst = some d → d < nt := fun o ho => hdst o (by simp [ho])
      have hnd' : ∀ o ∈ rest, F.round = none ∨ notDefer o.op := fun o ho => hnd o (by simp [ho])
      rw [List.length_cons, List.range'_succ, List.cons_append, Go.wpOpsIn_cons]
      unfold Go.wpOpIn
      simp only [hoi]
      simp only [runOps] at hrun
      split at hrun
      · rename_i hw
        rw [wanted_rep hR hg hw]
        simp only [if_true]
        refine wpIn_of_wp hF (hnd o (by simp)) ?_
        split at hrun
        · rename_i q hq
          refine sim_op hcs hd hR (orStuck_some hq) (fun hloc hn => ?_) hq ⟨fun hp c w1 g1 β1 hR1 hE1 => ?_, fun hp cv w1 g1 β1 hR1 hE1 hv => ?_⟩
          · rw [hn] at hloc; simp at hloc
          · simp only [hp, cond_false] at hrun
            exact sim_seg hcs hF rest (i + 1) more r _ g1 w1 β1 _ hget' hr hdst' hnd' (by rw [put_size]; exact hnt) e st' hrun hR1 Q
              (fun a' w' hp hk he => hK a' w' (hp.trans hE1 (put_size _ _ _) (put_def _ _ _) (fun _ => put_defers _ _ _) id) (fun n hn => (hk n (fun o ho => hn o (by simp [ho]))).trans (put_getD (hn o (by simp)))) he) (fun x a' w' hpost => hQ x a' w' (hpost.trans hE1 (put_size _ _ _) (put_def _ _ _) (fun _ => put_defers _ _ _) id))
          · simp only [hp, cond_true, Option.some.injEq, Prod.mk.injEq] at hrun
            obtain ⟨rfl, rfl⟩ := hrun
            exact hQ _ _ _ (show Post True M g w a (.pan q.v) q.st (.panic _) a w1 from ⟨⟨g1, cv, β1, rfl, hR1, hE1, hv, .refl⟩, rfl, fun _ => rfl⟩) (by simp)
        · cases hrun
      · rename_i hw
        rw [wanted_rep hR hg hw]
        simp only [Bool.false_eq_true, if_false]
        refine ⟨fun f _ => hF.fn f, ?_⟩
        exact sim_seg hcs hF rest (i + 1) more r _ g w β _ hget' hr hdst' hnd' (by rw [put_size]; exact hnt) e st' hrun (rel_skip hR hd) Q
          (fun a' w' hp hk he => hK a' w' (hp.trans (Evo.refl g w) (put_size _ _ _) (put_def _ _ _) (fun _ => put_defers _ _ _) id) (fun n hn => (hk n (fun o ho => hn o (by simp [ho]))).trans (put_getD (hn o (by simp)))) he) (fun x a' w' hpost => hQ x a' w' (hpost.trans (Evo.refl g w) (put_size _ _ _) (put_def _ _ _) (fun _ => put_defers _ _ _) id))
      · cases hrun
    · cases htr
theorem sim_ops (hcs : CallSim P M call) {A : Ann} {rid nt : Nat} {ops : Array Oper} {F : Fence} (hF : WF F) {n : Nat} {l : List Op} {st : St} {a : Act} (htr : trOps M P A rid ops 0 ops.toList = some l) (hdst : ∀ o ∈ ops.toList, ∀ d, o.dst = some d → d < nt) (hnd : ∀ o ∈ ops.toList, F.round = none ∨ notDefer o.op)
    (hnt : nt ≤ a.tmps.size) {e : Ex} {st' : St} (hrun : runOps call l st = some (e, st')) (hR : Rel M g w β st a.tmps) {Q : Exit → Act → World → Prop} (hQ : ∀ x a' w', Post True M g w a e st' x a' w' → Q x a' w') : Go.wpOpsIn F n P ops Q (List.range ops.size) a w := by
  have := sim_seg hcs hF (n := n) ops.toList 0 [] l st g w β a (fun k o hk => by simpa using hk) htr hdst hnd hnt e st' hrun hR Q (fun a' w' hg _ he => by subst he; exact hQ _ _ _ (show Post True M g w a .nrm st' .normal a' w' from hg)) (fun x a' w' hp _ => hQ x a' w' hp)
  rwa [List.append_nil, show List.range' 0 ops.toList.length = List.range ops.size by simp [List.range_eq_range']] at this
theorem get_restrict (live : List Nat) (e : Env) (k : Nat) : get k (restrict live e) = (if k ∈ live then (match get k e with | .lp _ _ => .undef | v => v) else .undef) := by
  unfold restrict
  induction live with
  | nil => simp [get]
  | cons n l ih =>
    simp only [List.map_cons, get_cons, ih]
    by_cases h : k = n
    · subst h; simp; cases get k e <;> rfl
    · simp [h]
theorem Rel.restrict {tmps : Array Value} (hR : Rel M g w β st tmps) (live : List Nat) : Rel M g w β { st with env := W.restrict live st.env } tmps := by
  refine ⟨hR.n, fun k => ?_, hR.h, hR.fresh, hR.gl⟩
  show RepT M g w β k (get k (W.restrict live st.env)) _
  rw [get_restrict]
  split
  · have := hR.e k
    generalize get k st.env = v at this
    generalize tmps.getD k Go.undef = c at this
    cases this with
    | s h => cases h <;> exact .s (by constructor <;> assumption)
    | osl h => exact .osl h
    | lp s off => exact .s (.undef _)
    | cp x b off vs hr hc hp => exact .cp x b off vs hr hc hp
    | box cs arr T hb ho hp hl hr => exact .box cs arr T hb ho hp hl hr
  · exact .s (.undef _)
end
def ExSim (P : Program) (M : Maps) (ex : C → St → Option (Ex × St)) : Prop :=
  ∀ (A : Ann) (blk : Nat) (code : Code) (c : C), trC M P A blk code = some c → ∀ st e st', ex c st = some (e, st') → ∀ g w β a nt, dstIn nt code = true → nt ≤ a.tmps.size → Rel M g w β st a.tmps →
    ∀ (F : Fence) (n : Nat), WF F → (F.round = none ∨ noDefer code = true) → ∀ Q : Exit → Act → World → Prop, (∀ x a' w', Post (noDefer code = true) M g w a e st' x a' w' → Q x a' w') → code.wpIn F n P Q a w
noncomputable def least (p : Nat → Prop) : Nat := open Classical in if h : ∃ n, p n ∧ ∀ m, m < n → ¬ p m then Classical.choose h else 0
theorem least_spec {p : Nat → Prop} {n : Nat} (h : p n) : p (least p) ∧ least p ≤ n := by
  have ex : ∃ n, p n ∧ ∀ m, m < n → ¬ p m := by
    induction n using Nat.strongRecOn with
    | _ n ih =>
      by_cases hm : ∃ m, m < n ∧ p m
      · obtain ⟨m, h1, h2⟩ := hm; exact ih m h1 h2
      · exact ⟨n, h, fun m h1 h2 => hm ⟨m, h1, h2⟩⟩
  unfold least
  rw [dif_pos ex]
  obtain ⟨h1, h2⟩ := Classical.choose_spec ex
  refine ⟨h1, ?_⟩
  rcases Nat.lt_or_ge n (Classical.choose ex) with hlt | hge
  · exact absurd h (h2 n hlt)
  · exact hge
def OpenSim (P : Program) (M : Maps) (call : Call) : Prop :=
  ∀ (A : Ann) (rid : Nat) (ops : Array Oper) (l : List Op), trOps M P A rid ops 0 ops.toList = some l → lexI ops = true → orderOk ops l = true →
    ∀ st e st', runOpsD call (l.zipIdx.map fun (o, i) => (o, flagAt ops l.length o i, notYet ops l i)) st = some (e, st') → ∀ g w β a nt, (∀ o ∈ ops.toList, ∀ d, o.dst = some d → d < nt) → nt ≤ a.tmps.size → Rel M g w β st a.tmps →
    ∀ (F : Fence) (n : Nat), WF F → (F.round = none ∨ noDefer (.region rid ops true) = true) → ∀ Q : Exit → Act → World → Prop, (∀ x a' w', Post True M g w a e st' x a' w' → Q x a' w') → (Code.region rid ops true).wpIn F n P Q a w
theorem dst_of_in {nt : Nat} {rid : Nat} {ops : Array Oper} {b : Bool} (h : dstIn nt (.region rid ops b) = true) : ∀ o ∈ ops.toList, ∀ d, o.dst = some d → d < nt := fun o ho d hd => by
  simp only [dstIn, List.all_eq_true] at h
  have := h o ho
  rw [hd] at this
  simp only [Nat.blt_eq] at this
  exact this
theorem nd_of {F : Fence} {rid : Nat} {ops : Array Oper} {b : Bool} (h : F.round = none ∨ noDefer (.region rid ops b) = true) : ∀ o ∈ ops.toList, F.round = none ∨ notDefer o.op := fun o ho => by
  rcases h with h | h
  · exact .inl h
  · refine .inr (fun c hc => ?_)
    simp only [noDefer, List.all_eq_true] at h
    have := h o ho
    rw [hc] at this
    cases this
def RangeSim (P : Program) (M : Maps) (ex : C → St → Option (Ex × St)) : Prop :=
  ∀ (k : Nat) (l : L) (f : Operand) (f' : O) (p0 p1 : Nat) (live : List Nat) (x y : Code) (a b : C) (A : Ann) (blk : Nat), look M.bk k = some l → opnd M false f = some f' → trC M P A blk x = some a → trC M P A blk y = some b → noDefer x = true → noDefer y = true →
    ∀ (c : V) (st : St) (n : Nat) (e : Ex) (st' : St), rd st.env f' = .fn k [] [c] → c.ok = true → backCount c st.H st.lo = some n → rounds (ex a) (ex b) l c p0 p1 (roundEnv live st.env) n st.H st.lo = some (e, st') →
    ∀ g w β act nt, p0 < nt → p1 < nt → dstIn nt x = true → dstIn nt y = true → nt ≤ act.tmps.size → Rel M g w β st act.tmps →
    ∀ m (Q : Exit → Act → World → Prop), (∀ x a' w', Post False M g w act e st' x a' w' → Q x a' w') → (Code.rangeFunc f #[p0, p1] x y).wpIn Fence.wide m P Q act w
theorem sim_exec {P : Program} {M : Maps} {pg : Pg} (hC : ∀ n, ExSim P M (exec pg n) → CallSim P M (callWith pg (exec pg n))) (hO : ∀ n, CallSim P M (callWith pg (exec pg n)) → OpenSim P M (callWith pg (exec pg n))) (hB : ∀ n, ExSim P M (exec pg n) → RangeSim P M (exec pg n)) : ∀ n, ExSim P M (exec pg n) := by
  intro n
  induction n using Nat.strongRecOn with
  | _ n IH =>
  cases n with
  | zero => intro A blk code c _ st e st' h; simp [exec] at h
  | succ n =>
    have ih := IH n (Nat.lt_succ_self n)
    have hcs := hC n ih
    intro A blk code c htr st e st' hrun g w β a nt hdst hnt hR F m hF hnd Q hQ
    have hrun : step (callWith pg (exec pg n)) (exec pg n) c st = some (e, st') := hrun
    cases code with
    | skip =>
      simp only [trC, Option.some.injEq] at htr
      subst htr
      simp only [step, Option.some.injEq, Prod.mk.injEq] at hrun
      obtain ⟨rfl, rfl⟩ := hrun
      exact Go.wpIn_skip (hQ _ _ _ (show Post _ M g w a .nrm st .normal a w from ⟨⟨g, β, hR, Evo.refl g w, .refl⟩, rfl, fun _ => rfl⟩))
    | region rid ops draw =>
      simp only [trC] at htr
      split at htr
      · rename_i l hl
        cases draw with
        | false =>
          simp only [Bool.false_eq_true, if_false, Option.some.injEq] at htr
          subst htr
          refine Go.wpIn_region ?_
          exact sim_ops hcs hF hl (dst_of_in hdst) (nd_of hnd) hnt hrun hR (fun x a' w' hp => hQ x a' w' (hp.weak (fun _ => trivial)))
        | true =>
          simp only [if_true] at htr
          split at htr
          · rename_i hc
            simp only [Bool.and_eq_true] at hc
            simp only [Option.some.injEq] at htr
            subst htr
            exact hO _ hcs A rid ops l hl hc.1 hc.2 st e st' hrun g w β a nt (dst_of_in hdst) hnt hR F m hF hnd Q (fun x a' w' hp => hQ x a' w' (hp.weak (fun _ => trivial)))
          · simp only [Option.some.injEq] at htr
            subst htr
            cases hrun
      · simp only [Option.some.injEq] at htr
        subst htr
        cases hrun
    | seq x y =>
      simp only [trC] at htr
      split at htr
      · rename_i cx cy hx hy
        simp only [Option.some.injEq] at htr
        subst htr
        simp only [dstIn, Bool.and_eq_true] at hdst
        have hnd1 : F.round = none ∨ noDefer x = true := hnd.imp id (fun h => by simp only [noDefer, Bool.and_eq_true] at h; exact h.1)
        have hnd2 : F.round = none ∨ noDefer y = true := hnd.imp id (fun h => by simp only [noDefer, Bool.and_eq_true] at h; exact h.2)
        simp only [step] at hrun
        refine Go.wpIn_seq ?_
        split at hrun
        · rename_i st1 h1
          refine ih A blk x cx hx st _ st1 h1 g w β a nt hdst.1 hnt hR F m hF hnd1 _ (fun ex a1 w1 hp => ?_)
          unfold Post at hp
          split at hp
          · obtain ⟨⟨g1, β1, hR1, hE1, hd1⟩, hs1, hq1⟩ := hp
            exact ih A blk y cy hy st1 e st' hrun g1 w1 β1 a1 nt hdst.2 (by rw [hs1]; exact hnt) hR1 F m hF hnd2 Q (fun x' a' w' hp => hQ x' a' w' (hp.trans hE1 hs1 hd1 (fun h => hq1 (by simp only [noDefer, Bool.and_eq_true] at h; exact h.1)) (fun h => by simp only [noDefer, Bool.and_eq_true] at h; exact h.2)))
          all_goals first | exact hp.elim | (rename_i h; cases h)
        · rename_i hne
          refine ih A blk x cx hx st e st' hrun g w β a nt hdst.1 hnt hR F m hF hnd1 _ (fun ex a1 w1 hp => ?_)
          have hq := hQ ex a1 w1 (hp.weak (fun h => by simp only [noDefer, Bool.and_eq_true] at h; exact h.1))
          cases ex with
          | normal =>
            exfalso
            cases e with
            | nrm => exact hne st' hrun
            | _ => exact hp
          | _ => exact hq
      · cases htr
    | cond o x y =>
      simp only [trC] at htr
      split at htr
      · rename_i o' cx cy ho hx hy
        simp only [Option.some.injEq] at htr
        subst htr
        simp only [dstIn, Bool.and_eq_true] at hdst
        have hnd1 : F.round = none ∨ noDefer x = true := hnd.imp id (fun h => by simp only [noDefer, Bool.and_eq_true] at h; exact h.1)
        have hnd2 : F.round = none ∨ noDefer y = true := hnd.imp id (fun h => by simp only [noDefer, Bool.and_eq_true] at h; exact h.2)
        have ho1 := rd_rep hR ho
        simp only [step] at hrun
        split at hrun
        · rename_i hv
          rw [hv] at ho1
          exact Go.wpIn_cond_true (repD_b ho1.inv_d) (ih A blk x cx hx st e st' hrun g w β a nt hdst.1 hnt hR F m hF hnd1 Q (fun x' a' w' hp => hQ x' a' w' (hp.weak (fun h => by simp only [noDefer, Bool.and_eq_true] at h; exact h.1))))
        · rename_i hv
          rw [hv] at ho1
          exact Go.wpIn_cond_false (repD_b ho1.inv_d) (ih A blk y cy hy st e st' hrun g w β a nt hdst.2 hnt hR F m hF hnd2 Q (fun x' a' w' hp => hQ x' a' w' (hp.weak (fun h => by simp only [noDefer, Bool.and_eq_true] at h; exact h.2))))
        · cases hrun
      · cases htr
    | block id x =>
      simp only [trC] at htr
      split at htr
      · rename_i cx hx
        simp only [Option.some.injEq] at htr
        subst htr
        simp only [dstIn] at hdst
        have hnd1 : F.round = none ∨ noDefer x = true := hnd.imp (fun h => h) (fun h => by simpa only [noDefer] using h)
        simp only [step] at hrun
        refine Go.wpIn_block ?_
        have res : ∀ {st1 : St} {a1 : Act} {w1 : World}, Good (noDefer x = true) M g w a st1 a1 w1 → Good (noDefer (.block id x) = true) M g w a { st1 with env := restrict ((look A.bl id).getD []) st1.env } a1 w1 := fun h => by
          obtain ⟨⟨g1, β1, hR1, hE1, hd1⟩, hs1, hq1⟩ := h
          exact ⟨⟨g1, β1, hR1.restrict _, hE1, hd1⟩, hs1, fun h => hq1 (by simpa only [noDefer] using h)⟩
        split at hrun
        · rename_i st1 h1
          simp only [Option.some.injEq, Prod.mk.injEq] at hrun
          obtain ⟨rfl, rfl⟩ := hrun
          refine ih A id x cx hx st _ st1 h1 g w β a nt hdst hnt hR F m hF hnd1 _ (fun ex a1 w1 hp => ?_)
          cases ex <;> first | exact hQ _ _ _ (show Post _ M g w a .nrm _ .normal a1 w1 from res hp) | exact hp.elim
        · rename_i j st1 h1
          rw [Bool.cond_eq_ite] at hrun
          split at hrun
          · rename_i hj
            have hj := Nat.eq_of_beq_eq_true hj
            simp only [Option.some.injEq, Prod.mk.injEq] at hrun
            obtain ⟨rfl, rfl⟩ := hrun
            refine ih A id x cx hx st _ st1 h1 g w β a nt hdst hnt hR F m hF hnd1 _ (fun ex a1 w1 hp => ?_)
            cases ex with
            | exit id' =>
              obtain ⟨h2, h3⟩ := hp
              simp only [Exit.inBlock, h2, hj, if_true]
              exact hQ _ _ _ (show Post _ M g w a .nrm _ .normal a1 w1 from res h3)
            | _ => exact hp.elim
          · rename_i hj
            have hj : j ≠ id := fun e => hj (by subst e; simp)
            simp only [Option.some.injEq, Prod.mk.injEq] at hrun
            obtain ⟨rfl, rfl⟩ := hrun
            refine ih A id x cx hx st _ st1 h1 g w β a nt hdst hnt hR F m hF hnd1 _ (fun ex a1 w1 hp => ?_)
            cases ex with
            | exit id' =>
              have h2 := hp.1
              subst h2
              simp only [Exit.inBlock, hj, if_false]
              exact hQ _ _ _ (Post.weak (fun h => by simpa only [noDefer] using h) hp)
            | _ => exact hp.elim
        · rename_i hne1 hne2
          refine ih A id x cx hx st e st' hrun g w β a nt hdst hnt hR F m hF hnd1 _ (fun ex a1 w1 hp => ?_)
          cases e with
          | nrm => exact (hne1 st' hrun).elim
          | exit j => exact (hne2 j st' hrun).elim
          | _ => cases ex <;> first | exact hQ _ _ _ (Post.weak (fun h => by simpa only [noDefer] using h) hp) | exact hp.elim
      · cases htr
    | loop x =>
      simp only [trC] at htr
      split at htr
      · rename_i cx hx
        simp only [Option.some.injEq] at htr
        subst htr
        simp only [dstIn] at hdst
        have hnd1 : F.round = none ∨ noDefer x = true := hnd.imp id (fun h => by simpa only [noDefer] using h)
        let live := (look A.ll blk).getD []
        let J : Act → World → Nat → Prop := fun a1 w1 k => k ≤ n + 1 ∧ ∃ st1 g1 β1, Rel M g1 w1 β1 st1 a1.tmps ∧ Evo g w g1 w1 ∧ a1.tmps.size = a.tmps.size ∧ DefOk g1 w w1 a.defers a1.defers ∧ (noDefer x = true → a1.defers = a.defers) ∧ exec pg k (.loop live cx) st1 = some (e, st')
        refine Go.wpIn_loop (fun a1 w1 => ∃ k, J a1 w1 k) (fun a1 w1 => least (J a1 w1)) ⟨n + 1, Nat.le_refl _, st, g, β, hR, Evo.refl g w, rfl, .refl, fun _ => rfl, hrun⟩ (fun a1 w1 hI => ?_)
        obtain ⟨k0, hk0⟩ := hI
        have hk := (least_spec hk0).1
        generalize least (J a1 w1) = k at hk
        obtain ⟨hkn, st1, g1, β1, hR1, hE1, hs1, hd1, hq1, hrun1⟩ := hk
        cases k with
        | zero => simp [exec] at hrun1
        | succ k =>
          have hrun1 : step (callWith pg (exec pg k)) (exec pg k) (.loop live cx) st1 = some (e, st') := hrun1
          have ihk := IH k (by omega)
          simp only [step] at hrun1
          split at hrun1
          · rename_i st2 h2
            refine ihk A blk x cx hx _ _ st2 h2 g1 w1 β1 a1 nt hdst (by rw [hs1]; exact hnt) (hR1.restrict live) F m hF hnd1 _ (fun ex a2 w2 hp => ?_)
            cases ex with
            | normal =>
              obtain ⟨⟨g2, β2, hR2, hE2, hd2⟩, hs2, hq2⟩ := (hp : Good (noDefer x = true) M g1 w1 a1 st2 a2 w2)
              have hJ : J a2 w2 k := ⟨by omega, st2, g2, β2, hR2, hE1.trans hE2, hs2.trans hs1, hd1.trans hE1.size hE2 hd2, fun h => (hq2 h).trans (hq1 h), hrun1⟩
              exact ⟨⟨k, hJ⟩, Nat.lt_succ_of_le (least_spec hJ).2⟩
            | _ => exact hp.elim
          · rename_i hne
            refine ihk A blk x cx hx _ e st' hrun1 g1 w1 β1 a1 nt hdst (by rw [hs1]; exact hnt) (hR1.restrict live) F m hF hnd1 _ (fun ex a2 w2 hp => ?_)
            have hq := hQ ex a2 w2 (hp.trans hE1 hs1 hd1 (fun h => hq1 (by simpa only [noDefer] using h)) (fun h => by simpa only [noDefer] using h))
            cases ex with
            | normal =>
              exfalso
              cases e with
              | nrm => exact hne st' hrun1
              | _ => exact hp
            | _ => exact hq
      · cases htr
    | exit id =>
      simp only [trC, Option.some.injEq] at htr
      subst htr
      simp only [step, Option.some.injEq, Prod.mk.injEq] at hrun
      obtain ⟨rfl, rfl⟩ := hrun
      exact Go.wpIn_exit (hQ _ _ _ (show Post _ M g w a (.exit id) st (.exit id) a w from ⟨rfl, ⟨g, β, hR, Evo.refl g w, .refl⟩, rfl, fun _ => rfl⟩))
    | ret =>
      simp only [trC, Option.some.injEq] at htr
      subst htr
      simp only [step, Option.some.injEq, Prod.mk.injEq] at hrun
      obtain ⟨rfl, rfl⟩ := hrun
      exact Go.wpIn_ret (hQ _ _ _ (show Post _ M g w a .ret st .ret a w from ⟨⟨g, β, hR, Evo.refl g w, .refl⟩, rfl, fun _ => rfl⟩))
    | rangeFunc f ps x y =>
      have hnone : F.round = none := hnd.resolve_right (by simp [noDefer])
      have hFw : F = Fence.wide := by cases hF with | wide => rfl | round l => cases hnone
      subst hFw
      simp only [trC] at htr
      split at htr
      · rename_i k hk
        split at htr
        · rename_i l f' p0 p1 cx cy hl hf hps hx hy
          split at htr
          · rename_i hnn
            simp only [Bool.and_eq_true] at hnn
            simp only [Option.some.injEq] at htr
            subst htr
            obtain ⟨cv, q, h1, h2, h3, h4⟩ := rangeB_inv hrun
            have hps2 : ps = #[p0, p1] := by
              apply Array.ext'; simpa using hps
            subst hps2
            simp only [dstIn, Bool.and_eq_true, List.all_cons, List.all_nil, Bool.and_true, Nat.blt_eq] at hdst
            exact hB n ih k l f f' p0 p1 _ x y cx cy A blk hl hf hx hy hnn.1 hnn.2 cv st q e st' h1 h2 h3 h4 g w β a nt hdst.1.1 hdst.1.2 hdst.2.1 hdst.2.2 hnt hR m Q (fun x' a' w' hp => hQ x' a' w' (hp.weak (fun h => by simp [noDefer] at h)))
          · simp only [Option.some.injEq] at htr; subst htr; cases hrun
        · simp only [Option.some.injEq] at htr; subst htr; cases hrun
      · simp only [Option.some.injEq] at htr; subst htr; cases hrun
    | _ =>
      simp only [trC, Option.some.injEq] at htr
      subst htr
      cases hrun
end W

