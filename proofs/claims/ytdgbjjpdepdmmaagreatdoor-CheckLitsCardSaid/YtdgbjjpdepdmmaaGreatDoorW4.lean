/-
  CheckLits: which constants are right, of any type; both checkers, of any constant: part 4 of what the proof rests on (a value semantics for a part of the language, sound against the model; the walks).
-/
import Derived.Great.BuildSlice
import Derived.DataReads
import Derived.Laws.BytesString
import Derived.Laws.Runes
import Derived.OrdersIn
import Derived.RangeFuncLeaves
import Derived.RecoverIn
import Derived.RangeFuncOwn
import Derived.RangeFuncIn
import Derived.Test.YtdgbjjpdepdmmaaGreatDoorW3
/-
  Slices that grow.
-/
set_option linter.unusedSimpArgs false
set_option linter.unusedVariables false
open Bool renaming false_eq_true → qDt, and_self → qDA, and_eq_true → qDB, or_true → qDC, cond_eq_ite → qDH, or_self → qDJ, not_true → qDL, not_false → qDM
open List renaming getElem?_cons_zero → qDu, getElem?_cons_succ → qDv, map_cons → qDy, length_nil → qDD, length_cons → qDE, map_nil → qDF, set_cons_zero → qDK, take_succ_cons → qDN, set_cons_succ → qDO, drop_zero → qDQ, take_zero → qDT, drop_succ_cons → qDX
open Option renaming map_some → qDw, bind_eq_some_iff → qDI, bind_eq_bind → qDP, pure_def → qDV
open Nat renaming le_refl → qDx, zero_add → qDz, beq → qDG, eq_of_beq_eq_true → qDR, zero_le → qDS, add_zero → qDU
open Int renaming cast_ofNat_Int → qDW
namespace W
open Go (World Value Addr IntKind Program TypeId FuncId Operand Act Oper Next Result Sem BinOp UnOp)
section
variable {P : Program} {M : Maps} {g : Gh} {w : World} {β : Nat → Nat} {st : St} {o : Oper} {a : Act}
structure Src (P : Program) (g : Gh) (w : World) (size : Nat) (c : Value) (ys : List D) (news : List Value) : Prop where
  len : ∀ w', (Go.Builtin.lenOf c).run P w' = .ok ys.length w'
  cells : ∀ w', SameMem w w' → (Go.Builtin.firstCells size ys.length c).run P w' = .ok news.toArray w'
  rep : RepDL g.pub w (ys.flatMap D.cells) news
  one : ∀ u ∈ news, u.oneCell' = true
  sz : ∀ x ∈ ys, x.cells.length = size
theorem qrD (size : Nat) : Src P g w size (.slice none 0 0) [] [] :=
  ⟨fun _ => rfl, fun _ _ => rfl, .nil, by simp, by simp⟩
theorem qjJ {ys : List D} {c : Value} {size : Nat} (h : RepD g.pub w (.sl ys) c) (hh : yP size ys = true) : ∃ news, Src P g w size c ys news := by
  cases h with
  | sl0 ad cap => exact ⟨[], fun _ => rfl, fun w' hw => by simp [Go.Builtin.firstCells, Go.loadCells, Go.loadCellsFrom], .nil, by simp, by simp⟩
  | sl _ b off cap sz vs hne hs hrep hcell hpub hcap hone =>
    have hsz := qgo hh hne hs
    subst hsz
    refine ⟨vs, fun _ => rfl, fun w' hw => ?_, hrep, hone, hs⟩
    refine Go.run_firstCells_some (P := P) w' sz ys.length _ _ _ vs (by rw [← hrep.length, qbF ys _ hs]) (fun j v hj => ?_)
    rw [qbj]
    have := hcell j v hj
    simpa only [World.cell?, hw.heap] using this
theorem qju {z : ByteArray} : Src P g w 1 (.string z) ((z.data.toList.map (·.toNat)).map fun n : Nat => D.i .u8 n) (z.data.toList.map fun b => Value.int .u8 b.toNat) := by
  have hn : ((z.data.toList.map (·.toNat)).map fun n : Nat => D.i .u8 n).length = z.size := by simp
  refine ⟨fun w' => ?_, fun w' hw => ?_, ?_, fun u hu => ?_, fun x hx => ?_⟩
  · rw [hn]; rfl
  · rw [hn]
    simp only [Go.Builtin.firstCells, Sem.run_pure]
    congr 1
    have : z.extract 0 z.size = z := by
      apply ByteArray.ext
      rw [ByteArray.data_extract]
      exact Array.extract_size
    rw [this]
    apply Array.ext'
    simp
  · generalize z.data.toList = l
    induction l with
    | nil => exact .nil
    | cons b l ih => exact .cons _ _ _ _ (.i _ _) ih
  · simp only [List.mem_map] at hu
    obtain ⟨b, _, rfl⟩ := hu
    rfl
  · simp only [List.mem_map] at hx
    obtain ⟨b, _, rfl⟩ := hx
    rfl
def qmt (P : Program) (u : TypeId) : Prop := P.underlying u = some .string ∨ ∃ e, P.underlying u = some (.slice e)
theorem qjo {t u ty e : TypeId} {i : Go.TypeInfo} (ht : P.underlying t = some (.slice e)) (hu : qmt P u) (hi : P.info? e = some i) {c : Value} {ys : List D} {news : List Value} (hs : Src P g w i.size c ys news)
    {b off sLen sCap : Nat} (hroom : sLen + ys.length ≤ sCap) {w' : World} (hst : (Go.storeCells ⟨b, off + sLen * i.size, none⟩ news).run P w = .ok () w') :
    (Go.Builtin.append_ #[t, u] ty #[.slice (some ⟨b, off, none⟩) sLen sCap, c]).run P w = .ok (.slice (some ⟨b, off, none⟩) (sLen + ys.length) sCap) w' := by
  have h1 := hs.len w
  have h2 := hs.cells w (SameMem.refl w)
  rcases hu with hu | ⟨e', hu⟩ <;>
  simp [Go.Builtin.append_, Go.run_underlying ht, Go.run_underlying hu, Go.sizeOf, Go.typeInfo, hi, h1, h2, hroom, qbj, hst]
theorem qis {t u ty e : TypeId} {i : Go.TypeInfo} (ht : P.underlying t = some (.slice e)) (hu : qmt P u) (hi : P.info? e = some i) {c : Value} (hs : Src P g w i.size c [] [])
    {ad : Addr} {n : Nat} : (Go.Builtin.append_ #[t, u] ty #[.slice (some ad) n n, c]).run P w = .ok (.slice (some ad) n n) w := by
  have h1 := hs.len w
  have h2 := hs.cells w (SameMem.refl w)
  have hst : ∀ x, (Go.storeCells x []).run P w = .ok () w := fun x => rfl
  simp only [qDD] at h1 h2
  rcases hu with hu | ⟨e', hu⟩ <;>
  simp [Go.Builtin.append_, Go.run_underlying ht, Go.run_underlying hu, Go.sizeOf, Go.typeInfo, hi, h1, h2, hst]
theorem qoc {t u ty e : TypeId} {i : Go.TypeInfo} (ht : P.underlying t = some (.slice e)) (hu : qmt P u) (hi : P.info? e = some i) {c : Value} {news : List Value} (hs : Src P g w i.size c [] news) :
    (Go.Builtin.append_ #[t, u] ty #[.slice none 0 0, c]).run P w = .ok (.slice none 0 0) w := by
  have h1 := hs.len w
  have h2 := hs.cells w (SameMem.refl w)
  simp only [qDD] at h1 h2
  rcases hu with hu | ⟨e', hu⟩ <;>
  simp [Go.Builtin.append_, Go.run_underlying ht, Go.run_underlying hu, Go.sizeOf, Go.typeInfo, hi, h1, h2]
theorem qfi {t u ty e : TypeId} {i : Go.TypeInfo} {z : Value} (ht : P.underlying t = some (.slice e)) (hu : qmt P u) (hi : P.info? e = some i) (hz : i.zero = some z) {c : Value} {ys : List D} {news : List Value} (hs : Src P g w i.size c ys news)
    {base : Option Addr} {sLen sCap : Nat} {olds : List Value} (hold : (Go.Builtin.firstCells i.size sLen (.slice base sLen sCap)).run P w.drew = .ok olds.toArray w.drew)
    (hg : sCap < sLen + ys.length) (hroomy : roomy i.bytes (sLen + ys.length) = true) :
    (Go.Builtin.append_ #[t, u] ty #[.slice base sLen sCap, c]).run P w =
      .ok (.slice (some ⟨w.heap.size, 0, none⟩) (sLen + ys.length) (Go.grownCap w (sLen + ys.length) sCap e))
        (w.drew.alloc (.cells (olds.toArray ++ news.toArray ++ Go.Builtin.zeroCells z.cells (Go.grownCap w (sLen + ys.length) sCap e - (sLen + ys.length))) e)) := by
  simp only [roomy, qDB] at hroomy
  have hb1 := Nat.le_of_ble_eq_true hroomy.1
  have hb2 := Nat.le_of_ble_eq_true hroomy.2
  have h1 := hs.len w
  have h2 := hs.cells w.drew ⟨rfl, rfl, rfl⟩
  have hn : ¬ (sLen + ys.length ≤ sCap) := by omega
  have h63' : ¬ (9223372036854775807 < ((sLen : Int) + (ys.length : Int))) := by omega
  have hfit := Go.growslice_fits hg hb1
  have h48' : ¬ (281474976710656 < Go.Builtin.nextslicecap (sLen + ys.length) sCap * i.bytes) := by omega
  rcases hu with hu | ⟨e', hu⟩ <;>
  · simp [Go.Builtin.append_, Go.run_underlying ht, Go.run_underlying hu, Go.sizeOf, Go.typeInfo, Go.zeroValue, hi, hz, h1, hn, h63', h48', Go.Question.forced, h2, hold, Go.newRow, Go.grownCap]
    try (congr 2; apply Array.ext'; simp [List.append_assoc])
theorem qdS {c : Go.Call} {args : List Operand} {ats : List TypeId} {x y : Operand} {s u : TypeId} (ho : o.op = .call c) (hcal : c.callee = .builtin .append) (hargs : c.args.toList = [x, y]) (hats : c.argTypes.toList = [s, u]) {v : Value} {w' : World}
    (h : ∀ ty, (Go.Builtin.append_ #[s, u] ty #[a.eval x, a.eval y]).run P w = .ok v w') : (Go.execOp a.eval o).run P w = .ok (.value v) w' := by
  obtain ⟨cal, cargs, cats⟩ := c
  simp only at hcal hargs hats
  subst hcal
  have e1 : cargs = #[x, y] := Array.ext' hargs
  have e2 : cats = #[s, u] := Array.ext' hats
  subst e1; subst e2
  simp only [Go.execOp, ho, Go.resolve, Go.invoke, Go.builtin, Sem.run_bind, Sem.run_pure, Result.andThen_ok]
  simp [h]
theorem qr1 {x' y' : O} {f : Nat → Bool} {args : List Operand} (h : opnds M f 0 args = some [x', y']) : ∃ x y, args = [x, y] ∧ opnd M (f 0) x = some x' ∧ opnd M (f 1) y = some y' := by
  cases args with
  | nil => simp [opnds] at h
  | cons x l =>
    simp only [opnds] at h
    split at h
    · rename_i z r hz hr
      simp only [Option.some.injEq, List.cons.injEq] at h
      obtain ⟨rfl, rfl⟩ := h
      cases l with
      | nil => simp [opnds] at hr
      | cons y l =>
        simp only [opnds] at hr
        split at hr
        · rename_i z2 r2 hz2 hr2
          simp only [Option.some.injEq, List.cons.injEq] at hr
          obtain ⟨rfl, rfl⟩ := hr
          cases l with
          | nil => exact ⟨x, y, rfl, hz, hz2⟩
          | cons q l =>
            simp only [opnds] at hr2
            split at hr2 <;> simp at hr2
        · cases hr
    · cases h
theorem qhh (w : World) {z : Value} {i : Go.TypeInfo} (hzs : z.cells.size = i.size) (need old : Nat) (e : TypeId) {all : List Value} (hl : all.length = need * i.size) :
    Go.grownCap w need old e * i.size ≤ (all.toArray ++ Go.Builtin.zeroCells z.cells (Go.grownCap w need old e - need)).size := by
  have hge := Go.grownCap_ge w need old e
  simp only [Array.size_append, List.size_toArray, Go.size_zeroCells, hzs, hl, ← Nat.add_mul]
  exact Nat.mul_le_mul_right _ (by omega)
theorem qid (n : Nat) : ∀ j, j < n → (decide (((0, 0) : Nat × Nat).1 ≤ j) && decide (j < ((0, 0) : Nat × Nat).2)) = false := fun j _ => by simp
def qnT (ys : List D) : V := match ys with | [] => .d .nil | _ => .osl ys
theorem qnc (hd : jj o a) (hR : Rel M g w β st a.tmps) {t u e : TypeId} {i : Go.TypeInfo} {z : Value} (ht : P.underlying t = some (.slice e)) (hu : qmt P u) (hi : P.info? e = some i) (hz : i.zero = some z) (hzs : z.cells.size = i.size)
    {x y : Operand} {c : Go.Call} (ho : o.op = .call c) (hcal : c.callee = .builtin .append) (hargs : c.args.toList = [x, y]) (hats : c.argTypes.toList = [t, u])
    {ys : List D} {news : List Value} (hs : Src P g w i.size (a.eval y) ys news) (hx : a.eval x = .slice none 0 0) (hroomy : roomy i.bytes ys.length = true) {r : Or}
    (hr : ok (qnT ys) st = some r) : Left1 P M g w o a r := by
  cases hys : ys with
  | nil =>
    subst hys
    exact kw hd hR (.s (.d _ _ .nil)) (qdS (args := []) (ats := []) ho hcal hargs hats (fun ty => by rw [hx]; exact qoc ht hu hi hs)) hr
  | cons y0 l =>
    have hne : ys ≠ [] := by rw [hys]; simp
    have e1 : qnT ys = qmr ys := by rw [hys]; rfl
    rw [e1] at hr
    simp only [ok, Option.some.injEq] at hr
    subst hr
    have hpos : 0 < ys.length := by rw [hys]; simp
    have hrun := qfi (ty := 0) ht hu hi hz hs (base := none) (sLen := 0) (sCap := 0) (olds := []) rfl (by omega) (by rw [qDz]; exact hroomy)
    simp only [qDz, List.append_nil, Array.empty_append] at hrun
    have hsm : SameMem w w.drew := ⟨rfl, rfl, rfl⟩
    have hR' := hR.sameMem hsm
    have hln : news.length = ys.length * i.size := by rw [← hs.rep.length, qbF ys _ hs.sz]
    obtain ⟨g', h1, h2⟩ := qjv (T := e) (fz := (0, 0)) (arr := news.toArray ++ Go.Builtin.zeroCells z.cells (Go.grownCap w ys.length 0 e - ys.length)) hd hR' hs.sz (hs.rep.mono (hsm.grow g).pub (hsm.grow g).cell)
      (by simp) (Go.grownCap_ge w ys.length 0 e) (qhh w hzs _ _ _ hln) hs.one (qid _)
    refine ⟨_, _, g', β, .value (qdS (args := []) (ats := []) ho hcal hargs hats (fun ty => ?_)), h1, (hsm.evo g).trans h2⟩
    rw [hx]
    have hrun' := qfi (ty := ty) ht hu hi hz hs (base := none) (sLen := 0) (sCap := 0) (olds := []) rfl (by omega) (by rw [qDz]; exact hroomy)
    simpa using hrun'
theorem qsF (hd : jj o a) (hR1 : Rel M g w β st a.tmps) {t u e : TypeId} {i : Go.TypeInfo} {z : Value} (ht : P.underlying t = some (.slice e)) (hu : qmt P u) (hi : P.info? e = some i)
    {x y : Operand} {c : Go.Call} (ho : o.op = .call c) (hcal : c.callee = .builtin .append) (hargs : c.args.toList = [x, y]) (hats : c.argTypes.toList = [t, u])
    (hs : Src P g w i.size (a.eval y) [] []) {xs : List D} {ad : Addr} (hxe : a.eval x = .slice (some ad) xs.length xs.length) (h : RepD g.pub w (.sl xs) (.slice (some ad) xs.length xs.length)) :
    Left1 P M g w o a ⟨false, true, .osl xs, st⟩ := by
  refine ⟨_, w, g, β, .value (qdS (args := []) (ats := []) ho hcal hargs hats (fun ty => ?_)), hR1.putFull hd (fun ℓ => .full xs ad h), Evo.refl g w⟩
  rw [hxe]
  exact qis ht hu hi hs
theorem qtG (hd : jj o a) (hR1 : Rel M g w β st a.tmps) {t u e : TypeId} {i : Go.TypeInfo} {z : Value} (ht : P.underlying t = some (.slice e)) (hu : qmt P u) (hi : P.info? e = some i) (hz : i.zero = some z) (hzs : z.cells.size = i.size)
    {x y : Operand} {c : Go.Call} (ho : o.op = .call c) (hcal : c.callee = .builtin .append) (hargs : c.args.toList = [x, y]) (hats : c.argTypes.toList = [t, u])
    {ys : List D} {news : List Value} (hs : Src P g w i.size (a.eval y) ys news) (hypos : 0 < ys.length) {xs : List D} {ad : Addr} (hxe : a.eval x = .slice (some ad) xs.length xs.length) (h : RepD g.pub w (.sl xs) (.slice (some ad) xs.length xs.length))
    (hh : yP i.size xs = true) (hroomy : roomy i.bytes (xs.length + ys.length) = true) :
    Left1 P M g w o a ⟨false, true, .osl (xs ++ ys), st⟩ := by
  have hsm : SameMem w w.drew := ⟨rfl, rfl, rfl⟩
  have hR' := hR1.sameMem hsm
  have hlen : (xs ++ ys).length = xs.length + ys.length := by simp
  obtain ⟨vs, hvsz, hrep, hlv, hone, hold⟩ : ∃ vs : List Value, (∀ x ∈ xs, x.cells.length = i.size) ∧ RepDL g.pub w (xs.flatMap D.cells) vs ∧ vs.length = xs.length * i.size ∧ (∀ u ∈ vs, u.oneCell' = true) ∧
      ∀ w', SameMem w w' → (Go.Builtin.firstCells i.size xs.length (.slice (some ad) xs.length xs.length)).run P w' = .ok vs.toArray w' := by
    cases h with
    | sl0 =>
      refine ⟨[], fun x hx => by simp at hx, .nil, by simp, fun u hu => by simp at hu, fun w' hw => ?_⟩
      exact Go.run_firstCells_some (P := P) w' i.size 0 _ _ _ [] (by simp) (fun j v hj => by simp at hj)
    | sl _ b off cap sz vs hne hsz hrep hc hp hcap hone =>
      have hsz' := qgo hh hne hsz
      subst hsz'
      have hlv : vs.length = xs.length * i.size := by rw [← hrep.length, qbF xs _ hsz]
      exact ⟨vs, hsz, hrep, hlv, hone, fun w' hw => Go.run_firstCells_some (P := P) w' i.size xs.length _ _ _ vs hlv (fun j v hj => by
        rw [qbj]
        have := hc j v hj
        simpa only [World.cell?, hw.heap] using this)⟩
  have hln : news.length = ys.length * i.size := by rw [← hs.rep.length, qbF ys _ hs.sz]
  have hlall : (vs ++ news).length = (xs.length + ys.length) * i.size := by rw [List.length_append, hlv, hln, Nat.add_mul]
  have hgc := qhh w hzs (xs.length + ys.length) xs.length e hlall
  obtain ⟨g', h1, h2⟩ := qjv (xs := xs ++ ys) (sz := i.size) (vs := vs ++ news) (T := e) (fz := (0, 0)) (arr := vs.toArray ++ news.toArray ++ Go.Builtin.zeroCells z.cells (Go.grownCap w (xs.length + ys.length) xs.length e - (xs.length + ys.length)))
    (cap := Go.grownCap w (xs.length + ys.length) xs.length e) hd hR' (fun q hq => by
      rcases List.mem_append.1 hq with h | h
      · exact hvsz q h
      · exact hs.sz q h) (by rw [List.flatMap_append]; exact (hrep.append hs.rep).mono (hsm.grow g).pub (hsm.grow g).cell)
    (by simp only [Array.toList_append]; exact List.take_left) (by rw [hlen]; exact Go.grownCap_ge w _ xs.length e) (by simpa using hgc) (fun q hq => by
      rcases List.mem_append.1 hq with h | h
      · exact hone q h
      · exact hs.one q h) (qid _)
  have e2 : qmr (xs ++ ys) = .osl (xs ++ ys) := by
    cases hxy : xs ++ ys with
    | nil => simp at hxy; rw [hxy.2] at hypos; simp at hypos
    | cons q l => rfl
  rw [e2, hlen] at h1
  refine ⟨_, _, g', β, .value (qdS (args := []) (ats := []) ho hcal hargs hats (fun ty => ?_)), h1, (hsm.evo g).trans h2⟩
  rw [hxe]
  exact qfi ht hu hi hz hs (hold _ hsm) (by omega) hroomy
theorem qpV (hd : jj o a) (hR1 : Rel M g w β st a.tmps) {t u e : TypeId} {i : Go.TypeInfo} {z : Value} (ht : P.underlying t = some (.slice e)) (hu : qmt P u) (hi : P.info? e = some i) (hz : i.zero = some z) (hzs : z.cells.size = i.size)
    {x y : Operand} {c : Go.Call} (ho : o.op = .call c) (hcal : c.callee = .builtin .append) (hargs : c.args.toList = [x, y]) (hats : c.argTypes.toList = [t, u])
    {ys : List D} {news : List Value} (hs : Src P g w i.size (a.eval y) ys news) {xs : List D} {ad : Addr} (hxe : a.eval x = .slice (some ad) xs.length xs.length) (h : RepD g.pub w (.sl xs) (.slice (some ad) xs.length xs.length))
    (hh : yP i.size xs = true) (hroomy : roomy i.bytes (xs.length + ys.length) = true) :
    Left1 P M g w o a ⟨false, true, .osl (xs ++ ys), st⟩ := by
  cases ys with
  | nil =>
    have hnews : news = [] := by
      have := hs.rep.length
      simp at this
      exact List.eq_nil_of_length_eq_zero this.symm
    subst hnews
    rw [List.append_nil]
    exact qsF (z := z) hd hR1 ht hu hi ho hcal hargs hats hs hxe h
  | cons y0 ys => exact qtG hd hR1 ht hu hi hz hzs ho hcal hargs hats hs (by simp) hxe h hh hroomy
theorem qrd (hd : jj o a) (hR : Rel M g w β st a.tmps) {t u e : TypeId} {i : Go.TypeInfo} {z : Value} (ht : P.underlying t = some (.slice e)) (hu : qmt P u) (hi : P.info? e = some i) (hz : i.zero = some z) (hzs : z.cells.size = i.size)
    {x y : Operand} {c : Go.Call} (ho : o.op = .call c) (hcal : c.callee = .builtin .append) (hargs : c.args.toList = [x, y]) (hats : c.argTypes.toList = [t, u])
    {ys : List D} {news : List Value} (hs : Src P g w i.size (a.eval y) ys news) {n : Nat} {xs : List D} (hx : OwnSl g w (.slot n) xs (a.eval x)) (hh : yP i.size xs = true) (hroomy : roomy i.bytes (xs.length + ys.length) = true) {r : Or}
    (hr : ok (.osl (xs ++ ys)) { st with env := (n, .undef) :: st.env } = some r) : Left1 P M g w o a r := by
  simp only [ok, Option.some.injEq] at hr
  subst hr
  generalize hxe : a.eval x = xc at hx
  have hR1 := hR.drop n
  cases hx with
  | full ad h =>
    exact qpV hd hR1 ht hu hi hz hzs ho hcal hargs hats hs hxe h hh hroomy
  | mk b off cap sz vs arr T fz hne hsz hrep hc hp hcap hone ho' hb ha hf =>
    have hsz' := qgo hh hne hsz
    subst hsz'
    have hlv : vs.length = xs.length * i.size := by rw [← hrep.length, qbF xs _ hsz]
    have hln : news.length = ys.length * i.size := by rw [← hs.rep.length, qbF ys _ hs.sz]
    by_cases hroom : xs.length + ys.length ≤ cap
    · obtain ⟨g', h1, h2⟩ := qsl hd hR1 (n := n) (by simp [j8]) hne hsz hrep hc hp hone ho' hb ha hf hs.sz hs.rep hs.one hroom
      have hmul : xs.length * i.size + ys.length * i.size ≤ cap * i.size := by rw [← Nat.add_mul]; exact Nat.mul_le_mul_right _ hroom
      have hst := qdu P b (off + xs.length * i.size) T fz news 0 arr w hb (fun j h1 h2 => by rw [← qgC hb]; exact hf j (by omega) (by omega)) (by omega) hs.one
      simp only [qDU] at hst
      rw [← hlv] at hst
      refine ⟨_, _, g', β, .value (qdS (args := []) (ats := []) ho hcal hargs hats (fun ty => ?_)), h1, h2⟩
      rw [hxe]
      exact qjo ht hu hi hs hroom (by rw [← hlv]; exact hst)
    · have hold : ∀ w', SameMem w w' → (Go.Builtin.firstCells i.size xs.length (.slice (some ⟨b, off, none⟩) xs.length cap)).run P w' = .ok vs.toArray w' := fun w' hw =>
        Go.run_firstCells_some (P := P) w' i.size xs.length _ _ _ vs hlv (fun j v hj => by
          rw [qbj]
          have := hc j v hj
          simpa only [World.cell?, hw.heap] using this)
      have hsm : SameMem w w.drew := ⟨rfl, rfl, rfl⟩
      have hR' := hR1.sameMem hsm
      have hlen : (xs ++ ys).length = xs.length + ys.length := by simp
      have hlall : (vs ++ news).length = (xs.length + ys.length) * i.size := by rw [List.length_append, hlv, hln, Nat.add_mul]
      have hgc := qhh w hzs (xs.length + ys.length) cap e hlall
      obtain ⟨g', h1, h2⟩ := qjv (xs := xs ++ ys) (sz := i.size) (vs := vs ++ news) (T := e) (fz := (0, 0)) (arr := vs.toArray ++ news.toArray ++ Go.Builtin.zeroCells z.cells (Go.grownCap w (xs.length + ys.length) cap e - (xs.length + ys.length)))
        (cap := Go.grownCap w (xs.length + ys.length) cap e) hd hR' (fun q hq => by
          rcases List.mem_append.1 hq with h | h
          · exact hsz q h
          · exact hs.sz q h) (by rw [List.flatMap_append]; exact (hrep.append hs.rep).mono (hsm.grow g).pub (hsm.grow g).cell)
        (by simp only [Array.toList_append]; exact List.take_left) (by rw [hlen]; exact Go.grownCap_ge w _ cap e) (by simpa using hgc) (fun q hq => by
          rcases List.mem_append.1 hq with h | h
          · exact hone q h
          · exact hs.one q h) (qid _)
      have e2 : qmr (xs ++ ys) = .osl (xs ++ ys) := by
        cases xs with
        | nil => exact absurd rfl hne
        | cons q l => rfl
      rw [e2, hlen] at h1
      refine ⟨_, _, g', β, .value (qdS (args := []) (ats := []) ho hcal hargs hats (fun ty => ?_)), h1, (hsm.evo g).trans h2⟩
      rw [hxe]
      exact qfi ht hu hi hz hs (hold _ hsm) (by omega) hroomy
end
end W

/-
  'append'; values built of parts; slices built of parts; texts and their bytes.
-/
set_option linter.unusedSimpArgs false
set_option linter.unusedVariables false
namespace W
open Go (World Value Addr IntKind Program TypeId FuncId Operand Act Oper Next Result Sem BinOp UnOp)
section
variable {P : Program} {M : Maps} {g : Gh} {w : World} {β : Nat → Nat} {st : St} {o : Oper} {a : Act}
theorem qlH (hd : jj o a) (hR : Rel M g w β st a.tmps) {c : Go.Call} (hcal : c.callee = .builtin .append) {t u e : TypeId} (hats : c.argTypes.toList = [t, u]) (ht : P.underlying t = some (.slice e)) (hu : qmt P u)
    {i : Go.TypeInfo} (hi : P.info? e = some i) {zd : D} (hz : qcZ P e = some zd) (hzl : zd.cells.length = i.size) {m : Bool} {x' y' : O} (hx : opnds M (fun k => k == 0 && m) 0 c.args.toList = some [x', y'])
    (ho : o.op = .call c) {r : Or} (hr : qeT i.size i.bytes x' y' st = some r) : Left1 P M g w o a r := by
  obtain ⟨x, y, hargs, hx1, hy1⟩ := qr1 hx
  obtain ⟨i2, z, hi2, hzz, hzd⟩ := qc3 hz
  rw [hi] at hi2
  cases hi2
  have hzs : z.cells.size = i.size := by
    have := (qdD g.pub w z zd hzd).cells.length
    rw [hzl] at this
    simpa using this.symm
  have hX := qib hR hx1
  have hY : RepV M g w β (rd st.env y') (a.eval y) := jn hR (by simpa using hy1)
  unfold qeT at hr
  split at hr
  · rename_i v hv
    have hone : ∀ {n : Nat} {xs : List D} {c' : Value}, RepV M g w β (.osl xs) c' → False := by
      intro n xs c' h
      cases h with
      | s h => cases h
    unfold qbm at hv
    split at hv
    · -- nil, nil
      rename_i hz1 hz2
      rw [hz1] at hX; rw [hz2] at hY
      have hs : Src P g w i.size (a.eval y) [] [] := by
        have := hY.inv_d
        generalize a.eval y = cc at this
        cases this; exact qrD _
      have hxe : a.eval x = .slice none 0 0 := by
        generalize a.eval x = cc at hX
        cases hX with
        | v h => have := h.inv_d; cases this; rfl
      cases hv
      exact qnc hd (hR.spent x') ht hu hi hzz hzs ho hcal hargs hats hs hxe (by simp [roomy]) hr
    · -- nil, slice
      rename_i ys hz1 hz2
      rw [hz1] at hX; rw [hz2] at hY
      have hxe : a.eval x = .slice none 0 0 := by
        generalize a.eval x = cc at hX
        cases hX with
        | v h => have := h.inv_d; cases this; rfl
      cases hc : (yP i.size ys && roomy i.bytes ys.length) with
      | false => simp [hc] at hv
      | true =>
        simp only [hc, cond_true, Option.some.injEq] at hv
        simp only [qDB] at hc
        obtain ⟨news, hs⟩ := qjJ (P := P) hY.inv_d hc.1
        have hv' : qnT ys = v := by rw [← hv]; rfl
        rw [← hv'] at hr
        exact qnc hd (hR.spent x') ht hu hi hzz hzs ho hcal hargs hats hs hxe hc.2 hr
    · -- nil, text
      rename_i ys hz1 hz2
      rw [hz1] at hX; rw [hz2] at hY
      have hxe : a.eval x = .slice none 0 0 := by
        generalize a.eval x = cc at hX
        cases hX with
        | v h => have := h.inv_d; cases this; rfl
      cases hc : (qDG i.size 1 && roomy i.bytes ys.length) with
      | false => simp [hc] at hv
      | true =>
        simp only [hc, cond_true, Option.some.injEq] at hv
        simp only [qDB] at hc
        have h1 := qDR hc.1
        obtain ⟨zb, e1, f1⟩ := qe3 hY.inv_d
        have hs : Src P g w i.size (a.eval y) ((zb.data.toList.map (·.toNat)).map fun n : Nat => D.i .u8 n) (zb.data.toList.map fun b => Value.int .u8 b.toNat) := by rw [h1, e1]; exact qju
        rw [f1] at hs
        have hv' : qnT (ys.map fun n : Nat => D.i .u8 n) = v := by rw [← hv]; cases ys <;> rfl
        rw [← hv'] at hr
        exact qnc hd (hR.spent x') ht hu hi hzz hzs ho hcal hargs hats hs hxe (by simpa using hc.2) hr
    · -- no room, slice
      rename_i xs ys hz1 hz2
      rw [hz1] at hX; rw [hz2] at hY
      cases hc : (yP i.size xs && yP i.size ys && roomy i.bytes (xs.length + ys.length)) with
      | false => simp [hc] at hv
      | true =>
        simp only [hc, cond_true, Option.some.injEq] at hv
        simp only [qDB] at hc
        obtain ⟨news, hs⟩ := qjJ (P := P) hY.inv_d hc.1.2
        subst hv
        simp only [ok, Option.some.injEq] at hr
        subst hr
        have hxe : ∃ ad, a.eval x = .slice (some ad) xs.length xs.length ∧ RepD g.pub w (.sl xs) (.slice (some ad) xs.length xs.length) := by
          generalize a.eval x = cc at hX
          cases hX with
          | v h => cases h with
            | s h => cases h with
              | fsl _ ad h => exact ⟨ad, rfl, h⟩
        obtain ⟨ad, hxe, h⟩ := hxe
        exact qpV hd (hR.spent x') ht hu hi hzz hzs ho hcal hargs hats hs hxe h hc.1.1 hc.2
    · -- own, nil
      rename_i xs hz1 hz2
      rw [hz1] at hX; rw [hz2] at hY
      simp only [Option.some.injEq] at hv
      subst hv
      have hs : Src P g w i.size (a.eval y) [] [] := by
        have := hY.inv_d
        generalize a.eval y = cc at this
        cases this; exact qrD _
      cases hX with
      | v h => exact absurd h (fun h => hone (n := 0) h)
      | own h =>
        rename_i n
        simp only [ok, Option.some.injEq] at hr
        subst hr
        obtain ⟨g', h1, h2⟩ := (hR.drop n).putOwn hd (by simp [j8]) h
        refine ⟨a.eval x, w, g', β, .value (qdS (args := []) (ats := []) ho hcal hargs hats (fun ty => ?_)), h1, h2⟩
        cases hxe : a.eval x with
        | slice base n' cap =>
          rw [hxe] at h
          cases h with
          | mk b off cap' sz vs arr T fz hne hsz hrep hc hp hcap hone ho' hb ha hf =>
            exact qjo (ys := []) ht hu hi hs (by simpa using hcap) rfl
          | full ad h => exact qis ht hu hi hs
        | _ => rw [hxe] at h; cases h
    · -- own, slice
      rename_i xs ys hz1 hz2
      rw [hz1] at hX; rw [hz2] at hY
      cases hc : (yP i.size xs && yP i.size ys && roomy i.bytes (xs.length + ys.length)) with
      | false => simp [hc] at hv
      | true =>
        simp only [hc, cond_true, Option.some.injEq] at hv
        simp only [qDB] at hc
        obtain ⟨news, hs⟩ := qjJ (P := P) hY.inv_d hc.1.2
        subst hv
        cases hX with
        | v h => exact absurd h (fun h => hone (n := 0) h)
        | own h => exact qrd hd hR ht hu hi hzz hzs ho hcal hargs hats hs h hc.1.1 hc.2 hr
    · -- own, text
      rename_i xs ys hz1 hz2
      rw [hz1] at hX; rw [hz2] at hY
      cases hc : (yP i.size xs && qDG i.size 1 && roomy i.bytes (xs.length + ys.length)) with
      | false => simp [hc] at hv
      | true =>
        simp only [hc, cond_true, Option.some.injEq] at hv
        simp only [qDB] at hc
        have h1 := qDR hc.1.2
        obtain ⟨zb, e1, f1⟩ := qe3 hY.inv_d
        have hs : Src P g w i.size (a.eval y) ((zb.data.toList.map (·.toNat)).map fun n : Nat => D.i .u8 n) (zb.data.toList.map fun b => Value.int .u8 b.toNat) := by rw [h1, e1]; exact qju
        rw [f1] at hs
        subst hv
        cases hX with
        | v h => exact absurd h (fun h => hone (n := 0) h)
        | own h => exact qrd hd hR ht hu hi hzz hzs ho hcal hargs hats hs h hc.1.1 (by simpa using hc.2) hr
    · cases hv
  · cases hr
end
end W

/-
  Values and slices built of parts; texts and their bytes; rows that are made.
-/
set_option linter.unusedSimpArgs false
set_option linter.unusedVariables false
namespace W
open Go (World Value Addr IntKind Program TypeId FuncId Operand Act Oper Next Result Sem BinOp UnOp)
inductive All2 {α β : Type} (R : α → β → Prop) : List α → List β → Prop
  | nil : All2 R [] []
  | cons {x : α} {y : β} {l : List α} {r : List β} (h : R x y) (hl : All2 R l r) : All2 R (x :: l) (y :: r)
theorem qke (off : Nat) (v : Value) (cs : Array Value) (h : off + v.cells.size ≤ cs.size) :
    (v.cells.zipIdx.foldl (fun cs (x : Value × Nat) => cs.setIfInBounds (off + x.2) x.1) cs).toList = cs.toList.take off ++ v.cells.toList ++ cs.toList.drop (off + v.cells.toList.length) := by
  have e : v.cells.zipIdx.foldl (fun cs (x : Value × Nat) => cs.setIfInBounds (off + x.2) x.1) cs = (v.cells.toList.zipIdx 0).foldl (fun cs (x : Value × Nat) => cs.setIfInBounds (off + x.2) x.1) cs := by
    rw [← Array.foldl_toList, Array.toList_zipIdx]
  rw [e]
  obtain ⟨h1, h2⟩ := Go.Great.foldl_set off v.cells.toList 0 cs
  apply List.ext_getElem?
  intro k
  rw [Array.getElem?_toList, h2 k, List.append_assoc, List.getElem?_append]
  have t1 : (cs.toList.take off).length = off := by simp; omega
  rw [t1]
  split
  · rename_i hin
    rw [if_neg (by omega), List.getElem?_append_left (by omega)]
    simp
  · rename_i hout
    split
    · rename_i hlt
      rw [List.getElem?_take, if_pos hlt]; simp
    · rename_i hge
      by_cases hk : k - off < v.cells.toList.length
      · exfalso
        have : k < cs.size := by simp at hk; omega
        exact hout ⟨by omega, by omega, this⟩
      · rw [List.getElem?_append_right (by omega), List.getElem?_drop]
        have : off + v.cells.toList.length + (k - off - v.cells.toList.length) = k := by omega
        rw [this]; simp
theorem RepSL.take {M : Maps} {g : Gh} {w : World} : ∀ {cs : List V} {vl : List Value} (n : Nat), RepSL M g w cs vl → RepSL M g w (cs.take n) (vl.take n)
  | _, _, 0, _ => .nil
  | _, _, n + 1, .nil => .nil
  | _, _, n + 1, .cons _ _ _ _ hx hl => .cons _ _ _ _ hx (RepSL.take n hl)
theorem RepSL.drop {M : Maps} {g : Gh} {w : World} : ∀ {cs : List V} {vl : List Value} (n : Nat), RepSL M g w cs vl → RepSL M g w (cs.drop n) (vl.drop n)
  | _, _, 0, h => h
  | _, _, n + 1, .nil => .nil
  | _, _, n + 1, .cons _ _ _ _ hx hl => RepSL.drop n hl
section
variable {P : Program} {M : Maps} {g : Gh} {w : World} {β : Nat → Nat} {st : St} {o : Oper} {a : Act}
inductive RepPs (M : Maps) (g : Gh) (w : World) (place : Nat → Option (Nat × Nat)) : List (Nat × Nat × V) → List (Nat × Value) → Prop
  | nil : RepPs M g w place [] []
  | cons (off size i : Nat) (v : V) (c : Value) (l : List (Nat × Nat × V)) (l' : List (Nat × Value)) (hp : place i = some (off, size)) (h : RepSL M g w v.cells c.cells.toList) (hl : RepPs M g w place l l') :
      RepPs M g w place ((off, size, v) :: l) ((i, c) :: l')
theorem qkP {place : Nat → Option (Nat × Nat)} : ∀ {ps : List (Nat × Nat × V)} {ps' : List (Nat × Value)} {cells cs : List V} {arr : Array Value}, RepPs M g w place ps ps' → RepSL M g w cells arr.toList →
    fill cells ps = some cs → ∃ arr', Go.Instr.fill place arr ps' = some arr' ∧ RepSL M g w cs arr'.toList
  | _, _, cells, cs, arr, .nil, hc, h => by
    simp only [fill, Option.some.injEq] at h
    subst h
    exact ⟨arr, rfl, hc⟩
  | _, _, cells, cs, arr, .cons off size i v c l l' hp hv hl, hc, h => by
    simp only [fill] at h
    split at h
    · rename_i hfit
      have hlen := hc.length
      have hlv := hv.length
      have e1 : c.cells.size = size := by rw [← hfit.1]; simpa using hlv.symm
      have e2 : ¬ (c.cells.size ≠ size ∨ off + c.cells.size > arr.size) := by
        simp at hlen
        omega
      have hsp := qke off c arr (by simp at hlen; omega)
      obtain ⟨arr', h1, h2⟩ := qkP (arr := c.cells.zipIdx.foldl (fun cs (x : Value × Nat) => cs.setIfInBounds (off + x.2) x.1) arr) hl (by
        rw [hsp]
        have := ((hc.take off).append hv).append (hc.drop (off + size))
        rwa [show off + size = off + c.cells.toList.length by rw [← hfit.1, hlv]] at this ⊢) h
      refine ⟨arr', ?_, h2⟩
      simp only [Go.Instr.fill, hp]
      rw [if_neg (by simpa using e2)]
      exact h1
    · cases h
theorem qj4 (hR : Rel M g w β st a.tmps) {place : Nat → Option (Nat × Nat)} : ∀ {ps : List (Nat × Operand)} {ps' : List (Nat × Nat × O)}, 
    (All2 (fun (p : Nat × Operand) (q : Nat × Nat × O) => place p.1 = some (q.1, q.2.1) ∧ opnd M false p.2 = some q.2.2) ps ps') → qcs (ps'.map fun (o, s, x) => (o, s, rd st.env x)) = true →
    RepPs M g w place (ps'.map fun (o, s, x) => (o, s, rd st.env x)) (ps.map fun (i, x) => (i, a.eval x))
  | _, _, .nil, _ => .nil
  | (i, x) :: ps, (off, s, y) :: ps', .cons h hl, hk => by
    simp only [qDy, qcs, qDB] at hk
    refine .cons off s i _ _ _ _ h.1 ?_ (qj4 hR hl hk.2)
    have := jn hR h.2
    generalize rd st.env y = v at this hk
    generalize a.eval x = c at this
    cases this with
    | s hs => exact hs.cells hk.1
    | lp => simp [V.cells, V.ones, V.one, V.ok] at hk
    | cp => simp [V.cells, V.ones, V.one, V.ok] at hk
theorem qhL (hd : jj o a) (hR : Rel M g w β st a.tmps) {t : TypeId} {ps : Array (Nat × Operand)} (ho : o.op = .build t ps) {zd : D} (hz : qcZ P t = some zd) {ps' : List (Nat × Nat × O)} {place : Nat → Option (Nat × Nat)}
    (hps : All2 (fun (p : Nat × Operand) (q : Nat × Nat × O) => place p.1 = some (q.1, q.2.1) ∧ opnd M false p.2 = some q.2.2) ps.toList ps')
    (hbuilt : ∀ z vs cells, toD z = some zd → P.info? t = P.info? t → (∃ i, P.info? t = some i ∧ i.zero = some z) → Go.Instr.fill place z.cells vs = some cells → P.built t vs = some cells)
    {r : Or} (hr : qeL zd.cells ps' st = some r) : Left1 P M g w o a r := by
  obtain ⟨i, z, hi, hzz, hzd⟩ := qc3 hz
  unfold qeL at hr
  cases hk : qcs (ps'.map fun (o, s, x) => (o, s, rd st.env x)) with
  | false => simp [hk] at hr
  | true =>
    simp only [hk, qDL, cond_false] at hr
    split at hr
    · rename_i cs hcs
      have hrep := (qdD g.pub w z zd hzd).cells
      obtain ⟨arr, h1, h2⟩ := qkP (qj4 hR hps hk) (RepSL.ofD hrep) hcs
      refine kw hd hR (.s (qh2 h2)) ?_ hr
      have hb := hbuilt z _ arr hzd rfl ⟨i, hi, hzz⟩ h1
      have := Go.run_build (P := P) w t (ps.map fun (i, x) => (i, a.eval x)) arr (by simpa using hb)
      simp only [Go.execOp, ho, Sem.run_bind, this, Result.andThen_ok, Sem.run_pure]
    · cases hr
theorem qkz (hd : jj o a) (hR : Rel M g w β st a.tmps) {t : TypeId} {ps : Array (Nat × Operand)} (ho : o.op = .build t ps) {zd : D} (hz : qcZ P t = some zd) {ps' : List (Nat × Nat × O)} {place : Nat → Option (Nat × Nat)}
    (hps : All2 (fun (p : Nat × Operand) (q : Nat × Nat × O) => place p.1 = some (q.1, q.2.1) ∧ opnd M false p.2 = some q.2.2) ps.toList ps')
    (hbuilt : ∀ z vs cells, toD z = some zd → P.info? t = P.info? t → (∃ i, P.info? t = some i ∧ i.zero = some z) → Go.Instr.fill place z.cells vs = some cells → P.built t vs = some cells)
    {r : Or} (hr : qdH zd.cells ps' st = some r) : Left1 P M g w o a r := by
  obtain ⟨i, z, hi, hzz, hzd⟩ := qc3 hz
  unfold qdH at hr
  cases hk : qcs (ps'.map fun (o, s, x) => (o, s, rd st.env x)) with
  | false => simp [hk] at hr
  | true =>
    simp only [hk, qDL, cond_false] at hr
    split at hr
    · rename_i cs hcs
      have hrep := (qdD g.pub w z zd hzd).cells
      obtain ⟨arr, h1, h2⟩ := qkP (qj4 hR hps hk) (RepSL.ofD hrep) hcs
      refine kw hd hR (.s (.agg _ _ h2)) ?_ hr
      have hb := hbuilt z _ arr hzd rfl ⟨i, hi, hzz⟩ h1
      have := Go.run_build (P := P) w t (ps.map fun (i, x) => (i, a.eval x)) arr (by simpa using hb)
      simp only [Go.execOp, ho, Sem.run_bind, this, Result.andThen_ok, Sem.run_pure]
    · cases hr
theorem qiO {fs : Array Go.Field} {places : List (Nat × Nat)} (hpl : (fs.toList.mapM fun f => (P.info? f.type).map fun i => (f.offset, i.size)) = some places) : ∀ {ps : List (Nat × Operand)} {ps' : List (Nat × Nat × O)}, qhy M P fs ps = some ps' →
    All2 (fun (p : Nat × Operand) (q : Nat × Nat × O) => places[p.1]? = some (q.1, q.2.1) ∧ opnd M false p.2 = some q.2.2) ps ps'
  | [], ps', h => by simp only [qhy, Option.some.injEq] at h; subst h; exact .nil
  | (i, x) :: ps, ps', h => by
    simp only [qhy] at h
    split at h
    · rename_i f y r hf hy hr
      split at h
      · rename_i l hl
        simp only [Option.some.injEq] at h
        subst h
        refine .cons ⟨?_, hy⟩ (qiO hpl hr)
        obtain ⟨inf, d, hi, hu, rfl⟩ := qc8 hl
        have := Go.mapM_some_get hpl i f (by simpa using hf)
        rw [← this, hi]
        rfl
      · cases h
    · cases h
theorem qkX {size : Nat} : ∀ {ps : List (Nat × Operand)} {ps' : List (Nat × Nat × O)}, qjL M size ps = some ps' →
    All2 (fun (p : Nat × Operand) (q : Nat × Nat × O) => (some (p.1 * size, size) : Option (Nat × Nat)) = some (q.1, q.2.1) ∧ opnd M false p.2 = some q.2.2) ps ps'
  | [], ps', h => by simp only [qjL, Option.some.injEq] at h; subst h; exact .nil
  | (i, x) :: ps, ps', h => by
    simp only [qjL] at h
    split at h
    · rename_i y r hy hr
      simp only [Option.some.injEq] at h
      subst h
      exact .cons ⟨rfl, hy⟩ (qkX hr)
    · cases h
theorem qku (hd : jj o a) (hR : Rel M g w β st a.tmps) {t : TypeId} {ps : Array (Nat × Operand)} (ho : o.op = .build t ps) {fs : Array Go.Field} (hu : P.underlying t = some (.struct fs))
    (hpl : (fs.toList.mapM fun f => (P.info? f.type).map fun i => (f.offset, i.size)).isSome = true) {zd : D} (hz : qcZ P t = some zd) {ps' : List (Nat × Nat × O)} (hps : qhy M P fs ps.toList = some ps')
    {r : Or} (hr : qeL zd.cells ps' st = some r) : Left1 P M g w o a r := by
  obtain ⟨places, hpl⟩ := Option.isSome_iff_exists.1 hpl
  refine qhL hd hR ho hz (place := fun i => places[i]?) (qiO hpl hps) (fun z vs cells _ _ hi hf => ?_) hr
  obtain ⟨i, hi, hzz⟩ := hi
  simp only [Go.Program.built, hi, hu, hzz, hpl]
  simpa using hf
theorem qjC (hd : jj o a) (hR : Rel M g w β st a.tmps) {t : TypeId} {ps : Array (Nat × Operand)} (ho : o.op = .build t ps) {fs : Array Go.Field} (hu : P.underlying t = some (.struct fs))
    (hpl : (fs.toList.mapM fun f => (P.info? f.type).map fun i => (f.offset, i.size)).isSome = true) {zd : D} (hz : qcZ P t = some zd) {ps' : List (Nat × Nat × O)} (hps : qhy M P fs ps.toList = some ps')
    {r : Or} (hr : qdH zd.cells ps' st = some r) : Left1 P M g w o a r := by
  obtain ⟨places, hpl⟩ := Option.isSome_iff_exists.1 hpl
  refine qkz hd hR ho hz (place := fun i => places[i]?) (qiO hpl hps) (fun z vs cells _ _ hi hf => ?_) hr
  obtain ⟨i, hi, hzz⟩ := hi
  simp only [Go.Program.built, hi, hu, hzz, hpl]
  simpa using hf
theorem qlN (hd : jj o a) (hR : Rel M g w β st a.tmps) {t : TypeId} {ps : Array (Nat × Operand)} (ho : o.op = .build t ps) {n : Nat} {e : TypeId} (hu : P.underlying t = some (.array n e))
    {l : L} (hl : lay P e = some l) {zd : D} (hz : qcZ P t = some zd) {ps' : List (Nat × Nat × O)} (hps : qjL M l.n ps.toList = some ps')
    {r : Or} (hr : qeL zd.cells ps' st = some r) : Left1 P M g w o a r := by
  obtain ⟨inf, d, hie, hue, rfl⟩ := qc8 hl
  refine qhL hd hR ho hz (place := fun i => some (i * inf.size, inf.size)) (qkX hps) (fun z vs cells _ _ hi hf => ?_) hr
  obtain ⟨i, hi, hzz⟩ := hi
  simp only [Go.Program.built, hi, hu, hzz, hie]
  exact hf
end
end W

/-
  Slices built of parts; texts and their bytes; rows that are made.
-/
set_option linter.unusedSimpArgs false
set_option linter.unusedVariables false
namespace W
open Go (World Value Addr IntKind Program TypeId FuncId Operand Act Oper Next Result Sem BinOp UnOp)
theorem RepDL.splice {pub : Nat → Nat} {w : World} {l : List D} {vs : List Value} (h : RepDL pub w l vs) {l' : List D} {vs' : List Value} (h' : RepDL pub w l' vs') (off : Nat) :
    RepDL pub w (l.take off ++ l' ++ l.drop (off + l'.length)) (vs.take off ++ vs' ++ vs.drop (off + vs'.length)) := by
  rw [h'.length]
  exact ((h.take off).append h').append (h.drop _)
theorem qox : ∀ (xs : List D) (sz j : Nat) (y : D), (∀ x ∈ xs, x.cells.length = sz) → y.cells.length = sz → j < xs.length →
    (xs.set j y).flatMap D.cells = (xs.flatMap D.cells).take (j * sz) ++ y.cells ++ (xs.flatMap D.cells).drop (j * sz + sz)
  | [], _, _, _, _, _, h => by simp at h
  | x :: xs, sz, 0, y, hs, hy, _ => by
    have h0 := hs x (by simp)
    simp only [qDK, List.flatMap_cons, Nat.zero_mul, qDT, List.nil_append, qDz, ← h0, List.drop_left' rfl]
  | x :: xs, sz, j + 1, y, hs, hy, hl => by
    have h0 := hs x (by simp)
    have ih := qox xs sz j y (fun z hz => hs z (by simp [hz])) hy (by simpa using hl)
    simp only [qDO, List.flatMap_cons]
    rw [ih, show (j + 1) * sz = x.cells.length + j * sz by rw [h0, Nat.succ_mul]; omega, show x.cells.length + j * sz + sz = x.cells.length + (j * sz + sz) by omega,
      List.take_length_add_append, List.drop_append (i := x.cells.length + (j * sz + sz))]
    simp [List.drop_eq_nil_of_le, List.append_assoc]
theorem qpb {pub : Nat → Nat} {w : World} : ∀ {xs : List D} {vs : List Value}, D.wfs xs = true → RepDL pub w (xs.flatMap D.cells) vs → ∀ u ∈ vs, u.oneCell' = true := by
  intro xs vs h hr
  refine hr.ones ?_
  clear hr
  induction xs with
  | nil => rfl
  | cons x l ih =>
    simp only [D.wfs, qDB] at h
    rw [List.flatMap_cons]
    have app : ∀ (a b : List D), D.ones a = true → D.ones b = true → D.ones (a ++ b) = true := by
      intro a b
      induction a with
      | nil => exact fun _ h => h
      | cons q a iha => intro h1 h2; simp only [List.cons_append, D.ones, qDB] at h1 ⊢; exact ⟨h1.1, iha h1.2 h2⟩
    exact app _ _ h.1 (ih h.2)
section
variable {P : Program} {M : Maps} {g : Gh} {w : World} {β : Nat → Nat} {st : St} {o : Oper} {a : Act}
inductive RepPd (g : Gh) (w : World) : List (Nat × V) → List (Nat × Value) → Prop
  | nil : RepPd g w [] []
  | cons (i : Nat) (x : D) (c : Value) (l : List (Nat × V)) (l' : List (Nat × Value)) (h : RepDL g.pub w x.cells c.cells.toList) (hl : RepPd g w l l') : RepPd g w ((i, .d x) :: l) ((i, c) :: l')
  | other (i : Nat) (v : V) (c : Value) (l : List (Nat × V)) (l' : List (Nat × Value)) (h : ∀ x, v ≠ .d x) : RepPd g w ((i, v) :: l) ((i, c) :: l')
theorem qhZ {size : Nat} (hpos : 0 < size) : ∀ {ps : List (Nat × V)} {ps' : List (Nat × Value)} {es xs : List D} {arr : Array Value}, RepPd g w ps ps' → RepDL g.pub w (es.flatMap D.cells) arr.toList → (∀ x ∈ es, x.cells.length = size) →
    qew size es ps = some xs → ∃ arr', Go.Instr.fill (fun i => some (i * size, size)) arr ps' = some arr' ∧ RepDL g.pub w (xs.flatMap D.cells) arr'.toList ∧ (∀ x ∈ xs, x.cells.length = size) ∧ xs.length = es.length
  | _, _, es, xs, arr, .nil, hc, hs, h => by
    simp only [qew, Option.some.injEq] at h
    subst h
    exact ⟨arr, rfl, hc, hs, rfl⟩
  | _, _, es, xs, arr, .other i v c l l' hv, hc, hs, h => by
    cases v <;> simp [qew] at h
    exact absurd rfl (hv _)
  | _, _, es, xs, arr, .cons i x c l l' hv hl, hc, hs, h => by
    simp only [qew] at h
    split at h
    · rename_i hfit
      have hlen := hc.length
      rw [qbF es _ hs] at hlen
      have hlv := hv.length
      have e1 : c.cells.size = size := by rw [← hfit.1]; simpa using hlv.symm
      have hle : i * size + size ≤ es.length * size := by
        rw [← Nat.succ_mul]; exact Nat.mul_le_mul_right _ hfit.2
      have e2 : ¬ (c.cells.size ≠ size ∨ i * size + c.cells.size > arr.size) := by
        simp at hlen
        omega
      have hsp := qke (i * size) c arr (by simp at hlen; omega)
      have hs' : ∀ y ∈ es.set i x, y.cells.length = size := fun y hy => by
        rcases List.mem_or_eq_of_mem_set hy with h | h
        · exact hs y h
        · rw [h]; exact hfit.1
      obtain ⟨arr', h1, h2, h3, h4⟩ := qhZ hpos (arr := c.cells.zipIdx.foldl (fun cs (x : Value × Nat) => cs.setIfInBounds (i * size + x.2) x.1) arr) hl (by
        rw [hsp, qox es size i x hs hfit.1 hfit.2]
        have := hc.splice hv (i * size)
        rwa [hfit.1] at this) hs' h
      refine ⟨arr', ?_, h2, h3, by rw [h4]; simp⟩
      simp only [Go.Instr.fill]
      rw [if_neg (by simpa using e2)]
      exact h1
    · cases h
theorem qgI (hR : Rel M g w β st a.tmps) : ∀ {ps : List (Nat × Operand)} {ps' : List (Nat × O)}, qgd M ps = some ps' → RepPd g w (ps'.map fun (j, x) => (j, rd st.env x)) (ps.map fun (i, x) => (i, a.eval x))
  | [], ps', h => by simp only [qgd, Option.some.injEq] at h; subst h; exact .nil
  | (i, x) :: ps, ps', h => by
    simp only [qgd] at h
    split at h
    · rename_i y r hy hr
      simp only [Option.some.injEq] at h
      subst h
      simp only [qDy]
      have h1 := jn hR hy
      have ih := qgI hR hr
      cases hv : rd st.env y with
      | d x' => rw [hv] at h1; exact .cons i x' _ _ _ h1.inv_d.cells ih
      | _ => exact .other i _ _ _ _ (by intro x e; cases e)
    · cases h
theorem qeP {zd : D} {z : Value} {size : Nat} (hz : RepDL g.pub w zd.cells z.cells.toList) (hsz : zd.cells.length = size) (hpos : 0 < size) : ∀ n, 
    RepDL g.pub w ((List.replicate n zd).flatMap D.cells) (((Array.range (n * size)).map (z.cells[· % z.cells.size]!)).toList) := by
  have hzs : z.cells.size = size := by rw [← hsz]; simpa using hz.length.symm
  intro n
  induction n with
  | zero => simpa using RepDL.nil
  | succ n ih =>
    have e1 : (List.replicate (n + 1) zd).flatMap D.cells = (List.replicate n zd).flatMap D.cells ++ zd.cells := by
      rw [List.replicate_succ', List.flatMap_append]; simp
    have e2 : ((Array.range ((n + 1) * size)).map (z.cells[· % z.cells.size]!)).toList = ((Array.range (n * size)).map (z.cells[· % z.cells.size]!)).toList ++ z.cells.toList := by
      apply List.ext_getElem?
      intro k
      rw [List.getElem?_append]
      simp only [Array.toList_map, List.getElem?_map, Array.toList_range, List.length_map, List.length_range, hzs]
      have hm : (n + 1) * size = n * size + size := by rw [Nat.succ_mul]
      split
      · rename_i hk
        rw [List.getElem?_range (by omega), List.getElem?_range hk]
      · rename_i hk
        by_cases hk2 : k < (n + 1) * size
        · rw [List.getElem?_range hk2]
          have e3 : k % size = k - n * size := by
            have : k = k - n * size + n * size := by omega
            rw [this, Nat.add_mul_mod_self_right, Nat.mod_eq_of_lt (by omega)]
            omega
          have hlt : k - n * size < z.cells.size := by omega
          simp [e3, hlt]
        · rw [List.getElem?_eq_none (by simp; omega), List.getElem?_eq_none (by simp; omega)]; rfl
    rw [e1, e2]
    exact ih.append hz
theorem qg5 (f : Nat → Value) : (Array.range 0).map f = #[] := by
  apply Array.ext'
  simp only [Array.toList_map, Array.toList_range]
  rfl
theorem qg9 {t e : TypeId} {ie : Go.TypeInfo} {ps : Array (Nat × Value)} {cells : Array Value} (hu : P.underlying t = some (.slice e)) (hie : P.info? e = some ie)
    (h : Go.Instr.fill (fun i => some (i * ie.size, ie.size)) #[] ps.toList = some cells) :
    (Go.Instr.buildSlice t 0 ps).run P w = .ok (.slice (some ⟨w.heap.size, 0, none⟩) 0 0) (w.alloc (.cells cells e)) := by
  simp [Go.Instr.buildSlice, Go.run_underlying hu, Go.sizeOf, Go.typeInfo, hie, qg5, h, Go.newRow]
theorem qln (hd : jj o a) (hR : Rel M g w β st a.tmps) {t e : TypeId} {n : Nat} {ps : Array (Nat × Operand)} (ho : o.op = .buildSlice t n ps) (hu : P.underlying t = some (.slice e)) {l : L} (hl : lay P e = some l) {zd : D} (hz : qcZ P e = some zd)
    (hs : zd.cells.length = l.n ∧ 0 < l.n ∧ n * l.n ≤ 16777216) {ps' : List (Nat × O)} (hps : qgd M ps.toList = some ps')
    {r : Or} (hr : qa8 zd n ps' st = some r) : Left1 P M g w o a r := by
  obtain ⟨ie, d, hie, hue, rfl⟩ := qc8 hl
  obtain ⟨i2, z, hi2, hzz, hzd⟩ := qc3 hz
  rw [hie] at hi2
  cases hi2
  simp only at hs
  obtain ⟨hs1, hs2, hs3⟩ := hs
  unfold qa8 at hr
  split at hr
  · rename_i xs hxs
    split at hr
    · rename_i hwf
      simp only [ok, Option.some.injEq] at hr
      subst hr
      rw [hs1] at hxs
      have hrep := (qdD g.pub w z zd hzd).cells
      have hrep0 := qeP hrep hs1 hs2 n
      obtain ⟨arr, h1, h2, h3, h4⟩ := qhZ (arr := (Array.range (n * ie.size)).map (z.cells[· % z.cells.size]!)) hs2 (qgI hR hps) hrep0 (fun x hx => by rw [List.eq_of_mem_replicate hx]; exact hs1) hxs
      rw [List.length_replicate] at h4
      have hrun : (Go.Instr.buildSlice t n (ps.map fun (i, x) => (i, a.eval x))).run P w = .ok (.slice (some ⟨w.heap.size, 0, none⟩) n n) (w.alloc (.cells arr e)) := by
        by_cases hn : n = 0
        · subst hn
          refine qg9 hu hie ?_
          rw [Nat.zero_mul, qg5] at h1
          simpa using h1
        · have : 0 < n * ie.size := Nat.mul_pos (by omega) hs2
          exact Go.run_buildSlice (P := P) w t e n _ arr ie z hu hie hzz (by simpa using hs3) (by omega) (by simpa using h1)
      have hlen := h2.length
      rw [qbF xs _ h3] at hlen
      by_cases hx0 : xs = []
      case pos =>
        subst hx0
        simp only [qDD] at h4
        subst h4
        have hR' := hR.alloc none 0 (.cells arr e)
        have hrun2 : (Go.execOp a.eval o).run P w = .ok (.value (.slice (some ⟨w.heap.size, 0, none⟩) 0 0)) (w.alloc (.cells arr e)) := by
          simp only [Go.execOp, ho, Sem.run_bind, hrun, Result.andThen_ok, Sem.run_pure]
        exact ⟨.slice (some ⟨w.heap.size, 0, none⟩) 0 0, _, _, β, .value hrun2, hR'.putFull hd (fun ℓ => .full [] ⟨w.heap.size, 0, none⟩ (.sl0 _ 0)), qdq hR.fr none 0 _⟩
      obtain ⟨g', k1, k2⟩ := qjv (T := e) (fz := (0, 0)) (cap := n) (arr := arr) hd hR h3 h2 (by rw [List.take_length]) (by rw [h4]; exact qDx _) (by rw [← h4]; simp at hlen; omega) (qpb hwf h2) (qid _)
      rw [h4] at k1
      have e9 : qmr xs = .osl xs := by
        cases xs with
        | nil => exact absurd rfl hx0
        | cons x l => rfl
      rw [e9] at k1
      exact ⟨_, _, g', β, .value (by simp only [Go.execOp, ho, Sem.run_bind, hrun, Result.andThen_ok, Sem.run_pure]), k1, k2⟩
    · cases hr
  · cases hr
theorem qmp (hd : jj o a) (hR : Rel M g w β st a.tmps) {t e : TypeId} {n : Nat} {ps : Array (Nat × Operand)} (ho : o.op = .buildSlice t n ps) (hu : P.underlying t = some (.slice e)) {l : L} (hl : lay P e = some l) {zd : D} (hz : qcZ P e = some zd)
    (hs : zd.cells.length = l.n ∧ 0 < l.n ∧ n * l.n ≤ 16777216) {ps' : List (Nat × O)} (hps : qgd M ps.toList = some ps')
    {r : Or} (hr : qbA zd n ps' st = some r) : Left1 P M g w o a r := by
  obtain ⟨ie, d, hie, hue, rfl⟩ := qc8 hl
  obtain ⟨i2, z, hi2, hzz, hzd⟩ := qc3 hz
  rw [hie] at hi2
  cases hi2
  simp only at hs
  obtain ⟨hs1, hs2, hs3⟩ := hs
  unfold qbA at hr
  split at hr
  · rename_i xs hxs
    split at hr
    · rename_i hwf
      simp only [ok, Option.some.injEq] at hr
      subst hr
      rw [hs1] at hxs
      have hrep := (qdD g.pub w z zd hzd).cells
      have hrep0 := qeP hrep hs1 hs2 n
      obtain ⟨arr, h1, h2, h3, h4⟩ := qhZ (arr := (Array.range (n * ie.size)).map (z.cells[· % z.cells.size]!)) hs2 (qgI hR hps) hrep0 (fun x hx => by rw [List.eq_of_mem_replicate hx]; exact hs1) hxs
      rw [List.length_replicate] at h4
      have hrun : (Go.Instr.buildSlice t n (ps.map fun (i, x) => (i, a.eval x))).run P w = .ok (.slice (some ⟨w.heap.size, 0, none⟩) n n) (w.alloc (.cells arr e)) := by
        by_cases hn : n = 0
        · subst hn
          refine qg9 hu hie ?_
          rw [Nat.zero_mul, qg5] at h1
          simpa using h1
        · have : 0 < n * ie.size := Nat.mul_pos (by omega) hs2
          exact Go.run_buildSlice (P := P) w t e n _ arr ie z hu hie hzz (by simpa using hs3) (by omega) (by simpa using h1)
      have hlen := h2.length
      rw [qbF xs _ h3] at hlen
      by_cases hx0 : xs = []
      case pos =>
        subst hx0
        simp only [qDD] at h4
        subst h4
        have hR' := hR.alloc none 0 (.cells arr e)
        have hrun2 : (Go.execOp a.eval o).run P w = .ok (.value (.slice (some ⟨w.heap.size, 0, none⟩) 0 0)) (w.alloc (.cells arr e)) := by
          simp only [Go.execOp, ho, Sem.run_bind, hrun, Result.andThen_ok, Sem.run_pure]
        exact ⟨.slice (some ⟨w.heap.size, 0, none⟩) 0 0, _, _, β, .value hrun2, hR'.putV hd (.s (.fsl [] ⟨w.heap.size, 0, none⟩ (.sl0 _ 0))), qdq hR.fr none 0 _⟩
      obtain ⟨g', k1, k2⟩ := qur (T := e) (fz := (0, 0)) (arr := arr) hd hR hx0 h3 h2 (by rw [List.take_length]) (qpb hwf h2)
      rw [h4] at k1
      exact ⟨_, _, g', β, .value (by simp only [Go.execOp, ho, Sem.run_bind, hrun, Result.andThen_ok, Sem.run_pure]), k1, k2⟩
    · cases hr
  · cases hr
end
end W

/-
  Texts and their bytes; rows that are made.
-/
set_option linter.unusedSimpArgs false
set_option linter.unusedVariables false
namespace W
open Go (World Value Addr IntKind Program TypeId FuncId Operand Act Oper Next Result Sem BinOp UnOp)
theorem qns (w : World) (arr : Array Value) (e : TypeId) (n : Nat) : (w.alloc (.cells arr e)).freeze ⟨w.heap.size, n, none⟩ 1 = w.alloc (.cells arr e (n, n + 1)) := by
  have h : ∀ f : Go.Obj → Go.Obj, (w.heap.push (.cells arr e)).modify w.heap.size f = w.heap.push (f (.cells arr e)) := by
    intro f
    apply Array.ext_getElem?
    intro i
    rw [Array.getElem?_modify, Array.getElem?_push, Array.getElem?_push]
    by_cases hi : i = w.heap.size
    · subst hi; simp
    · have h2 : w.heap.size ≠ i := fun h => hi h.symm
      simp [hi, h2]
  unfold World.freeze
  simp only [Nat.one_ne_zero, if_false]
  show ({ (w.alloc (.cells arr e)) with heap := (w.heap.push (.cells arr e)).modify w.heap.size _ } : World) = _
  rw [h]
  rfl
def toB (w : World) (z : ByteArray) (e : TypeId) : Array Value := z.data.map (fun b : UInt8 => Value.int .u8 (b.toNat : Int)) ++ Array.replicate (Go.grownCap w z.size 0 e - z.size) (.int .u8 0)
section
variable {P : Program} {M : Maps} {g : Gh} {w : World} {β : Nat → Nat} {st : St} {o : Oper} {a : Act}
theorem qki {src dst e : TypeId} {z : ByteArray} {d : Go.TypeDesc} (hs : P.underlying src = some d) (hd : P.underlying dst = some (.slice e)) (he : P.underlying e = some (.int .u8)) :
    (Go.convert src dst (.string z)).run P w = .ok (.slice (some ⟨w.heap.size, 0, none⟩) z.size (Go.grownCap w z.size 0 e))
      (w.drew.alloc (.cells (toB w z e) e
        ((toB w z e).size,
         (toB w z e).size + 1))) := by
  have h1 : (Go.convert src dst (.string z)).run P w = (Go.Conv.stringToBytes e z).run P w := by
    simp only [Go.convert, Sem.run_bind, Go.run_underlying hs, Go.run_underlying hd, Result.andThen_ok]
    cases d <;> simp [Go.run_underlying he]
  rw [h1]
  have hf : (Go.Question.appendCap z.size 0 e).forced = false := rfl
  unfold Go.Conv.stringToBytes
  simp only [Sem.run_bind, Go.run_choose, hf, qDt, if_false, Result.andThen_ok, Go.newRow, Go.run_newObj_alloc, Sem.run_pure, Go.markStringish, Go.run_shape]
  have hsh : (w.drew.alloc (.cells (toB w z e) e)).shape? w.heap.size =
      some (e, (toB w z e).size) := by
    unfold World.shape?
    have := qa2 w.drew (.cells (toB w z e) e)
    have e0 : w.drew.heap.size = w.heap.size := rfl
    rw [e0] at this
    rw [this]
  have hfr := qns w.drew (toB w z e) e (toB w z e).size
  show ((match World.shape? (w.drew.alloc (.cells (toB w z e) e)) w.heap.size with
    | some (_, n) => Go.freeze { block := w.heap.size, off := n } 1
    | _ => pure ()).run P _).andThen _ = _
  rw [hsh]
  simp only [Go.run_freeze, Result.andThen_ok]
  have e0 : w.drew.heap.size = w.heap.size := rfl
  rw [e0] at hfr
  exact congrArg (fun W => Result.ok (Value.slice (some ⟨w.heap.size, 0, none⟩) z.size (Go.grownCap w z.size 0 e)) W) hfr
theorem qsX (hd : jj o a) (hR : Rel M g w β st a.tmps) {src dst e : TypeId} {x : Operand} {x' : O} (hx : opnd M false x = some x') (hs : P.underlying src = some .string) (hdt : P.underlying dst = some (.slice e)) (he : P.underlying e = some (.int .u8))
    (ho : o.op = .convert src dst x) {r : Or} (hr : qfL x' st = some r) : Left1 P M g w o a r := by
  have h1 := jn hR hx
  unfold qfL at hr
  split at hr
  · rename_i t hz
    rw [hz] at h1
    obtain ⟨z, e1, f1⟩ := qe3 h1.inv_d
    simp only [ok, Option.some.injEq] at hr
    subst hr
    have hrun := qki (P := P) (w := w) (z := z) hs hdt he
    have hsm : SameMem w w.drew := ⟨rfl, rfl, rfl⟩
    have hR' := hR.sameMem hsm
    have hsrc := qju (P := P) (g := g) (w := w) (z := z)
    rw [f1] at hsrc
    have hlen : (t.map fun n : Nat => D.i .u8 n).length = z.size := by rw [← f1]; simp
    have hge := Go.grownCap_ge w z.size 0 e
    have hd1 : z.data.size = z.size := rfl
    obtain ⟨g', k1, k2⟩ := qjv (T := e) (cap := Go.grownCap w z.size 0 e) (arr := toB w z e)
      (fz := ((toB w z e).size,
         (toB w z e).size + 1)) hd hR' hsrc.sz (hsrc.rep.mono (hsm.grow g).pub (hsm.grow g).cell)
      (by simp only [toB, Array.toList_append, Array.toList_map]; exact List.take_left) (by rw [hlen]; exact hge) (by simp [toB]; omega) hsrc.one (fun j hj => by
        have : ¬ ((toB w z e).size ≤ j) := by simp [toB]; omega
        simp only [this, decide_false, Bool.false_and])
    rw [hlen] at k1
    refine ⟨_, _, g', β, .value ?_, k1, (hsm.evo g).trans k2⟩
    simp only [Go.execOp, ho, Sem.run_bind, e1, hrun, Result.andThen_ok, Sem.run_pure]
    rfl
  · cases hr
theorem qnz (hd : jj o a) (hR : Rel M g w β st a.tmps) {src dst e : TypeId} {x : Operand} {x' : O} (hx : opnd M false x = some x') (hs : P.underlying src = some .string) (hdt : P.underlying dst = some (.slice e)) (he : P.underlying e = some (.int .u8))
    (ho : o.op = .convert src dst x) {r : Or} (hr : qcx x' st = some r) : Left1 P M g w o a r := by
  have h1 := jn hR hx
  unfold qcx at hr
  split at hr
  · rename_i t hz
    rw [hz] at h1
    obtain ⟨z, e1, f1⟩ := qe3 h1.inv_d
    simp only [okH, Option.some.injEq] at hr
    subst hr
    have hrun := qki (P := P) (w := w) (z := z) hs hdt he
    have hsm : SameMem w w.drew := ⟨rfl, rfl, rfl⟩
    have hR' := hR.sameMem hsm
    have hsrc := qju (P := P) (g := g) (w := w) (z := z)
    rw [f1] at hsrc
    have hge := Go.grownCap_ge w z.size 0 e
    have hd1 : z.data.size = z.size := rfl
    have hlen : (t.map fun n : Nat => V.d (.i .u8 n)).length = z.size := by rw [← f1]; simp
    have hds : (t.map fun n : Nat => V.d (.i .u8 n)) = (t.map fun n : Nat => D.i .u8 n).map V.d := by simp
    have hflat : (t.map fun n : Nat => D.i .u8 n).flatMap D.cells = (t.map fun n : Nat => D.i .u8 n) := by
      generalize t = t'
      induction t' with
      | nil => rfl
      | cons y l ih => rw [qDy, List.flatMap_cons, ih]; rfl
    have hrep := hsrc.rep.mono (hsm.grow g).pub (hsm.grow g).cell
    rw [hflat] at hrep
    have hC := qhM (M := M) (g := g) (w := w.drew) (ds := t.map fun n : Nat => D.i .u8 n) (vs := z.data.map (fun b : UInt8 => Value.int .u8 (b.toNat : Int))) (by simpa using hrep) (fun i => Loc.ocell g.n i)
    obtain ⟨k1, k2⟩ := qmL (cs := t.map fun n : Nat => V.d (.i .u8 n)) (arr := toB w z e) hd hR' e ((toB w z e).size, (toB w z e).size + 1) (fun j hj => by
        have : ¬ ((toB w z e).size ≤ j) := by rw [hlen] at hj; simp [toB]; omega
        simp only [this, decide_false, Bool.false_and]) (by rw [hlen]; simp [toB]) (fun i y u hy hu => by
        have hi : i < z.size := by rw [← hlen]; exact (List.getElem?_eq_some_iff.1 hy).1
        rw [hds] at hy
        refine hC i y u hy ?_
        unfold toB at hu
        rwa [Array.getElem?_append_left (by simpa using hi)] at hu)
    have e0 : w.drew.heap.size = w.heap.size := rfl
    rw [e0] at k1 k2
    refine ⟨.slice (some ⟨w.heap.size, 0, none⟩) z.size (Go.grownCap w z.size 0 e), _, g.withObj w.heap.size, β, .value ?_, ?_, (hsm.evo g).trans k2⟩
    · simp only [Go.execOp, ho, Sem.run_bind, e1, hrun, Result.andThen_ok, Sem.run_pure]
    · have hv : RepV M (g.withObj w.heap.size) (w.drew.alloc (.cells (toB w z e) e ((toB w z e).size, (toB w z e).size + 1))) β (.rs st.H.length 0 t.length t.length) (.slice (some ⟨w.heap.size, 0, none⟩) z.size (Go.grownCap w z.size 0 e)) := by
        have ht : t.length = z.size := by simpa using hlen
        have := RepS.rs (M := M) (g := g.withObj w.heap.size) (w := w.drew.alloc (.cells (toB w z e) e ((toB w z e).size, (toB w z e).size + 1))) g.n 0 z.size z.size (Go.grownCap w z.size 0 e) (Nat.lt_succ_self _) (qDx _) hge
        rw [← hR.n, ht]
        simpa [Gh.withObj] using RepV.s (β := β) this
      exact k1.putV hd hv
  · cases hr
theorem qhK {pub : Nat → Nat} : ∀ {xs : List D} {t : List Nat} {vs : List Value}, qbS xs = some t → RepDL pub w (xs.flatMap D.cells) vs → vs = (t.map fun n : Nat => (n : Int)).map (Value.int .u8) ∧ (∀ x ∈ xs, x.cells.length = 1) ∧ (∀ n ∈ t, n < 256) ∧ t.length = xs.length
  | [], t, vs, h, hr => by
    simp only [qbS, Option.some.injEq] at h
    subst h
    cases hr
    exact ⟨rfl, by simp, by simp, rfl⟩
  | x :: xs, t, vs, h, hr => by
    unfold qbS at h
    split at h
    · rename_i heq; cases heq
    · rename_i n l heq
      simp only [List.cons.injEq] at heq
      obtain ⟨rfl, rfl⟩ := heq
      split at h
      · rename_i hn
        cases hb : qbS xs with
        | none => simp [hb] at h
        | some t' =>
          simp only [hb, qDw, Option.some.injEq] at h
          subst h
          simp only [List.flatMap_cons, D.cells, List.singleton_append] at hr
          cases hr with
          | cons _ v _ vs' h1 h2 =>
            have e := qcO h1
            obtain ⟨i1, i2, i3, i4⟩ := qhK hb h2
            refine ⟨?_, ?_, ?_, by simp [i4]⟩
            · rw [e, i1]; simp [Int.toNat_of_nonneg hn.1]
            · intro y hy
              rcases List.mem_cons.1 hy with h | h
              · subst h; rfl
              · exact i2 y h
            · intro m hm
              rcases List.mem_cons.1 hm with h | h
              · subst h; omega
              · exact i3 m h
      · cases h
    · cases h
theorem qmK : ∀ (ns : List Nat) (s : ByteArray), ((ns.map fun n : Nat => (n : Int)).foldl (fun r n => r.push (UInt8.ofNat n.toNat)) s).data.toList = s.data.toList ++ ns.map UInt8.ofNat
  | [], s => by simp
  | n :: ns, s => by
    simp only [qDy, List.foldl_cons]
    rw [qmK ns]
    simp [ByteArray.push]
theorem qir {ns : List Nat} (h : ∀ n ∈ ns, n < 256) : ((ns.map fun n : Nat => (n : Int)).foldl (fun r n => r.push (UInt8.ofNat n.toNat)) ByteArray.empty).data.toList.map (·.toNat) = ns := by
  rw [qmK]
  simp only [List.map_append, List.map_map]
  have : (ByteArray.empty.data.toList.map (·.toNat)) = [] := rfl
  rw [this, List.nil_append]
  conv => rhs; rw [← List.map_id ns]
  apply List.map_congr_left
  intro n hn
  have := h n hn
  simp [UInt8.toNat_ofNat']
  omega
theorem qjt {M : Maps} {g : Gh} {w : World} : ∀ {cs : List V} {vs : List Value} {ds : List D}, qc0 cs = some ds → cs.length = vs.length → (∀ (i : Nat) x v, cs[i]? = some x → vs[i]? = some v → RepS M g w (qb2 x) v) → RepDL g.pub w ds vs
  | [], [], ds, h, _, _ => by simp only [qc0, Option.some.injEq] at h; subst h; exact .nil
  | [], _ :: _, _, _, hl, _ => by simp at hl
  | _ :: _, [], _, _, hl, _ => by simp at hl
  | x :: cs, v :: vs, ds, h, hl, hr => by
    have h0 := hr 0 x v rfl rfl
    have hrest : ∀ (i : Nat) y u, cs[i]? = some y → vs[i]? = some u → RepS M g w (qb2 y) u := fun i y u hy hu => hr (i + 1) y u (by simpa using hy) (by simpa using hu)
    cases x with
    | d y =>
      simp only [qc0] at h
      split at h
      · rename_i r hr1
        simp only [Option.some.injEq] at h; subst h
        cases h0 with
        | d _ _ h0 => exact .cons _ _ _ _ h0 (qjt hr1 (by simpa using hl) hrest)
      · cases h
    | osl y =>
      simp only [qc0] at h
      split at h
      · rename_i r hr1
        simp only [Option.some.injEq] at h; subst h
        cases h0 with
        | d _ _ h0 => exact .cons _ _ _ _ h0 (qjt hr1 (by simpa using hl) hrest)
      · cases h
    | fsl y =>
      simp only [qc0] at h
      split at h
      · rename_i r hr1
        simp only [Option.some.injEq] at h; subst h
        cases h0 with
        | fsl _ ad h0 => exact .cons _ _ _ _ h0 (qjt hr1 (by simpa using hl) hrest)
      · cases h
    | _ => simp [qc0] at h
theorem qmd {M : Maps} {g : Gh} {w : World} {cs : List V} {ds : List D} {b off n : Nat} {arr : Array Value} {T : TypeId} {fz : Nat × Nat} (hds : qc0 ((cs.drop off).take n) = some ds) (hl : cs.length ≤ arr.size) (hle : off + n ≤ cs.length)
    (hb : w.heap[b]? = some (.cells arr T fz)) (hr : ∀ (i : Nat) x v, cs[i]? = some x → arr[i]? = some v → RepS M g w (qb2 x) v) :
    ∃ vs : List Value, vs.length = n ∧ RepDL g.pub w ds vs ∧ ∀ (j : Nat) v, vs[j]? = some v → w.cell? ⟨b, off + j, none⟩ = some v := by
  refine ⟨(arr.toList.drop off).take n, by simp; omega, qjt (M := M) hds (by simp; omega) (fun i x v hx hv => ?_), fun j v hj => ?_⟩
  · have hi : i < n := by
      have := (List.getElem?_eq_some_iff.1 hx).1
      simp at this; omega
    refine hr (off + i) x v ?_ ?_
    · simpa [List.getElem?_take, hi, List.getElem?_drop] using hx
    · simpa [List.getElem?_take, hi, List.getElem?_drop] using hv
  · have hj' : j < n := by
      have := (List.getElem?_eq_some_iff.1 hj).1
      simp at this; omega
    have : arr[off + j]? = some v := by simpa [List.getElem?_take, hj', List.getElem?_drop] using hj
    simp [World.cell?, hb, this]
theorem qlF : ∀ {ds : List D} {t : List Nat}, qbS ds = some t → ds.flatMap D.cells = ds
  | [], _, _ => rfl
  | x :: l, t, h => by
    cases x with
    | i k n =>
      cases k with
      | u8 =>
        simp only [qbS] at h
        split at h
        · cases hb : qbS l with
          | none => simp [hb] at h
          | some r => rw [List.flatMap_cons, qlF hb]; rfl
        · cases h
      | _ => simp [qbS] at h
    | _ => simp [qbS] at h
theorem qud (hd : jj o a) (hR : Rel M g w β st a.tmps) {src dst e : TypeId} {x : Operand} {x' : O} (hx : opnd M false x = some x') (hs : P.underlying src = some (.slice e)) (hdt : P.underlying dst = some .string) (he : P.underlying e = some (.int .u8))
    (ho : o.op = .convert src dst x) {r : Or} (hr : qho x' st = some r) : Left1 P M g w o a r := by
  have h1 := jn hR hx
  have hrun : ∀ {ad : Option Addr} {l c : Nat} {z : ByteArray}, a.eval x = .slice ad l c → (Go.Conv.bytesToString (.slice ad l c)).run P w = .ok (.string z) w → (Go.execOp a.eval o).run P w = .ok (.value (.string z)) w := by
    intro ad l c z hc hb
    have := Go.run_convert_bytes_string (P := P) w src dst e ad l c hs he hdt
    simp only [Go.execOp, ho, Sem.run_bind, hc, this, hb, Result.andThen_ok, Sem.run_pure]
  have cellsRun : ∀ {b off : Nat} {vs : List Value}, (∀ j v, vs[j]? = some v → w.cell? ⟨b, off + j, none⟩ = some v) → (Go.loadCells ⟨b, off, none⟩ vs.length).run P w = .ok vs.toArray w := fun {b off vs} h =>
    Go.run_loadCells_list (P := P) w ⟨b, off, none⟩ vs (fun j v hj => by rw [qbj]; exact h j v hj)
  unfold qho at hr
  split at hr
  · rename_i hz
    rw [hz] at h1
    have h2 := h1.inv_d
    generalize hc : a.eval x = cc at h2
    cases h2
    exact kw hd hR (.s (.d _ _ (.s [] ByteArray.empty rfl))) (hrun hc rfl) hr
  · rename_i xs hz
    rw [hz] at h1
    have h2 := h1.inv_d
    split at hr
    · rename_i t ht
      generalize hc : a.eval x = cc at h2
      cases h2 with
      | sl0 ad cap =>
        simp only [qbS, Option.some.injEq] at ht
        subst ht
        refine kw hd hR (.s (.d _ _ (.s [] ByteArray.empty rfl))) (hrun hc ?_) hr
        have := Go.run_bytesToString (P := P) w ad 0 cap [] rfl
        exact this
      | sl _ b off cap sz vs hne hsz hrep hcell hpub hcap hone =>
        obtain ⟨i1, i2, i3, i4⟩ := qhK ht hrep
        refine kw hd hR (.s (.d _ _ (.s t _ (qir i3)))) (hrun hc ?_) hr
        refine Go.run_bytesToString (P := P) w _ _ _ _ ?_
        have hl : vs.length = xs.length := by rw [i1]; simp [i4]
        rw [← hl, ← i1]
        exact cellsRun hcell
    · cases hr
  · rename_i id off n cap hz
    rw [hz] at h1
    split at hr
    · rename_i cs hob
      rw [qDH] at hr
      split at hr
      · rename_i hle
        have hle := Nat.le_of_ble_eq_true hle
        split at hr
        · rename_i ds hds
          split at hr
          · rename_i t ht
            generalize hc : a.eval x = cc at h1
            cases h1 with
            | s h1 =>
              cases h1 with
              | rs _ _ _ _ _ hid hcap hcap2 =>
                cases hR.h id _ hob with
                | cells _ arr T fz hb hz ho hp hl hr0 =>
                  have hsub : ∃ vs : List Value, vs.length = n ∧ RepDL g.pub w ds vs ∧ ∀ (j : Nat) v, vs[j]? = some v → w.cell? ⟨g.φ id, off + j, none⟩ = some v := qmd (M := M) (g := g) hds hl hle hb (fun i x v hx hv => (hr0 i x v hx hv).read)
                  obtain ⟨vs, hvl, hrep, hcell⟩ := hsub
                  obtain ⟨i1, i2, i3, i4⟩ := qhK ht (by rw [qlF ht]; exact hrep)
                  refine kw hd hR (.s (.d _ _ (.s t _ (qir i3)))) (hrun hc ?_) hr
                  refine Go.run_bytesToString (P := P) w _ _ _ _ ?_
                  rw [← hvl, ← i1]
                  exact cellsRun hcell
          · cases hr
        · cases hr
      · cases hr
    · cases hr
  · cases hr
theorem qpI (hd : jj o a) (hR : Rel M g w β st a.tmps) {t e : TypeId} {x y : Operand} {x' y' : O} (hu : P.underlying t = some (.slice e)) {i : Go.TypeInfo} (hi : P.info? e = some i) {zd : D} (hz : qcZ P e = some zd) (hs : i.size = 1 ∧ i.bytes ≤ 262144)
    (hx : opnd M false x = some x') (hy : opnd M false y = some y') (ho : o.op = .makeSlice t x y) {r : Or} (hr : qd8 zd x' y' st = some r) : Left1 P M g w o a r := by
  have h1 := jn hR hx
  have h2 := jn hR hy
  obtain ⟨i2, z, hi2, hzz, hzd⟩ := qc3 hz
  rw [hi] at hi2
  cases hi2
  unfold qd8 at hr
  split at hr
  · rename_i k1 n k2 m hv1 hv2
    rw [hv1] at h1; rw [hv2] at h2
    split at hr
    · rename_i hb
      split at hr
      · rename_i hnm
        subst hnm
        simp only [okH, Option.some.injEq] at hr
        subst hr
        have e1 := qcO h1.inv_d
        have e2 := qcO h2.inv_d
        have hrep := (qdD g.pub w z zd hzd).cells
        have hc1 : zd.cells = [zd] := by
          have := hb.2.2.2
          cases zd <;> first | rfl | (simp [D.one] at this)
        have hw : IntKind.i64.wrap n = n := Go.wrap_small n hb.1 (by omega)
        obtain ⟨N, rfl⟩ : ∃ N : Nat, n = N := ⟨n.toNat, (Int.toNat_of_nonneg hb.1).symm⟩
        have hN : N ≤ 1073741824 := by have := hb.2.2.1; omega
        have hsmall : ¬ ((i.bytes : Int) * (N : Int) > 2 ^ 48) := by
          have h3 : i.bytes * N ≤ 262144 * 1073741824 := Nat.mul_le_mul hs.2 hN
          have h4 : ((i.bytes * N : Nat) : Int) ≤ 281474976710656 := by omega
          rw [Int.natCast_mul] at h4
          omega
        have hneg : ¬ ((N : Int) < 0) := by omega
        have hrun : (Go.Instr.makeSlice t (a.eval x) (a.eval y)).run P w = .ok (.slice (some ⟨w.heap.size, 0, none⟩) N N) (w.alloc (.cells ((Array.range N).map (z.cells[· % z.cells.size]!)) e)) := by
          have hai : ∀ (k : IntKind) (n : Int), (Go.asInt (.int k n)).run P w = .ok n w := fun _ _ => rfl
          rw [e1, e2]
          by_cases h0 : N = 0
          · subst h0
            have hai0 : ∀ (k : IntKind), (Go.asInt (.int k 0)).run P w = .ok 0 w := fun _ => rfl
            have hw0 : IntKind.i64.wrap 0 = 0 := by decide
            simp [Go.Instr.makeSlice, Go.run_underlying hu, Go.typeInfo, hi, hai0, hw0, Go.sizeOf, Go.newRow, qg5]
          · simp [Go.Instr.makeSlice, Go.run_underlying hu, Go.typeInfo, hi, hai, hw, hneg, hsmall, Go.sizeOf, hs.1, h0, qhF hi hzz, Go.newRow]
            intro hbad
            omega
        have hz0 := qeP hrep (size := 1) (by rw [hc1]; rfl) (by omega) N
        have hz1 : (List.replicate N zd).flatMap D.cells = List.replicate N zd := by
          clear hz0 hrun hsmall hneg hN hw e1 e2 hb hv1 hv2 h1 h2
          induction N with
          | zero => rfl
          | succ N ih => rw [List.replicate_succ, List.flatMap_cons, ih, hc1]; rfl
        rw [hz1, Nat.mul_one] at hz0
        have hz2 := qhM (M := M) hz0 (fun i => Loc.ocell g.n i)
        have hlen : ((List.replicate N zd).map V.d).length = ((Array.range N).map (z.cells[· % z.cells.size]!)).size := by simp
        obtain ⟨k1, k2⟩ := qjd hd hR e (Nat.le_of_eq hlen) hz2
        refine ⟨.slice (some ⟨w.heap.size, 0, none⟩) N N, _, g.withObj w.heap.size, β, .value (w' := w.alloc (.cells ((Array.range N).map (z.cells[· % z.cells.size]!)) e)) (by simp only [Go.execOp, ho, Sem.run_bind, hrun, Result.andThen_ok, Sem.run_pure]), ?_, k2⟩
        have hv : RepV M (g.withObj w.heap.size) (w.alloc (.cells ((Array.range N).map (z.cells[· % z.cells.size]!)) e)) β (.rs st.H.length 0 (N : Int).toNat (N : Int).toNat) (.slice (some ⟨w.heap.size, 0, none⟩) N N) := by
          have := RepS.rs (M := M) (g := g.withObj w.heap.size) (w := w.alloc (.cells ((Array.range N).map (z.cells[· % z.cells.size]!)) e)) g.n 0 N N N (Nat.lt_succ_self _) (qDx _) (qDx _)
          rw [← hR.n]
          simpa [Gh.withObj] using RepV.s (β := β) this
        have e3 : List.replicate (N : Int).toNat (V.d zd) = (List.replicate N zd).map V.d := by simp
        rw [e3]
        exact k1.putV hd hv
      · cases hr
    · cases hr
  · cases hr
theorem qnb (hd : jj o a) (hR : Rel M g w β st a.tmps) {t xt : TypeId} {t' : Nat} (hm : look M.tm t = some t') (hinj : M.tm.all (fun p => p.2 != t' || p.1 == t) = true) {dd : Go.TypeDesc} (hu : P.underlying t = some dd) (hni : ∀ m, dd ≠ .interface m)
    {zd : D} (hz : qcZ P t = some zd) {x : Operand} {x' : O} (hx : opnd M false x = some x') (ho : o.op = .typeAssert x xt t true) {r : Or} (hr : qcw t' zd x' st = some r) : Left1 P M g w o a r := by
  have h1 := jn hR hx
  obtain ⟨i2, z, hi2, hzz, hzd⟩ := qc3 hz
  have hrz : (Go.zeroValue t).run P w = .ok z w := qhF hi2 hzz
  have hzr : RepS M g w (.d zd) z := .d _ _ (qdD g.pub w z zd hzd)
  have hb : ∀ b, RepS M g w (.d (.b b)) (.bool b) := fun b => .d _ _ (.b b)
  unfold qcw at hr
  split at hr
  · rename_i t2 v hv
    rw [hv] at h1
    generalize hc : a.eval x = c at h1
    cases h1 with
    | s h3 => cases h3 with
      | ifc _ t3 _ c3 hlk hrep =>
        by_cases he : t2 = t'
        · subst he
          have ht : t3 = t := by
            have key : ∀ (l : List (Nat × Nat)), l.all (fun p => p.2 != t2 || p.1 == t) = true → look l t3 = some t2 → t3 = t := by
              intro l
              induction l with
              | nil => intro _ h; cases h
              | cons p l ih =>
                intro hall hl
                simp only [List.all_cons, qDB] at hall
                simp only [look, qDH] at hl
                split at hl
                · rename_i hbq
                  simp only [Option.some.injEq] at hl
                  have := hall.1
                  simp only [hl, bne_self_eq_false, Bool.false_or, beq_iff_eq] at this
                  rw [← this]; exact qDR hbq
                · exact ih hall.2 hl
            exact key _ hinj hlk
          subst ht
          simp only [Nat.beq_refl, cond_true] at hr
          refine kw hd hR (.s (.tup _ #[c3, .bool true] (.cons _ _ _ _ hrep (.cons _ _ _ _ (hb true) .nil)))) ?_ hr
          simp only [Go.execOp, ho, hc, Go.Instr.typeAssert, Sem.run_bind, Go.run_underlying hu, Result.andThen_ok]
          cases dd <;> first | (simp [Sem.run_bind, Sem.run_pure]; done) | exact absurd rfl (hni _)
        · have hbe : qDG t2 t' = false := by
            cases hq : qDG t2 t' with
            | false => rfl
            | true => exact absurd (qDR hq) he
          simp only [hbe, cond_false] at hr
          have hne : t3 ≠ t := fun e => by
            subst e
            rw [hm] at hlk
            simp only [Option.some.injEq] at hlk
            exact he hlk.symm
          refine kw hd hR (.s (.tup _ #[z, .bool false] (.cons _ _ _ _ hzr (.cons _ _ _ _ (hb false) .nil)))) ?_ hr
          simp only [Go.execOp, ho, hc, Go.Instr.typeAssert, Sem.run_bind, Go.run_underlying hu, Result.andThen_ok]
          cases dd <;> first | (simp [Sem.run_bind, Sem.run_pure, hne, hrz]; done) | exact absurd rfl (hni _)
  · rename_i hv
    rw [hv] at h1
    have h3 := h1.inv_d
    generalize hc : a.eval x = c at h3
    cases h3
    refine kw hd hR (.s (.tup _ #[z, .bool false] (.cons _ _ _ _ hzr (.cons _ _ _ _ (hb false) .nil)))) ?_ hr
    simp only [Go.execOp, ho, hc, Go.Instr.typeAssert, Sem.run_bind, Go.run_underlying hu, Result.andThen_ok]
    cases dd <;> first | (simp [Sem.run_bind, Sem.run_pure, hrz]; done) | exact absurd rfl (hni _)
  · cases hr
theorem qmT : ∀ {xs : List D}, D.ones xs = true → xs.flatMap D.cells = xs
  | [], _ => rfl
  | x :: l, h => by
    simp only [D.ones, qDB] at h
    rw [List.flatMap_cons, qmT h.2]
    have := h.1
    cases x <;> first | rfl | (simp [D.one] at this)
theorem qnx (hd : jj o a) (hR : Rel M g w β st a.tmps) {t e : TypeId} {n : Nat} {ps : Array (Nat × Operand)} (ho : o.op = .buildSlice t n ps) (hu : P.underlying t = some (.slice e)) {l : L} (hl : lay P e = some l) {zd : D} (hz : qcZ P e = some zd)
    (hs : zd.cells.length = l.n ∧ 0 < l.n ∧ n * l.n ≤ 16777216) (h1n : l.n = 1) {ps' : List (Nat × O)} (hps : qgd M ps.toList = some ps')
    {r : Or} (hr : qcE zd n ps' st = some r) : Left1 P M g w o a r := by
  obtain ⟨ie, d, hie, hue, rfl⟩ := qc8 hl
  obtain ⟨i2, z, hi2, hzz, hzd⟩ := qc3 hz
  rw [hie] at hi2
  cases hi2
  simp only at hs h1n
  obtain ⟨hs1, hs2, hs3⟩ := hs
  unfold qcE at hr
  split at hr
  · rename_i xs hxs
    split at hr
    · rename_i hwf
      simp only [okH, Option.some.injEq] at hr
      subst hr
      rw [hs1] at hxs
      have hrep := (qdD g.pub w z zd hzd).cells
      have hrep0 := qeP hrep hs1 hs2 n
      obtain ⟨arr, h1, h2, h3, h4⟩ := qhZ (arr := (Array.range (n * ie.size)).map (z.cells[· % z.cells.size]!)) hs2 (qgI hR hps) hrep0 (fun x hx => by rw [List.eq_of_mem_replicate hx]; exact hs1) hxs
      rw [List.length_replicate] at h4
      have hn0 : n ≠ 0 := by
        intro e; subst e
        exact hwf.2.2 (List.eq_nil_of_length_eq_zero h4)
      have hrun : (Go.Instr.buildSlice t n (ps.map fun (i, x) => (i, a.eval x))).run P w = .ok (.slice (some ⟨w.heap.size, 0, none⟩) n n) (w.alloc (.cells arr e)) := by
        have : 0 < n * ie.size := Nat.mul_pos (by omega) hs2
        exact Go.run_buildSlice (P := P) w t e n _ arr ie z hu hie hzz (by simpa using hs3) (by omega) (by simpa using h1)
      rw [qmT hwf.2.1] at h2
      have hz2 := qhM (M := M) h2 (fun i => Loc.ocell g.n i)
      have hlen : (xs.map V.d).length = arr.size := by
        have := h2.length
        simpa using this
      obtain ⟨k1, k2⟩ := qjd hd hR e (Nat.le_of_eq hlen) hz2
      refine ⟨.slice (some ⟨w.heap.size, 0, none⟩) n n, _, g.withObj w.heap.size, β, .value (w' := w.alloc (.cells arr e)) (by simp only [Go.execOp, ho, Sem.run_bind, hrun, Result.andThen_ok, Sem.run_pure]), ?_, k2⟩
      have hv : RepV M (g.withObj w.heap.size) (w.alloc (.cells arr e)) β (.rs st.H.length 0 xs.length xs.length) (.slice (some ⟨w.heap.size, 0, none⟩) n n) := by
        have := RepS.rs (M := M) (g := g.withObj w.heap.size) (w := w.alloc (.cells arr e)) g.n 0 n n n (Nat.lt_succ_self _) (qDx _) (qDx _)
        rw [← hR.n, h4]
        simpa [Gh.withObj] using RepV.s (β := β) this
      exact k1.putV hd hv
    · cases hr
  · cases hr
end
end W

/-
  Calls: what goes in, what comes back, whose it is meanwhile.
-/
set_option linter.unusedSimpArgs false
set_option linter.unusedVariables false
namespace W
open Go (World Value Addr IntKind Program TypeId FuncId Operand Act Oper Next Result Sem BinOp UnOp Ending Exit)
structure RelH (M : Maps) (g : Gh) (w : World) (H : List Obj) : Prop where
  n : g.n = H.length
  h : ∀ id o, H[id]? = some o → RepO M g w id o
  fresh : ∀ b, w.heap.size ≤ b → g.own b = none ∧ g.pub b = 0
  gl : GlOk M g w
theorem Rel.toH {M : Maps} {g : Gh} {w : World} {β : Nat → Nat} {st : St} {tmps : Array Value} (h : Rel M g w β st tmps) : RelH M g w st.H := ⟨h.n, h.h, h.fresh, h.gl⟩
inductive RepA (M : Maps) (g : Gh) (w : World) (j : Nat) : V → Value → Prop
  | s {v : V} {c : Value} (h : RepS M g w v c) : RepA M g w j v c
  | osl {xs : List D} {c : Value} (h : OwnSl g w (.slot j) xs c) : RepA M g w j (.osl xs) c
inductive ArgsRep (M : Maps) (g : Gh) (w : World) : Nat → List V → List Value → Prop
  | nil (j : Nat) : ArgsRep M g w j [] []
  | cons {j : Nat} {v : V} {c : Value} {vs : List V} {cs : List Value} (h : RepA M g w j v c) (hl : ArgsRep M g w (j + 1) vs cs) : ArgsRep M g w j (v :: vs) (c :: cs)
def jQ (M : Maps) (g : Gh) (w : World) (r : Cr) : Ending → World → Prop
  | .returned v, w' => r.pan = false ∧ ∃ g', RelH M g' w' r.H ∧ Evo g w g' w' ∧ RepA M g' w' 0 r.v v
  | .panicked ch, w' => r.pan = true ∧ ∃ g' cv, ch = [{ v := cv, recovered := false }] ∧ RelH M g' w' r.H ∧ Evo g w g' w' ∧ RepA M g' w' 0 r.v cv
  | .outgrown, _ => False
def ql1 (P : Program) (f : FuncId) (args : Array Value) (w : World) (R : Ending → World → Prop) : Prop :=
  ∀ (o : Oper) (a : Act) (K : Act → World → Prop) (Q : Exit → Act → World → Prop), (∀ v w', R (.returned v) w' → K (a.put o.dst v) w') → (∀ ch w', R (.panicked ch) w' → Q (.panic ch) a w') →
    o.upon P a K Q ((Go.callFunc f args).run P w)
def qa1 (P : Program) (M : Maps) (call : Call) : Prop :=
  ∀ (i : Nat) (vs : List V) (H : List Obj) (r : Cr), call i vs H = some r → ∀ f', look M.fm f' = some i → ∀ g w argv, ArgsRep M g w 0 vs argv → RelH M g w H →
    ql1 P f' argv.toArray w (jQ M g w r)
def qa7 (hand : Nat → Option Nat) : Option Loc → Option Loc
  | some (.slot n) => match hand n with
    | some j => some (.slot j)
    | none => some .out
  | some (.bblk _) => some .out
  | some (.bcell _ _) => some .out
  | x => x
def yi (hand : Nat → Option Nat) (g : Gh) : Gh := { g with own := fun b => qa7 hand (g.own b) }
def qkL (d : Option Nat) : Option Loc → Option Loc
  | some (.slot 0) => d.map .slot
  | some (.slot _) => none
  | some (.bblk _) => none
  | some (.bcell _ _) => none
  | x => x
def qd5 (hand : Nat → Option Nat) (d : Option Nat) (old new : Option Loc) : Option Loc :=
  match old with
  | some (.slot n) => match hand n with
    | some _ => qkL d new
    | none => some (.slot n)
  | some (.bblk n) => some (.bblk n)
  | some (.bcell n i) => some (.bcell n i)
  | _ => qkL d new
def qc6 (hand : Nat → Option Nat) (d : Option Nat) (g g2 : Gh) : Gh := { g2 with own := fun b => qd5 hand d (g.own b) (g2.own b) }
theorem OwnSl.relabel {g g' : Gh} {w : World} {ℓ ℓ' : Loc} {xs : List D} {c : Value} (h : OwnSl g w ℓ xs c) (hp : g'.pub = g.pub) (ho : ∀ b, g.own b = some ℓ → g'.own b = some ℓ') : OwnSl g' w ℓ' xs c := by
  cases h with
  | mk b off cap sz vs arr T fz hne hsz hr hc hp' hcap hone ho' hb ha hff =>
    exact .mk xs b off cap sz vs arr T fz hne hsz (hp ▸ hr) hc (hp ▸ hp') hcap hone (ho b ho') hb ha hff
  | full ad h => exact .full xs ad (hp ▸ h)
section
variable {P : Program} {M : Maps} {g g2 : Gh} {w w2 : World} {hand : Nat → Option Nat} {d : Option Nat}
theorem qiS : Grow g w (yi hand g) w := ⟨qDx _, fun _ => qDx _, fun _ _ _ => rfl⟩
theorem qou (id : Nat) : Kept g w (yi hand g) w (.oblk id) := ⟨fun b h => ⟨by simp [yi, h, qa7], rfl, rfl⟩⟩
theorem qoL (id i : Nat) : Kept g w (yi hand g) w (.ocell id i) := ⟨fun b h => ⟨by simp [yi, h, qa7], rfl, rfl⟩⟩
theorem qkS {H : List Obj} (h : RelH M g w H) : RelH M (yi hand g) w H :=
  ⟨h.n, fun id o ho => (h.h id o ho).mono qiS (qDx _) (fun _ _ => rfl) (by rw [h.n]; exact (List.getElem?_eq_some_iff.1 ho).1) (qou id) (fun i => qoL id i),
    fun b hb => by
      have := h.fresh b hb
      exact ⟨by simp [yi, this.1, qa7], this.2⟩, h.gl.mono qiS⟩
theorem qgM (hE : Evo (yi hand g) w g2 w2) {b : Nat} (hb : b < w.heap.size) (ho : qa7 hand (g.own b) = some .out) : g2.own b = some .out ∧ w2.heap[b]? = w.heap[b]? ∧ g2.pub b = g.pub b := by
  obtain ⟨h1, h2, h3⟩ := hE.keep b hb (.inr ho)
  exact ⟨h1.trans ho, h2, h3⟩
theorem qnF (hf : Fresh g w) {b : Nat} {ℓ : Loc} (h : g.own b = some ℓ) : b < w.heap.size := by
  rcases Nat.lt_or_ge b w.heap.size with hlt | hge
  · exact hlt
  · rw [(hf.f b hge).1] at h; cases h
theorem qmD (hE : Evo (yi hand g) w g2 w2) : Grow g w (qc6 hand d g g2) w2 := ⟨hE.size, hE.pub, hE.cell⟩
theorem qmw (hf : Fresh g w) (hE : Evo (yi hand g) w g2 w2) {k : Nat} (hk : hand k = none) : Kept g w (qc6 hand d g g2) w2 (.slot k) := ⟨fun b h => by
  obtain ⟨h1, h2, h3⟩ := qgM hE (qnF hf h) (by rw [h]; simp [qa7, hk])
  exact ⟨by simp [qc6, h, qd5, hk], h2, h3⟩⟩
theorem qob (hf : Fresh g w) (hE : Evo (yi hand g) w g2 w2) (k : Nat) : Kept g w (qc6 hand d g g2) w2 (.bblk k) := ⟨fun b h => by
  obtain ⟨h1, h2, h3⟩ := qgM hE (qnF hf h) (by rw [h]; simp [qa7])
  exact ⟨by simp [qc6, h, qd5], h2, h3⟩⟩
theorem qmm (hf : Fresh g w) (hE : Evo (yi hand g) w g2 w2) (k i : Nat) : Kept g w (qc6 hand d g g2) w2 (.bcell k i) := ⟨fun b h => by
  obtain ⟨h1, h2, h3⟩ := qgM hE (qnF hf h) (by rw [h]; simp [qa7])
  exact ⟨by simp [qc6, h, qd5], h2, h3⟩⟩
theorem qlT (hf : Fresh g w) (hE : Evo (yi hand g) w g2 w2) {b : Nat} {ℓ : Loc} (h : g2.own b = some ℓ) (hℓ : ℓ ≠ .out) : qd5 hand d (g.own b) (g2.own b) = qkL d (some ℓ) := by
  have key : qa7 hand (g.own b) ≠ some .out := fun ho => by
    have hb : b < w.heap.size := by
      cases hg : g.own b with
      | none => rw [hg] at ho; simp [qa7] at ho
      | some l => exact qnF hf hg
    have := (qgM hE hb ho).1
    rw [h] at this
    exact hℓ (Option.some.inj this)
  rw [h]
  cases hg : g.own b with
  | none => rfl
  | some l =>
    rw [hg] at key
    cases l with
    | slot n =>
      cases hh : hand n with
      | none => simp [qa7, hh] at key
      | some j => simp [qd5, hh]
    | bblk n => simp [qa7] at key
    | bcell n i => simp [qa7] at key
    | oblk | ocell | out => rfl
theorem qgW : Grow g2 w2 (qc6 hand d g g2) w2 := ⟨qDx _, fun _ => qDx _, fun _ _ _ => rfl⟩
theorem qpL (hf : Fresh g w) (hE : Evo (yi hand g) w g2 w2) (id : Nat) : Kept g2 w2 (qc6 hand d g g2) w2 (.oblk id) := ⟨fun b h => ⟨by
  show qd5 hand d (g.own b) (g2.own b) = _
  rw [qlT hf hE h (by simp)]; rfl, rfl, rfl⟩⟩
theorem qoT (hf : Fresh g w) (hE : Evo (yi hand g) w g2 w2) (id i : Nat) : Kept g2 w2 (qc6 hand d g g2) w2 (.ocell id i) := ⟨fun b h => ⟨by
  show qd5 hand d (g.own b) (g2.own b) = _
  rw [qlT hf hE h (by simp)]; rfl, rfl, rfl⟩⟩
theorem qst (hf : Fresh g w) (hE : Evo (yi hand g) w g2 w2) {H : List Obj} (h : RelH M g2 w2 H) : RelH M (qc6 hand d g g2) w2 H :=
  ⟨h.n, fun id o ho => (h.h id o ho).mono qgW (qDx _) (fun _ _ => rfl) (by rw [h.n]; exact (List.getElem?_eq_some_iff.1 ho).1) (qpL hf hE id) (fun i => qoT hf hE id i),
    fun b hb => by
      have h2 := h.fresh b hb
      have h1 := hf.f b (Nat.le_trans hE.size hb)
      exact ⟨by simp [qc6, h1.1, h2.1, qd5, qkL], h2.2⟩, h.gl.mono qgW⟩
theorem qhR (hf : Fresh g w) (hE : Evo (yi hand g) w g2 w2) : Evo g w (qc6 hand d g g2) w2 :=
  ⟨qmD hE, hE.n, hE.φ, fun b hb ho => by
    have he : qa7 hand (g.own b) = g.own b := by rcases ho with h | h <;> rw [h] <;> rfl
    have ho' : (yi hand g).own b = none ∨ (yi hand g).own b = some .out := by
      show qa7 hand (g.own b) = none ∨ qa7 hand (g.own b) = some .out
      rw [he]; exact ho
    obtain ⟨h1, h2, h3⟩ := hE.keep b hb ho'
    have h1' : g2.own b = g.own b := by rw [h1]; exact he
    refine ⟨?_, h2, h3⟩
    show qd5 hand d (g.own b) (g2.own b) = g.own b
    rw [h1']
    rcases ho with h | h <;> rw [h] <;> rfl, hE.io⟩
theorem qor (hf : Fresh g w) (hE : Evo (yi hand g) w g2 w2) {n : Nat} (hd : d = some n) {xs : List D} {c : Value} (h : OwnSl g2 w2 (.slot 0) xs c) : OwnSl (qc6 hand d g g2) w2 (.slot n) xs c := by
  refine h.relabel rfl (fun b ho => ?_)
  show qd5 hand d (g.own b) (g2.own b) = _
  rw [qlT hf hE ho (by simp), hd]
  rfl
end
def qcy : Nat → List O → Nat → Option Nat
  | _, [], _ => none
  | j, .mv m :: l, n => if m = n then some j else qcy (j + 1) l n
  | j, _ :: l, n => qcy (j + 1) l n
theorem qd0 : ∀ {l : List O} {j n : Nat} {k : Nat}, qcy j l n = some k → n ∈ qa5 l
  | [], _, _, _, h => by simp [qcy] at h
  | .mv m :: l, j, n, k, h => by
    simp only [qcy] at h
    split at h
    · rename_i e; simp [qa5, e]
    · simp only [qa5, List.mem_cons]; exact .inr (qd0 h)
  | .t m :: l, j, n, k, h => qd0 (l := l) (j := j + 1) h
  | .c m :: l, j, n, k, h => qd0 (l := l) (j := j + 1) h
  | .f m :: l, j, n, k, h => qd0 (l := l) (j := j + 1) h
  | .g _ _ :: l, j, n, k, h => qd0 (l := l) (j := j + 1) h
theorem qi5 : ∀ {l : List Nat}, qlY l = true → l.Nodup
  | [], _ => List.nodup_nil
  | n :: l, h => by
    simp only [qlY, qDB, Bool.not_eq_true', List.any_eq_false] at h
    refine List.nodup_cons.2 ⟨fun hm => h.1 n hm (by simp), qi5 h.2⟩
theorem yO : ∀ (l : List O) (e : Env) (k : Nat), get k (spentAll l e) = if k ∈ qa5 l then .undef else get k e
  | [], e, k => by simp [spentAll, qa5]
  | .mv m :: l, e, k => by
    simp only [spentAll, spent, qa5, List.mem_cons]
    rw [yO l, j8]
    by_cases h1 : k ∈ qa5 l <;> by_cases h2 : k = m <;> simp [h1, h2]
  | .t m :: l, e, k => yO l e k
  | .c m :: l, e, k => yO l e k
  | .f m :: l, e, k => yO l e k
  | .g _ _ :: l, e, k => yO l e k
section
variable {P : Program} {M : Maps} {g : Gh} {w : World} {β : Nat → Nat} {st : St} {o : Oper} {a : Act}
theorem qiK {v : V} {c : Value} {hand : Nat → Option Nat} (h : RepS M g w v c) : RepS M (yi hand g) w v c := h.mono qiS (qDx _) (fun _ _ => rfl) h.ref
theorem qgT {hand : Nat → Option Nat} : ∀ {vs : List V} {cs : List Value} (j : Nat), RepSL M g w vs cs → ArgsRep M (yi hand g) w j vs cs
  | _, _, j, .nil => .nil j
  | _, _, j, .cons _ _ _ _ h hl => .cons (.s (qiK h)) (qgT (j + 1) hl)
theorem qhi : ∀ {vs : List V} {cs : List Value} {vs' : List V} {cs' : List Value} {j : Nat}, ArgsRep M g w j vs cs → ArgsRep M g w (j + vs.length) vs' cs' → ArgsRep M g w j (vs ++ vs') (cs ++ cs')
  | [], _, _, _, j, .nil _, h' => by simpa using h'
  | _ :: vs, _, _, _, j, .cons h hl, h' => .cons h (qhi hl (by
      simp only [qDE] at h'
      rwa [show j + 1 + vs.length = j + (vs.length + 1) by omega]))
theorem RepV.leavesS {v : V} {c : Value} (h : RepV M g w β v c) (hv : v.leaves = true) : RepS M g w v c := by
  cases h with
  | s h => exact h
  | lp => simp [V.leaves, V.ok] at hv
  | cp => simp [V.leaves, V.ok] at hv
theorem qlQ (hR : Rel M g w β st a.tmps) {hand : Nat → Option Nat} {m : Nat → Bool} : ∀ {xs : List Operand} {os : List O} (i j : Nat), opnds M m i xs = some os → V.allLeave (os.map (rd st.env)) = true → (qa5 os).Nodup →
    (∀ n ∈ qa5 os, hand n = qcy j os n) → ArgsRep M (yi hand g) w j (os.map (rd st.env)) (xs.map a.eval)
  | [], os, i, j, h, _, _, _ => by simp only [opnds, Option.some.injEq] at h; subst h; exact .nil j
  | x :: xs, os, i, j, h, hl, hnd, hh => by
    simp only [opnds] at h
    split at h
    · rename_i y r hy hr
      simp only [Option.some.injEq] at h
      subst h
      simp only [qDy, V.allLeave, qDB] at hl ⊢
      have h1 := qib hR hy
      have hnd' : (qa5 r).Nodup := by
        cases y with
        | mv n => exact (List.nodup_cons.1 hnd).2
        | _ => exact hnd
      have ih := qlQ hR (hand := hand) (i + 1) (j + 1) hr hl.2 hnd' (fun n hn => by
        cases y with
        | mv n' =>
          have hne : n' ≠ n := fun e => (List.nodup_cons.1 hnd).1 (e ▸ hn)
          rw [hh n (by simp [qa5, hn])]
          simp [qcy, hne]
        | t _ => rw [hh n hn]; rfl
        | c _ => rw [hh n hn]; rfl
        | f _ => rw [hh n hn]; rfl
        | g _ _ => rw [hh n hn]; rfl)
      refine .cons ?_ ih
      generalize hv : rd st.env y = v at h1 hl
      cases h1 with
      | v h1 => exact .s (qiK (h1.leavesS hl.1))
      | own h1 =>
        rename_i n xs'
        have hn : hand n = some j := by rw [hh n (by simp [qa5])]; simp [qcy]
        exact .osl (h1.relabel rfl (fun b ho => by simp [yi, ho, qa7, hn]))
    · cases h
end
end W

/-
  A call, as the caller sees it; a function's body, as the call sees it.
-/
set_option linter.unusedSimpArgs false
set_option linter.unusedVariables false
namespace W
open Go (World Value Addr IntKind Program TypeId FuncId Operand Act Oper Next Result Sem BinOp UnOp Ending Exit)
theorem qkE {a b : List V} : V.allLeave (a ++ b) = (V.allLeave a && V.allLeave b) := by
  induction a with
  | nil => simp [V.allLeave]
  | cons v l ih => simp [V.allLeave, ih, Bool.and_assoc]
section
variable {P : Program} {M : Maps} {g : Gh} {w : World} {β : Nat → Nat} {st : St} {o : Oper} {a : Act} {call : Call}
theorem Rel.restRel (hR : Rel M g w β st a.tmps) {os : List O} {j : Nat} {g2 : Gh} {w2 : World} (hE : Evo (yi (qcy j os) g) w g2 w2) {H' : List Obj} (hH : RelH M g2 w2 H') {lo : Nat} (d : Option Nat) :
    Rel M (qc6 (qcy j os) d g g2) w2 β { env := W.spentAll os st.env, H := H', lo := lo } a.tmps := by
  have hf := hR.fr
  have hrh := qst (d := d) hf hE hH
  refine ⟨hrh.n, fun k => ?_, hrh.h, hrh.fresh, hrh.gl⟩
  show RepT M _ w2 β k (get k (W.spentAll os st.env)) _
  rw [yO]
  by_cases hk : k ∈ qa5 os
  · simp only [hk, if_true]; exact .s (.undef _)
  · simp only [hk, if_false]
    have hh : qcy j os k = none := by
      cases hq : qcy j os k with
      | none => rfl
      | some q => exact absurd (qd0 hq) hk
    refine (hR.e k).mono (qmD hE) ?_ ?_ (qmw hf hE hh) (qob hf hE k) (fun i => qmm hf hE k i)
    · exact hE.n
    · exact hE.φ
theorem Rel.putCall (hd : jj o a) (hR : Rel M g w β st a.tmps) {os : List O} {j : Nat} {g2 : Gh} {w2 : World} (hE : Evo (yi (qcy j os) g) w g2 w2) {H' : List Obj} (hH : RelH M g2 w2 H') {v : V} {c : Value} (hv : RepA M g2 w2 0 v c) {lo : Nat} :
    ∃ g', Rel M g' w2 β (put o.dst v { env := W.spentAll os st.env, H := H', lo := lo }) (a.put o.dst c).tmps ∧ Evo g w g' w2 := by
  have hf := hR.fr
  have hrel : ∀ d, Rel M (qc6 (qcy j os) d g g2) w2 β { env := W.spentAll os st.env, H := H', lo := lo } a.tmps := fun d => hR.restRel hE hH d
  cases hv with
  | s hv =>
    refine ⟨_, (hrel none).putV hd (.s ?_), qhR hf hE⟩
    exact hv.mono qgW (qDx _) (fun _ _ => rfl) hv.ref
  | osl hv =>
    rw [qb5 (by intro cs e; cases e), Act.put_tmps]
    cases hdst : o.dst with
    | none => exact ⟨_, hrel none, qhR hf hE⟩
    | some n => exact ⟨_, (hrel (some n)).lay (hd n hdst) (.osl (qor hf hE rfl hv)), qhR hf hE⟩
theorem qvH (hcs : qa1 P M call) (hd : jj o a) (hR : Rel M g w β st a.tmps) {c : Go.Call} {f : Operand} {f' : O} {m : Nat → Bool} {l : List O} (hcal : c.callee = .value f) (hf : opnd M false f = some f')
    (hx : opnds M m 0 c.args.toList = some l) (hnd : qlY (qa5 l) = true) (ho : o.op = .call c) {r : Or} (hr : qfE call f' l st = some r) {K : Act → World → Prop} {Q : Exit → Act → World → Prop}
    (hK : r.pan = false → ∀ c w' g' β', Rel M g' w' β' (put o.dst r.v r.st) (a.put o.dst c).tmps → Evo g w g' w' → K (a.put o.dst c) w')
    (hQ : r.pan = true → ∀ cv w' g' β', Rel M g' w' β' r.st a.tmps → Evo g w g' w' → RepA M g' w' 0 r.v cv → Q (.panic [{ v := cv, recovered := false }]) a w') :
    o.wp P a w K Q := by
  have h1 := jn hR hf
  unfold qfE at hr
  split at hr
  · rename_i i first cap hfv
    simp only at hr
    split at hr
    · rename_i hl
      split at hr
      · rename_i q hq
        simp only [Option.some.injEq] at hr
        subst hr
        rw [hfv] at h1
        generalize hfe : a.eval f = fc at h1
        cases h1 with
        | s h1 => cases h1 with
          | fn _ f2 _ _ fv cv hlook hr1 hr2 =>
            simp only [qkE, qDB] at hl
            let hand := qcy first.length l
            have ha1 : ArgsRep M (yi hand g) w 0 first fv.toList := qgT 0 hr1
            have ha2 : ArgsRep M (yi hand g) w first.length (l.map (rd st.env)) (c.args.toList.map a.eval) :=
              qlQ hR 0 first.length hx hl.1.2 (qi5 hnd) (fun _ _ => rfl)
            have ha3 := qgT (hand := hand) (first ++ l.map (rd st.env)).length hr2
            have hargs := qhi (qhi ha1 (by simpa using ha2)) (by simpa using ha3)
            have hdoes := hcs i _ _ q hq f2 hlook (yi hand g) w _ hargs (qkS hR.toH)
            have hrun : (Go.execOp a.eval o).run P w = (Go.callFunc f2 (fv.toList ++ c.args.toList.map a.eval ++ cv.toList).toArray).run P w := by
              have e : (fv.toList ++ c.args.toList.map a.eval ++ cv.toList).toArray = fv ++ c.args.map a.eval ++ cv := by
                apply Array.ext'; simp
              rw [e]
              simp only [Go.execOp, ho, Go.resolve, hcal, hfe, Go.Deferred.ofValue, Sem.run_bind, Sem.run_pure, Result.andThen_ok, Go.invoke]
            unfold Oper.wp
            rw [hrun]
            refine hdoes o a K Q (fun v w' hp => ?_) (fun ch w' hp => ?_)
            · obtain ⟨hpan, g', hH, hE, hv⟩ := hp
              obtain ⟨g3, h3, h4⟩ := hR.putCall hd hE hH hv
              exact hK hpan v w' g3 β h3 h4
            · obtain ⟨hpan, g', cv', rfl, hH, hE, hv⟩ := hp
              refine hQ hpan cv' w' (qc6 hand (some 0) g g') β (hR.restRel hE hH (some 0)) (qhR hR.fr hE) ?_
              simp only at hv ⊢
              generalize q.v = qv at hv
              cases hv with
              | s hv => exact .s (hv.mono qgW (qDx _) (fun _ _ => rfl) hv.ref)
              | osl hv => exact .osl (qor hR.fr hE rfl hv)
      · cases hr
    · cases hr
  · cases hr
theorem RepO.shrink {g2 : Gh} {w2 : World} {id : Nat} {ob : Obj} (h : RepO M g2 w2 id ob) (h0 : RepO M g w id ob) (hn : g.n ≤ g2.n) (hid : id < g.n) : RepO M { g2 with n := g.n } w2 id ob := by
  have hg : Grow g2 w2 { g2 with n := g.n } w2 := ⟨qDx _, fun _ => qDx _, fun _ _ _ => rfl⟩
  cases h with
  | cells cs arr T fz hb hz ho hp hl hr =>
    cases h0 with
    | cells _ arr0 T0 fz0 hb0 hz0 ho0 hp0 hl0 hr0 =>
      refine .cells cs arr T fz hb hz ho hp hl (fun i x v hx hv => ?_)
      have hlt : i < arr0.size := Nat.lt_of_lt_of_le (List.getElem?_eq_some_iff.1 hx).1 hl0
      have h1 := hr0 i x arr0[i] hx (by simp [hlt])
      cases hr i x v hx hv with
      | s h2 =>
        cases h1 with
        | s h1 => exact .s (h2.mono hg (qDx _) (fun _ _ => rfl) h1.ref)
        | osl _ => cases h2
      | osl h2 => exact .osl (h2.relabel rfl (fun _ h => h))
  | map es ents clock hb ho hr =>
    cases h0 with
    | map _ ents0 clock0 hb0 ho0 hr0 =>
      refine .map es ents clock hb ho ?_
      clear hb hb0
      generalize ents.toList = l at hr
      generalize ents0.toList = l0 at hr0
      induction hr generalizing l0 with
      | nil => exact .nil
      | cons k x e es ents hk hgk hx hl ih =>
        cases hr0 with
        | cons _ _ e0 _ l0' hk0 hgk0 hx0 hl0 =>
          exact .cons k x e es ents (hk.mono (fun _ => qDx _) (fun _ _ _ => rfl)) hgk (hx.mono hg (qDx _) (fun _ _ => rfl) hx0.ref) (ih _ hl0)
theorem qnS (n : Nat) (H : List Obj) (v : V) : settle n H v = v ∨ ∃ id off len cap cs ds, v = .rs id off len cap ∧ n ≤ id ∧ H[id]? = some (.cells cs) ∧ off + len ≤ cs.length ∧ 0 < len ∧ qc0 ((cs.drop off).take len) = some ds ∧ D.ones ds = true ∧ settle n H v = .d (.sl ds) := by
  cases v with
  | rs id off len cap =>
    simp only [settle]
    cases hn : Nat.ble n id with
    | false => exact .inl (by simp)
    | true =>
      simp only [cond_true, qrP]
      split
      · rename_i cs hcs
        cases hb : (Nat.ble (off + len) cs.length && Nat.blt 0 len) with
        | false => exact .inl (by simp)
        | true =>
          simp only [cond_true]
          simp only [qDB] at hb
          split
          · rename_i ds hds
            cases ho : D.ones ds with
            | false => exact .inl (by simp)
            | true =>
              exact .inr ⟨id, off, len, cap, cs, ds, rfl, Nat.le_of_ble_eq_true hn, hcs, Nat.le_of_ble_eq_true hb.1, by have := Nat.le_of_ble_eq_true hb.2; omega, hds, ho, by simp⟩
          · exact .inl rfl
      · exact .inl rfl
  | _ => exact .inl rfl
def Gh.settled (g : Gh) (n b k : Nat) : Gh := { n := n, φ := g.φ, pub := fun x => if x = b then k else g.pub x, own := fun x => if x = b then none else g.own x }
theorem qmn {H : List Obj} {st2 : St} {g2 : Gh} {w2 : World} (h0 : RelH M g w H) (h2 : RelH M g2 w2 st2.H) (hE : Evo g w g2 w2) (hold : ∀ id, id < H.length → st2.H[id]? = H[id]?)
    {id off len cap : Nat} {c : Value} (hv : RepA M g2 w2 0 (.rs id off len cap) c) {cs : List V} {ds : List D} (hid : H.length ≤ id) (hob : st2.H[id]? = some (.cells cs)) (hle : off + len ≤ cs.length) (hpos : 0 < len)
    (hds : qc0 ((cs.drop off).take len) = some ds) (hones : D.ones ds = true) :
    ∃ g', RelH M g' w2 H ∧ Evo g w g' w2 ∧ RepA M g' w2 0 (.d (.sl ds)) c := by
  cases h2.h id _ hob with
  | cells _ arr T fz hb hz ho hp hl hr =>
    have hbl : g2.φ id < w2.heap.size := (Array.getElem?_eq_some_iff.1 hb).1
    let g' := g2.settled g.n (g2.φ id) arr.size
    have hg : Grow g2 w2 g' w2 := ⟨qDx _, fun x => by
      show g2.pub x ≤ (if x = g2.φ id then arr.size else g2.pub x)
      split
      · rename_i e; subst e; rw [hp]; exact qDS _
      · exact qDx _, fun _ _ _ => rfl⟩
    have hg1 : Grow { g2 with n := g.n } w2 g' w2 := ⟨hg.size, hg.pub, hg.cell⟩
    have hk : ∀ ℓ, ℓ ≠ .oblk id → Kept { g2 with n := g.n } w2 g' w2 ℓ := fun ℓ hℓ => ⟨fun x hx => by
      have hne : x ≠ g2.φ id := by
        intro e; subst e
        have hx' : g2.own (g2.φ id) = some ℓ := hx
        rw [ho] at hx'
        exact hℓ (Option.some.inj hx').symm
      exact ⟨by simp [g', Gh.settled, hne]; exact hx, rfl, by simp [g', Gh.settled, hne]⟩⟩
    have hgn : g'.n = g.n := rfl
    refine ⟨g', ⟨h0.n, fun i ob hi => ?_, fun x hx => ?_, h2.gl.mono hg⟩, ⟨⟨hE.size, fun x => Nat.le_trans (hE.pub x) (hg.pub x), hE.cell⟩, qDx _, hE.φ, fun x hx hxo => ?_, hE.io⟩, ?_⟩
    · have hlt : i < H.length := (List.getElem?_eq_some_iff.1 hi).1
      have e := hold i hlt
      have hgl : i < g.n := by rw [h0.n]; exact hlt
      exact ((h2.h i ob (e ▸ hi)).shrink (h0.h i ob hi) hE.n hgl).mono hg1 (qDx _) (fun _ _ => rfl) hgl (hk _ (by simp; omega)) (fun j => hk _ (by simp))
    · have hne : x ≠ g2.φ id := by omega
      have := h2.fresh x hx
      simpa [g', Gh.settled, hne] using this
    · obtain ⟨k1, k2, k3⟩ := hE.keep x hx hxo
      have hne : x ≠ g2.φ id := by
        intro e; subst e
        rw [ho] at k1
        rcases hxo with h | h <;> rw [h] at k1 <;> cases k1
      exact ⟨by simp [g', Gh.settled, hne]; exact k1, k2, by simp [g', Gh.settled, hne]; exact k3⟩
    · cases hv with
      | s hv =>
        cases hv with
        | rs _ _ _ _ c2 hidn hcap0 hcap2 =>
          have hcap := Nat.le_trans hcap0 hcap2
          obtain ⟨vs, hvl, hrep, hcell⟩ := qmd (M := M) (g := g2) hds hl hle hb (fun i x v hx hv => (hr i x v hx hv).read)
          have hdl : ds.length = len := by rw [hrep.length, hvl]
          have hflat : ∀ (l : List D), D.ones l = true → l.flatMap D.cells = l ∧ ∀ x ∈ l, x.cells.length = 1 := by
            intro l
            induction l with
            | nil => intro _; exact ⟨rfl, fun x hx => by simp at hx⟩
            | cons y l ih =>
              intro h
              simp only [D.ones, qDB] at h
              obtain ⟨i1, i2⟩ := ih h.2
              refine ⟨by rw [List.flatMap_cons, i1, qhY h.1]; rfl, fun x hx => ?_⟩
              rcases List.mem_cons.1 hx with rfl | hx
              · rw [qhY h.1]; rfl
              · exact i2 x hx
          obtain ⟨f1, f2⟩ := hflat ds hones
          have hrep' : RepDL g'.pub w2 ds vs := hrep.mono hg.pub hg.cell
          refine .s (.d _ _ ?_)
          rw [← hdl]
          refine .sl ds (g2.φ id) off c2 1 vs (by intro e; rw [e] at hdl; simp at hdl; omega) f2 (by rw [f1]; exact hrep') hcell ?_ (by omega) (hrep.ones hones)
          show off + vs.length ≤ (if g2.φ id = g2.φ id then arr.size else _)
          rw [if_pos rfl, hvl]
          exact Nat.le_trans hle hl
theorem qmj {H : List Obj} {st2 : St} {g2 : Gh} {w2 : World} (h0 : RelH M g w H) (h2 : RelH M g2 w2 st2.H) (hE : Evo g w g2 w2) (hlo : ∀ id, id < st2.lo → id < H.length → st2.H[id]? = H[id]?)
    {pan : Bool} {v : V} {c : Value} (hv : RepA M g2 w2 0 v c) {r : Cr} (hr : leave H pan v st2 = some r) :
    r.pan = pan ∧ ∃ g', RelH M g' w2 r.H ∧ Evo g w g' w2 ∧ RepA M g' w2 0 r.v c := by
  unfold leave at hr
  cases hl : v.leaves with
  | false => simp [hl] at hr
  | true =>
    simp only [hl, cond_true] at hr
    cases hs : (Nat.ble (settle H.length st2.H v).ref H.length && Nat.ble H.length st2.lo) with
    | false =>
      simp only [hs, cond_false, Option.some.injEq] at hr
      subst hr
      exact ⟨rfl, g2, h2, hE, hv⟩
    | true =>
      simp only [hs, cond_true, Option.some.injEq] at hr
      subst hr
      simp only [qDB] at hs
      have hs1 := Nat.le_of_ble_eq_true hs.1
      have hs2 := Nat.le_of_ble_eq_true hs.2
      rcases qnS H.length st2.H v with hset | ⟨id, off, len, cap, cs, ds, rfl, k1, k2, k3, k4, k5, k6, k7⟩
      case inr =>
        rw [k7]
        exact ⟨rfl, qmn h0 h2 hE (fun i hi => hlo i (by omega) hi) hv k1 k2 k3 k4 k5 k6⟩
      rw [hset] at hs1 ⊢
      have hg : Grow g2 w2 { g2 with n := g.n } w2 := ⟨qDx _, fun _ => qDx _, fun _ _ _ => rfl⟩
      refine ⟨rfl, { g2 with n := g.n }, ⟨h0.n, fun id ob hob => ?_, h2.fresh, h2.gl.mono hg⟩, ⟨⟨hE.size, hE.pub, hE.cell⟩, qDx _, hE.φ, hE.keep, hE.io⟩, ?_⟩
      · have hlt : id < H.length := (List.getElem?_eq_some_iff.1 hob).1
        have e := hlo id (by omega) hlt
        exact (h2.h id ob (e ▸ hob)).shrink (h0.h id ob hob) hE.n (by rw [h0.n]; exact hlt)
      · cases hv with
        | s hv => exact .s (hv.mono hg (qDx _) (fun _ _ => rfl) (by rw [h0.n]; exact hs1))
        | osl hv => exact .osl (hv.relabel rfl (fun _ h => h))
end
end W

/-
  Every operation.
-/
set_option linter.unusedSimpArgs false
set_option linter.unusedVariables false
namespace W
open Go (World Value Addr IntKind Program TypeId FuncId Operand Act Oper Next Result Sem BinOp UnOp Ending Exit)
section
variable {P : Program} {M : Maps} {g : Gh} {w : World} {β : Nat → Nat} {st : St} {o : Oper} {a : Act} {call : Call}
structure Ends (P : Program) (M : Maps) (g : Gh) (w : World) (o : Oper) (a : Act) (r : Or) (K : Act → World → Prop) (Q : Exit → Act → World → Prop) : Prop where
  k : r.pan = false → ∀ c w' g' β', Rel M g' w' β' (put o.dst r.v r.st) (a.put o.dst c).tmps → Evo g w g' w' → K (a.put o.dst c) w'
  q : r.pan = true → ∀ cv w' g' β', Rel M g' w' β' r.st a.tmps → Evo g w g' w' → RepA M g' w' 0 r.v cv → Q (.panic [{ v := cv, recovered := false }]) a w'
theorem Left1.wp {r : Or} {K : Act → World → Prop} {Q : Exit → Act → World → Prop} (h : Left1 P M g w o a r) (hp : r.pan = false) (he : Ends P M g w o a r K Q) : o.wp P a w K Q := by
  obtain ⟨c, w', g', β', hy, hR, hE⟩ := h
  exact hy.wp (he.k hp c w' g' β' hR hE)
theorem qsy (hR : Rel M g w β st a.tmps) {x : Operand} {x' : O} (hx : opnd M false x = some x') (ho : o.op = .panic x) {r : Or} (hr : qiT x' st = some r) {K : Act → World → Prop} {Q : Exit → Act → World → Prop}
    (he : Ends P M g w o a r K Q) : o.wp P a w K Q := by
  have h1 := jn hR hx
  unfold qiT at hr
  split at hr
  · rename_i t y hv
    simp only [Option.some.injEq] at hr
    subst hr
    rw [hv] at h1
    generalize hc : a.eval x = c at h1
    cases h1 with
    | s h1 =>
      have h2 := h1
      cases h1 with
      | ifc _ t' _ cv ht hcv =>
        have hrun : (Go.execOp a.eval o).run P w = .halt (.panic (.iface t' cv)) w := by
          simp only [Go.execOp, ho, hc, Go.Instr.panic, Sem.run_bind]
          rfl
        unfold Oper.wp
        rw [hrun]
        exact he.q rfl _ w g β hR (Evo.refl g w) (.s h2)
  · cases hr
theorem qp6 (hcs : qa1 P M call) (hd : jj o a) (hR : Rel M g w β st a.tmps) {A : Ann} {m : Nat → Bool} {loc : Bool} {k : OpK} (htr : qbD M P A m loc o.op = some k) (hloc : loc = true → o.dst ≠ none)
    {r : Or} (hr : kM call k st = some r) {K : Act → World → Prop} {Q : Exit → Act → World → Prop} (he : Ends P M g w o a r K Q) : o.wp P a w K Q := by
  have fin : k.mayPan = false → Left1 P M g w o a r → o.wp P a w K Q := fun hk h => h.wp (qtx hr hk) he
  cases hop : o.op with
  | move x =>
    simp only [hop, qbD, Option.map_eq_some_iff] at htr
    obtain ⟨y, hy, rfl⟩ := htr
    exact fin rfl (qnk hd hR hy (.inl hop) hr)
  | assign x =>
    simp only [hop, qbD, Option.map_eq_some_iff] at htr
    obtain ⟨y, hy, rfl⟩ := htr
    exact fin rfl (qnk hd hR hy (.inr hop) hr)
  | pick c x y =>
    simp only [hop, qbD, qDP, qDI, qDV, Option.some.injEq] at htr
    obtain ⟨c', hc, x', hx, y', hy, rfl⟩ := htr
    exact fin rfl (qvy hd hR hc hx hy hop hr)
  | alloc t =>
    simp only [hop, qbD, qDP, qDI, qDV, Option.some.injEq] at htr
    obtain ⟨z, hz, rfl⟩ := htr
    exact fin rfl (qrX hd hR hz hop hloc hr)
  | box t x =>
    simp only [hop, qbD, qDP, qDI, qDV, Option.some.injEq] at htr
    obtain ⟨x', hx, rfl⟩ := htr
    exact fin rfl (qx1 hd hR hx hop hloc hr)
  | build t ps =>
    simp only [hop, qbD] at htr
    split at htr
    · rename_i fs hu
      split at htr
      · rename_i hpl
        split at htr
        · simp only [qDP, qDI, qDV, Option.some.injEq] at htr
          obtain ⟨z, hz, ps', hps, rfl⟩ := htr
          exact fin rfl (qjC hd hR hop hu hpl hz hps hr)
        · simp only [qDP, qDI, qDV, Option.some.injEq] at htr
          obtain ⟨z, hz, ps', hps, rfl⟩ := htr
          exact fin rfl (qku hd hR hop hu hpl hz hps hr)
      · cases htr
    · rename_i n e hu
      simp only [qDP, qDI, qDV, Option.some.injEq] at htr
      obtain ⟨z, hz, l, hl, ps', hps, rfl⟩ := htr
      exact fin rfl (qlN hd hR hop hu hl hz hps hr)
    · cases htr
  | buildSlice t n ps =>
    simp only [hop, qbD] at htr
    split at htr
    · rename_i e hu
      split at htr
      · rename_i l z hl hz
        split at htr
        · rename_i hs
          split at htr
          · simp only [qDP, qDI, qDV, Option.some.injEq] at htr
            obtain ⟨ps', hps, rfl⟩ := htr
            exact fin rfl (qmp hd hR hop hu hl hz hs hps hr)
          · split at htr
            · split at htr
              · rename_i h1n
                simp only [qDP, qDI, qDV, Option.some.injEq] at htr
                obtain ⟨ps', hps, rfl⟩ := htr
                exact fin rfl (qnx hd hR hop hu hl hz hs h1n hps hr)
              · cases htr
            simp only [qDP, qDI, qDV, Option.some.injEq] at htr
            obtain ⟨ps', hps, rfl⟩ := htr
            exact fin rfl (qln hd hR hop hu hl hz hs hps hr)
        · cases htr
      · cases htr
    · cases htr
  | load t x =>
    simp only [hop, qbD] at htr
    split at htr
    · simp only [qDP, qDI, qDV, Option.some.injEq] at htr
      obtain ⟨l, hl, x', hx, rfl⟩ := htr
      refine fin rfl ?_
      simp only [kM, qgc] at hr
      split at hr
      · rename_i y hy
        refine qpT hd hR hl hx (sl := none) hop ?_
        unfold qdf
        rw [hy]
        exact hr
      · cases hr
    simp only [qDP, qDI, qDV, Option.some.injEq] at htr
    obtain ⟨l, hl, x', hx, rfl⟩ := htr
    refine fin rfl ?_
    simp only [kM] at hr
    cases hm : m 9 with
    | false => rw [hm] at hr; exact qpT hd hR hl hx hop hr
    | true => rw [hm] at hr; exact qp3 hd hR hl hx hop hr
  | store t p x =>
    simp only [hop, qbD, qDP, qDI, qDV, Option.some.injEq] at htr
    obtain ⟨l, hl, p', hp, x', hx, rfl⟩ := htr
    exact fin rfl (qs2 hd hR hl hp hx hop hr)
  | nilCheck x =>
    simp only [hop, qbD, Option.map_eq_some_iff] at htr
    obtain ⟨y, hy, rfl⟩ := htr
    exact fin rfl (qn0 hd hR hy hop hr)
  | binOp op t x y yt =>
    simp only [hop, qbD, qDP, qDI, qDV, Option.some.injEq] at htr
    obtain ⟨kd, hk, x', hx, y', hy, rfl⟩ := htr
    exact fin rfl (qxy hd hR hx hy hk hop hr)
  | unOp op t x =>
    simp only [hop, qbD, qDP, qDI, qDV, Option.some.injEq] at htr
    obtain ⟨x', hx, rfl⟩ := htr
    exact fin rfl (qAS hd hR hx hop hr)
  | convert s t x =>
    simp only [hop, qbD] at htr
    split at htr
    · rename_i k1 k2 h1 h2
      simp only [qDP, qDI, qDV, Option.some.injEq] at htr
      obtain ⟨x', hx, rfl⟩ := htr
      exact fin rfl (qus hd hR hx h1 h2 hop hr)
    · rename_i h1 h2
      simp only [qDP, qDI, qDV, Option.some.injEq] at htr
      obtain ⟨x', hx, rfl⟩ := htr
      exact fin rfl (qsI hd hR hx h1 h2 hop hr)
    · rename_i e h1 h2
      split at htr
      · rename_i h3
        split at htr
        · simp only [qDP, qDI, qDV, Option.some.injEq] at htr
          obtain ⟨x', hx, rfl⟩ := htr
          exact fin rfl (qnz hd hR hx h1 h2 h3 hop hr)
        · simp only [qDP, qDI, qDV, Option.some.injEq] at htr
          obtain ⟨x', hx, rfl⟩ := htr
          exact fin rfl (qsX hd hR hx h1 h2 h3 hop hr)
      · cases htr
    · rename_i e h1 h2
      split at htr
      · rename_i h3
        simp only [qDP, qDI, qDV, Option.some.injEq] at htr
        obtain ⟨x', hx, rfl⟩ := htr
        exact fin rfl (qud hd hR hx h1 h2 h3 hop hr)
      · cases htr
    · cases htr
  | typeAssert x xt t c =>
    cases c with
    | false => simp [hop, qbD] at htr
    | true =>
      simp only [hop, qbD] at htr
      split at htr
      · cases htr
      · cases htr
      · rename_i dd hni hu
        split at htr
        · rename_i t' ht
          split at htr
          · rename_i hinj
            simp only [qDP, qDI, qDV, Option.some.injEq] at htr
            obtain ⟨z, hz, x', hx, rfl⟩ := htr
            exact fin rfl (qnb hd hR ht hinj hu (fun m e => hni m e) hz hx hop hr)
          · cases htr
        · cases htr
  | makeInterface t x =>
    simp only [hop, qbD] at htr
    split at htr
    · cases htr
    · cases htr
    · rename_i dd hni hu
      simp only [qDP, qDI, qDV, Option.some.injEq] at htr
      obtain ⟨t', ht, x', hx, rfl⟩ := htr
      exact fin rfl (qto hd hR ht hu (fun m e => hni m e) hx hop hr)
  | makeFunc fn xs ys =>
    cases fn with
    | func f =>
      simp only [hop, qbD, qDP, qDI, qDV, Option.some.injEq] at htr
      obtain ⟨f', hf, xs', hx, ys', hy, rfl⟩ := htr
      exact fin rfl (qwl hd hR hf hx hy hop hr)
    | _ => simp [hop, qbD] at htr
  | makeMap t x =>
    cases x with
    | none =>
      simp only [hop, qbD] at htr
      split at htr
      · simp only [Option.some.injEq] at htr
        subst htr
        exact fin rfl (qtz hd hR hop hr)
      · cases htr
    | some x => simp [hop, qbD] at htr
  | makeSlice t x y =>
    simp only [hop, qbD] at htr
    split at htr
    · rename_i e hu
      split at htr
      · rename_i i z hi hz
        split at htr
        · rename_i hs
          simp only [qDP, qDI, qDV, Option.some.injEq] at htr
          obtain ⟨x', hx, y', hy, rfl⟩ := htr
          exact fin rfl (qpI hd hR hu hi hz hs hx hy hop hr)
        · cases htr
      · cases htr
    · cases htr
  | slice t x lo hi mx =>
    cases mx with
    | some z =>
      cases hi with
      | none => simp [hop, qbD] at htr
      | some h =>
        simp only [hop, qbD] at htr
        split at htr
        · rename_i e hu
          simp only [qDP, qDI, qDV, Option.some.injEq] at htr
          obtain ⟨l, hl, x', hx, lo', hlo, hi', hhi, mx', hmx, rfl⟩ := htr
          exact fin rfl (qqN hd hR hu hl hx hlo hhi hmx hop hr)
        · cases htr
    | none =>
      simp only [hop, qbD] at htr
      split at htr
      · rename_i hu
        simp only [qDP, qDI, qDV, Option.some.injEq] at htr
        obtain ⟨x', hx, lo', hlo, hi', hhi, rfl⟩ := htr
        refine fin rfl ?_
        exact qqX hd hR hu hx hlo hhi hop hr
      · rename_i e hu
        simp only [qDP, qDI, qDV, Option.some.injEq] at htr
        obtain ⟨l, hl, x', hx, lo', hlo, hi', hhi, rfl⟩ := htr
        exact fin rfl (qqG hd hR hu hl hx hlo hhi hop hr)
      · rename_i n e hu
        split at htr
        · rename_i i hi1
          split at htr
          · rename_i h1s
            simp only [qDP, qDI, qDV, Option.some.injEq] at htr
            obtain ⟨x', hx, lo', hlo, hi', hhi, rfl⟩ := htr
            exact fin rfl (qq0 hd hR hu hi1 h1s hx hlo hhi hop hr)
          · cases htr
        · cases htr
      · cases htr
  | fieldAddr t x f =>
    simp only [hop, qbD] at htr
    split at htr
    · rename_i fs hu
      split at htr
      · rename_i fd hfd
        split at htr
        · rename_i l hl
          split at htr
          · cases htr
          · rename_i h0
            simp only [qDP, qDI, qDV, Option.some.injEq] at htr
            obtain ⟨x', hx, rfl⟩ := htr
            exact fin rfl (qmk hd hR hu hfd hl h0 hx hop hr)
        · cases htr
      · cases htr
    · cases htr
  | field t x f =>
    simp only [hop, qbD] at htr
    split at htr
    · rename_i fs hu
      split at htr
      · rename_i fd hfd
        simp only [qDP, qDI, qDV, Option.some.injEq] at htr
        obtain ⟨x', hx, l, hl, rfl⟩ := htr
        exact fin rfl (qsi hd hR hu hfd hl hx hop hr)
      · cases htr
    · cases htr
  | indexAddr t x i =>
    simp only [hop, qbD] at htr
    split at htr
    · rename_i e hu
      simp only [qDP, qDI, qDV, Option.some.injEq] at htr
      obtain ⟨x', hx, i', hi, l, hl, rfl⟩ := htr
      exact fin rfl (qmc hd hR hu hl hx hi hop hr)
    · rename_i n e hu
      simp only [qDP, qDI, qDV, Option.some.injEq] at htr
      obtain ⟨x', hx, i', hi, l, hl, rfl⟩ := htr
      exact fin rfl (qk6 hd hR hu hl hx hi hop hr)
    · cases htr
  | index t x i =>
    simp only [hop, qbD] at htr
    split at htr
    · rename_i hu
      simp only [qDP, qDI, qDV, Option.some.injEq] at htr
      obtain ⟨x', hx, i', hi, rfl⟩ := htr
      exact fin rfl (qtD hd hR hu hx hi hop hr)
    · cases htr
  | lookup t x i c =>
    simp only [hop, qbD] at htr
    split at htr
    · rename_i k e hu
      simp only [qDP, qDI, qDV, Option.some.injEq] at htr
      obtain ⟨kk, hk, z, hz, x', hx, i', hi, rfl⟩ := htr
      exact fin rfl (qqc hd hR hu hk hz hx hi hop hr)
    · cases htr
  | mapUpdate t p i x =>
    simp only [hop, qbD] at htr
    split at htr
    · rename_i k e hu
      simp only [qDP, qDI, qDV, Option.some.injEq] at htr
      obtain ⟨kk, hk, p', hp, i', hi, x', hx, rfl⟩ := htr
      exact fin rfl (qiC hd hR hu hk hp hi hx (.inl hop) hr)
    · cases htr
  | insert t p i x =>
    simp only [hop, qbD] at htr
    split at htr
    · rename_i k e hu
      simp only [qDP, qDI, qDV, Option.some.injEq] at htr
      obtain ⟨kk, hk, p', hp, i', hi, x', hx, rfl⟩ := htr
      exact fin rfl (qiC hd hR hu hk hp hi hx (.inr hop) hr)
    · cases htr
  | extract t i =>
    cases t with
    | tmp t =>
      simp only [hop, qbD, Option.some.injEq] at htr
      subst htr
      exact fin rfl (qpU hd hR hop hr)
    | _ => simp [hop, qbD] at htr
  | panic x =>
    simp only [hop, qbD, qDP, qDI, qDV, Option.some.injEq] at htr
    obtain ⟨x', hx, rfl⟩ := htr
    exact qsy hR hx hop hr he
  | call c =>
    simp only [hop, qbD] at htr
    split at htr
    · rename_i hcal
      split at htr
      · rename_i s hats
        split at htr
        · rename_i hu
          simp only [qDP, qDI, qDV, Option.some.injEq] at htr
          obtain ⟨l, hl, rfl⟩ := htr
          refine fin rfl ?_
          rcases l with _ | ⟨x', _ | ⟨y', l⟩⟩
          · simp [kM, eBi] at hr
          · exact qvV hd hR hcal hats hu hl hop hr
          · simp [kM, eBi] at hr
        · rename_i e hu
          simp only [qDP, qDI, qDV, Option.some.injEq] at htr
          obtain ⟨l, hl, rfl⟩ := htr
          refine fin rfl ?_
          rcases l with _ | ⟨x', _ | ⟨y', l⟩⟩
          · simp [kM, eBi] at hr
          · exact quy hd hR hcal hats hu hl hop hr
          · simp [kM, eBi] at hr
        · rename_i k e hu
          simp only [qDP, qDI, qDV, Option.some.injEq] at htr
          obtain ⟨l, hl, rfl⟩ := htr
          refine fin rfl ?_
          rcases l with _ | ⟨x', _ | ⟨y', l⟩⟩
          · simp [kM, eBi] at hr
          · exact qvc hd hR hcal hats hu hl hop hr
          · simp [kM, eBi] at hr
        · cases htr
      · cases htr
    · rename_i hcal
      simp only [qDP, qDI, qDV, Option.some.injEq] at htr
      obtain ⟨l, hl, rfl⟩ := htr
      refine fin rfl ?_
      have hr' : (match qjU (l.map (rd st.env)) with | some v => ok v st | none => none) = some r := hr
      split at hr'
      · rename_i v hv
        exact qwT hd hR hcal hl hop hv hr'
      · cases hr'
    · rename_i hcal
      simp only [qDP, qDI, qDV, Option.some.injEq] at htr
      obtain ⟨l, hl, rfl⟩ := htr
      refine fin rfl ?_
      have hr' : (match qj5 (l.map (rd st.env)) with | some v => ok v st | none => none) = some r := hr
      split at hr'
      · rename_i v hv
        exact qwG hd hR hcal hl hop hv hr'
      · cases hr'
    · rename_i hcal
      split at htr
      · rename_i s u hats
        split at htr
        · rename_i e e2 hu hu2
          split at htr
          · rename_i i z hi hz
            split at htr
            · rename_i hzl
              simp only [qDP, qDI, qDV, Option.some.injEq] at htr
              obtain ⟨l, hl, rfl⟩ := htr
              refine fin rfl ?_
              rcases l with _ | ⟨x', _ | ⟨y', _ | ⟨z', l⟩⟩⟩
              · simp [kM, eBi] at hr
              · simp [kM, eBi] at hr
              · exact qlH hd hR hcal hats hu (.inr ⟨_, hu2⟩) hi hz hzl hl hop hr
              · simp [kM, eBi] at hr
            · cases htr
          · cases htr
        · rename_i e hu hu2
          split at htr
          · rename_i i z hi hz
            split at htr
            · rename_i hzl
              simp only [qDP, qDI, qDV, Option.some.injEq] at htr
              obtain ⟨l, hl, rfl⟩ := htr
              refine fin rfl ?_
              rcases l with _ | ⟨x', _ | ⟨y', _ | ⟨z', l⟩⟩⟩
              · simp [kM, eBi] at hr
              · simp [kM, eBi] at hr
              · exact qlH hd hR hcal hats hu (.inl hu2) hi hz hzl hl hop hr
              · simp [kM, eBi] at hr
            · cases htr
          · cases htr
        · cases htr
      · cases htr
    · rename_i f hcal
      simp only [qDP, qDI, qDV] at htr
      obtain ⟨f', hf, l, hl, htr⟩ := htr
      split at htr
      · rename_i hnd
        simp only [Option.some.injEq] at htr
        subst htr
        exact qvH hcs hd hR hcal hf hl hnd hop hr he.k he.q
      · cases htr
    · cases htr
  | _ => simp [hop, qbD] at htr
end
end W

/-
  Frames of functions and of a range's rounds: what holds of an operation in the one holds in the other.
-/
set_option linter.unusedSimpArgs false
set_option linter.unusedVariables false
namespace W
open Go (World Value Addr IntKind Program TypeId FuncId Operand Act Oper Next Result Sem BinOp UnOp Ending Exit Code Fence)
inductive WF : Fence → Prop
  | wide : WF Fence.wide
  | round (l : Nat) : WF (Fence.wide.inRound l)
theorem WF.fn {F : Fence} (h : WF F) (f : FuncId) : F.fn f := by cases h <;> trivial
theorem WF.depth {F : Fence} (h : WF F) : F.depth.isSome = true → ∀ {p : Prop}, p := by cases h <;> (intro h; cases h)
theorem WF.room {F : Fence} (h : WF F) (n : Nat) : F.room n := by cases h <;> exact Go.room_wide n
theorem WF.steps {F : Fence} (h : WF F) {P : Program} {m m' : Go.Machine} : Go.StepsIn (Go.Machine.fenced P F) P m m' ↔ Go.Steps P m m' := by
  cases h with
  | wide => exact Go.stepsIn_wide
  | round l => rw [Go.fenced_inRound]; exact Go.stepsIn_wide
theorem WF.comes {F : Fence} (h : WF F) {P : Program} {m m' : Go.Machine} {e : Ending} : Go.ComesIn (Go.Machine.fenced P F) P m m' e ↔ Go.Comes P m m' e := by
  cases h with
  | wide => exact Go.comesIn_wide
  | round l => rw [Go.fenced_inRound]; exact Go.comesIn_wide
theorem WF.calls {F : Fence} (h : WF F) {n : Nat} {P : Program} {f : FuncId} {args : Array Value} {w : World} {R : Ending → World → Prop} : Go.CallsIn F n P f args w R ↔ Go.Calls P f args w R :=
  ⟨fun hc cs => let ⟨e, w', fr, r, s, x⟩ := hc.2 cs (h.room _); ⟨e, w', fr, r, h.comes.1 s, x⟩,
   fun hc => ⟨h.fn f, fun cs _ => let ⟨e, w', fr, r, s, x⟩ := hc cs; ⟨e, w', fr, r, h.comes.2 s, x⟩⟩⟩
def qgk (o : Go.Op) : Prop := ∀ c, o ≠ .defer c
theorem qiN {F : Fence} (hF : WF F) {n : Nat} {P : Program} {o : Oper} {a : Act} {w : World} {K : Act → World → Prop} {Q : Exit → Act → World → Prop} (hnd : F.round = none ∨ qgk o.op) (h : o.wp P a w K Q) :
    o.wpIn F n P a w K Q := by
  refine ⟨fun f _ => hF.fn f, ?_⟩
  have e : o.semAt F.round a.eval = Go.execOp a.eval o := by
    rcases hnd with h1 | h1
    · rw [h1]; rfl
    · exact Oper.semAt_eq _ _ _ h1
  rw [e]
  unfold Oper.wp at h
  generalize (Go.execOp a.eval o).run P w = r at h
  cases r with
  | ok x w' =>
    cases x <;> simp only [Oper.upon, Oper.uponIn] at h ⊢ <;> first
      | exact h
      | exact ⟨fun hd => hF.depth hd, hF.calls.2 h⟩
      | exact ⟨fun hd => hF.depth hd, fun c cs hr => let ⟨v, w', r, s⟩ := h c cs; ⟨v, w', r, hF.steps.2 s⟩⟩
      | exact h.elim
  | halt x w' => cases x <;> simp only [Oper.upon, Oper.uponIn] at h ⊢ <;> exact h
inductive MarksOk (g : Gh) (w0 w : World) : List Go.Deferred → Prop
  | nil : MarksOk g w0 w []
  | cons {d : Go.Deferred} {ms : List Go.Deferred} (r : Nat) (ht : d.target = .collected r) (hlo : w0.heap.size ≤ r) (hb : w.heap[r]? = some (.deferred (some []))) (ho : g.own r = none)
      (hf : ∀ d' ∈ ms, d'.target ≠ .collected r) (hl : MarksOk g w0 w ms) : MarksOk g w0 w (d :: ms)
theorem MarksOk.lt {g : Gh} {w0 w : World} {ms : List Go.Deferred} (h : MarksOk g w0 w ms) : ∀ d ∈ ms, ∃ r, d.target = .collected r ∧ w0.heap.size ≤ r ∧ r < w.heap.size := by
  induction h with
  | nil => intro d hd; cases hd
  | cons r ht hlo hb ho hf hl ih =>
    intro d hd
    rcases List.mem_cons.1 hd with rfl | hd
    · exact ⟨r, ht, hlo, (Array.getElem?_eq_some_iff.1 hb).1⟩
    · exact ih d hd
theorem MarksOk.mono {g g' : Gh} {w0 w w' : World} {ms : List Go.Deferred} (h : MarksOk g w0 w ms) (hE : Evo g w g' w') : MarksOk g' w0 w' ms := by
  induction h with
  | nil => exact .nil
  | cons r ht hlo hb ho hf hl ih =>
    obtain ⟨k1, k2, _⟩ := hE.keep r (Array.getElem?_eq_some_iff.1 hb).1 (.inl ho)
    exact .cons r ht hlo (k2.trans hb) (k1.trans ho) hf ih
theorem MarksOk.base {g : Gh} {w0 w0' w : World} (hs : w0'.heap.size ≤ w0.heap.size) {ms : List Go.Deferred} (h : MarksOk g w0 w ms) : MarksOk g w0' w ms := by
  induction h with
  | nil => exact .nil
  | cons r ht hlo hb ho hf hl ih => exact .cons r ht (Nat.le_trans hs hlo) hb ho hf ih
theorem MarksOk.append {g1 g2 : Gh} {w0 w1 w2 : World} (hE : Evo g1 w1 g2 w2) (hs : w0.heap.size ≤ w1.heap.size) {ms1 : List Go.Deferred} (h1 : MarksOk g1 w0 w1 ms1) : ∀ {ms2 : List Go.Deferred}, MarksOk g2 w1 w2 ms2 → MarksOk g2 w0 w2 (ms2 ++ ms1)
  | [], _ => h1.mono hE
  | d :: ms2, .cons r ht hlo hb ho hf hl => by
    refine .cons r ht (Nat.le_trans hs hlo) hb ho (fun d' hd' => ?_) (MarksOk.append hE hs h1 hl)
    rcases List.mem_append.1 hd' with h | h
    · exact hf d' h
    · obtain ⟨r', hr', _, hlt⟩ := h1.lt d' h
      rw [hr']
      intro e
      cases e
      omega
theorem qt3 {w : World} {r : Nat} {o o' : Go.Obj} (h : w.heap[r]? = some o) (ho : o.isCells = false) (ho' : o'.isCells = false) (a : Addr) : (w.putObj r o').cell? a = w.cell? a := by
  by_cases e : a.block = r
  · have h1 : (w.putObj r o').heap[a.block]? = some o' := by rw [e]; exact Go.World.putObj_heap_same (Array.getElem?_eq_some_iff.1 h).1
    have h2 : w.heap[a.block]? = some o := by rw [e]; exact h
    simp only [World.cell?, h1, h2]
    cases o <;> cases o' <;> simp_all [Go.Obj.isCells]
  · have h1 : (w.putObj r o').heap[a.block]? = w.heap[a.block]? := Go.World.putObj_heap_other e
    simp only [World.cell?, h1]
section
variable {M : Maps} {g : Gh} {w : World} {r : Nat} {o o' : Go.Obj}
theorem qiA : (w.putObj r o').heap.size = w.heap.size := by simp [World.putObj]
theorem qdz (h : w.heap[r]? = some o) (ho : o.isCells = false) (ho' : o'.isCells = false) : Grow g w g (w.putObj r o') := ⟨by rw [qiA]; exact qDx _, fun _ => qDx _, fun b x _ => qt3 h ho ho' _⟩
theorem qgw (hown : g.own r = none) (ℓ : Loc) : Kept g w g (w.putObj r o') ℓ := ⟨fun b hb => ⟨hb, Go.World.putObj_heap_other (fun e => by subst e; rw [hb] at hown; cases hown), rfl⟩⟩
theorem qpr {H : List Obj} (hH : RelH M g w H) (h : w.heap[r]? = some o) (ho : o.isCells = false) (ho' : o'.isCells = false) (hown : g.own r = none) : RelH M g (w.putObj r o') H :=
  ⟨hH.n, fun id ob hob => (hH.h id ob hob).mono (qdz h ho ho') (qDx _) (fun _ _ => rfl) (by rw [hH.n]; exact (List.getElem?_eq_some_iff.1 hob).1) (qgw hown _) (fun i => qgw hown _),
    fun b hb => hH.fresh b (by rw [qiA] at hb; exact hb), hH.gl.mono (qdz h ho ho')⟩
theorem qkH {g0 : Gh} {w0 : World} (hE : Evo g0 w0 g w) (hlo : w0.heap.size ≤ r) (h : w.heap[r]? = some o) (ho : o.isCells = false) (ho' : o'.isCells = false) : Evo g0 w0 g (w.putObj r o') :=
  ⟨hE.toGrow.trans (qdz h ho ho'), hE.n, hE.φ, fun b hb hx => by
    obtain ⟨h1, h2, h3⟩ := hE.keep b hb hx
    exact ⟨h1, (Go.World.putObj_heap_other (by omega)).trans h2, h3⟩, hE.io.1, hE.io.2⟩
theorem qkI {β : Nat → Nat} {st : St} {tmps : Array Value} (hR : Rel M g w β st tmps) (h : w.heap[r]? = some o) (ho : o.isCells = false) (ho' : o'.isCells = false) (hown : g.own r = none) : Rel M g (w.putObj r o') β st tmps := by
  have hH := qpr hR.toH h ho ho' hown
  refine ⟨hH.n, fun k => ?_, hH.h, hH.fresh, hH.gl⟩
  exact (hR.e k).mono (qdz h ho ho') (qDx _) (fun _ _ => rfl) (qgw hown _) (qgw hown _) (fun i => qgw hown _)
end
end W

/-
  Regions in their order, code, loops.
-/
set_option linter.unusedSimpArgs false
set_option linter.unusedVariables false
namespace W
open Go (World Value Addr IntKind Program TypeId FuncId Operand Act Oper Next Result Sem BinOp UnOp Ending Exit Code Fence)
def DefOk (g : Gh) (w0 w : World) (ds ds' : List Go.Deferred) : Prop := ∃ ms, ds' = ms ++ ds ∧ MarksOk g w0 w ms
theorem DefOk.refl {g : Gh} {w0 w : World} {ds : List Go.Deferred} : DefOk g w0 w ds ds := ⟨[], rfl, .nil⟩
theorem DefOk.same {g : Gh} {w0 w : World} {ds ds' : List Go.Deferred} (h : ds' = ds) : DefOk g w0 w ds ds' := by subst h; exact .refl
theorem DefOk.trans {g1 g2 : Gh} {w0 w1 w2 : World} {d0 d1 d2 : List Go.Deferred} (hs : w0.heap.size ≤ w1.heap.size) (h1 : DefOk g1 w0 w1 d0 d1) (hE : Evo g1 w1 g2 w2) (h2 : DefOk g2 w1 w2 d1 d2) : DefOk g2 w0 w2 d0 d2 := by
  obtain ⟨m1, rfl, k1⟩ := h1
  obtain ⟨m2, rfl, k2⟩ := h2
  exact ⟨m2 ++ m1, by simp, k1.append hE hs k2⟩
theorem DefOk.mono {g g' : Gh} {w0 w w' : World} {ds ds' : List Go.Deferred} (h : DefOk g w0 w ds ds') (hE : Evo g w g' w') : DefOk g' w0 w' ds ds' := by
  obtain ⟨ms, h1, h2⟩ := h
  exact ⟨ms, h1, h2.mono hE⟩
structure Good (nd : Prop) (M : Maps) (g : Gh) (w : World) (a : Act) (st' : St) (a' : Act) (w' : World) : Prop where
  r : ∃ g' β', Rel M g' w' β' st' a'.tmps ∧ Evo g w g' w' ∧ DefOk g' w w' a.defers a'.defers
  size : a'.tmps.size = a.tmps.size
  d : nd → a'.defers = a.defers
structure BadEnd (nd : Prop) (M : Maps) (g : Gh) (w : World) (a : Act) (v : V) (st' : St) (ch : List Go.PanicEntry) (a' : Act) (w' : World) : Prop where
  r : ∃ g' cv β', ch = [{ v := cv, recovered := false }] ∧ Rel M g' w' β' st' a'.tmps ∧ Evo g w g' w' ∧ RepA M g' w' 0 v cv ∧ DefOk g' w w' a.defers a'.defers
  size : a'.tmps.size = a.tmps.size
  d : nd → a'.defers = a.defers
def Post (nd : Prop) (M : Maps) (g : Gh) (w : World) (a : Act) (e : Ex) (st' : St) : Exit → Act → World → Prop := fun x a' w' =>
  match e, x with
  | .nrm, .normal => Good nd M g w a st' a' w'
  | .exit id, .exit id' => id' = id ∧ Good nd M g w a st' a' w'
  | .ret, .ret => Good nd M g w a st' a' w'
  | .pan v, .panic ch => BadEnd nd M g w a v st' ch a' w'
  | _, _ => False
theorem Good.trans {nd nd' : Prop} {M : Maps} {g g1 : Gh} {w w1 : World} {a a1 : Act} {st' : St} {a' : Act} {w' : World} (hE : Evo g w g1 w1) (hs : a1.tmps.size = a.tmps.size) (hd : DefOk g1 w w1 a.defers a1.defers) (hd' : nd → a1.defers = a.defers) (hn : nd → nd') (h : Good nd' M g1 w1 a1 st' a' w') : Good nd M g w a st' a' w' :=
  let ⟨⟨g', β', h1, h2, h4⟩, h3, h5⟩ := h
  ⟨⟨g', β', h1, hE.trans h2, hd.trans hE.size h2 h4⟩, h3.trans hs, fun k => (h5 (hn k)).trans (hd' k)⟩
theorem Good.weak {nd nd' : Prop} {M : Maps} {g : Gh} {w : World} {a : Act} {st' : St} {a' : Act} {w' : World} (hn : nd → nd') (h : Good nd' M g w a st' a' w') : Good nd M g w a st' a' w' := ⟨h.r, h.size, fun k => h.d (hn k)⟩
theorem Post.trans {nd nd' : Prop} {M : Maps} {g g1 : Gh} {w w1 : World} {a a1 : Act} {e : Ex} {st' : St} (hE : Evo g w g1 w1) (hs : a1.tmps.size = a.tmps.size) (hd : DefOk g1 w w1 a.defers a1.defers) (hd' : nd → a1.defers = a.defers) (hn : nd → nd') {x : Exit} {a' : Act} {w' : World}
    (h : Post nd' M g1 w1 a1 e st' x a' w') : Post nd M g w a e st' x a' w' := by
  unfold Post at *
  split at h
  · exact h.trans hE hs hd hd' hn
  · exact ⟨h.1, h.2.trans hE hs hd hd' hn⟩
  · exact h.trans hE hs hd hd' hn
  · obtain ⟨⟨g', cv, β', h1, h2, h3, h4, h5⟩, h6, h7⟩ := h
    exact ⟨⟨g', cv, β', h1, h2, hE.trans h3, h4, hd.trans hE.size h3 h5⟩, h6.trans hs, fun k => (h7 (hn k)).trans (hd' k)⟩
  · exact h.elim
theorem Post.weak {nd nd' : Prop} {M : Maps} {g : Gh} {w : World} {a : Act} {e : Ex} {st' : St} (hn : nd → nd') {x : Exit} {a' : Act} {w' : World} (h : Post nd' M g w a e st' x a' w') : Post nd M g w a e st' x a' w' :=
  h.trans (Evo.refl g w) rfl .refl (fun _ => rfl) hn
theorem qa3 (a : Act) (d : Option Nat) (c : Value) : (a.put d c).tmps.size = a.tmps.size := by cases d <;> simp [Act.put]
theorem qaV (a : Act) (d : Option Nat) (c : Value) : (a.put d c).defers = a.defers := by cases d <;> rfl
section
variable {P : Program} {M : Maps} {g : Gh} {w : World} {β : Nat → Nat} {st : St} {a : Act} {call : Call}
theorem qde (hR : Rel M g w β st a.tmps) {ops : Array Oper} {o : Oper} {g' : Option (Nat × Bool)} (hg : gOf ops o.guard = some g') {b : Bool} (hw : wanted g' st.env = some b) :
    Go.Region.wanted o (Go.yielded ops a.tmps) = b := by
  unfold Go.Region.wanted
  cases ho : o.guard with
  | none =>
    rw [ho] at hg
    simp only [gOf, Option.some.injEq] at hg
    subst hg
    simpa [wanted] using hw
  | some jw =>
    obtain ⟨j, want⟩ := jw
    rw [ho] at hg
    simp only [gOf] at hg
    split at hg
    · rename_i o' ho'
      split at hg
      · rename_i d hd
        simp only [Option.some.injEq] at hg
        subst hg
        have hy : Go.yielded ops a.tmps j = match a.tmps[d]? with | some (.bool b) => some b | _ => none := by
          simp only [Go.yielded, ho', Option.bind_some, hd]
          rfl
        simp only [hy]
        have he := hR.e d
        simp only [wanted] at hw
        split at hw
        · rename_i z hz
          simp only [Option.some.injEq] at hw
          rw [hz] at he
          have hv : a.tmps.getD d Go.undef = .bool z := by
            generalize a.tmps.getD d Go.undef = c at he
            cases he with
            | s h => cases h with | d _ _ h => cases h; rfl
          rw [Array.getD_eq_getD_getElem?] at hv
          cases hq : a.tmps[d]? with
          | none => rw [hq] at hv; simp [Go.undef] at hv
          | some c =>
            rw [hq] at hv
            simp only [Option.getD_some] at hv
            subst hv
            rw [← hw]
            simp
        · rename_i hz
          simp only [Option.some.injEq] at hw
          rw [hz] at he
          have hv : a.tmps.getD d Go.undef = .tuple #[] := by
            generalize a.tmps.getD d Go.undef = c at he
            cases he with
            | s h => cases h with | tup _ vs h => 
              have : vs = #[] := Array.ext' (by
                generalize vs.toList = l at h
                cases h; rfl)
              rw [this]
          rw [Array.getD_eq_getD_getElem?] at hv
          rw [← hw]
          cases hq : a.tmps[d]? with
          | none => rfl
          | some c =>
            rw [hq] at hv
            simp only [Option.getD_some] at hv
            subst hv
            rfl
        · cases hw
      · cases hg
    · cases hg
theorem qjb (hR : Rel M g w β st a.tmps) {o : Oper} (hd : jj o a) : Rel M g w β (put o.dst (.tup []) st) (a.put o.dst Go.undef).tmps :=
  hR.putV hd (.s (.tup [] #[] .nil))
theorem qf0 {g : Gh} {w0 w : World} (a : Act) (d : Option Nat) (c : Value) : DefOk g w0 w a.defers (a.put d c).defers := .same (qaV a d c)
theorem qjk {a : Act} {d : Option Nat} {c : Value} {n : Nat} (h : d ≠ some n) : (a.put d c).tmps.getD n Go.undef = a.tmps.getD n Go.undef := by
  cases d with
  | none => rfl
  | some m =>
    have : m ≠ n := fun e => h (by rw [e])
    simp only [Act.put, Array.getD_eq_getD_getElem?]
    rw [Array.getElem?_setIfInBounds_ne this]
theorem qfl (hcs : qa1 P M call) {A : Ann} {rid nt : Nat} {ops : Array Oper} {F : Fence} (hF : WF F) {n : Nat} : ∀ (rest : List Oper) (i : Nat) (more : List Nat) (l : List Op) (st : St) (g : Gh) (w : World) (β : Nat → Nat) (a : Act), (∀ k o, rest[k]? = some o → ops[i + k]? = some o) →
    qcG M P A rid ops i rest = some l → (∀ o ∈ rest, ∀ d, o.dst = some d → d < nt) → (∀ o ∈ rest, F.round = none ∨ qgk o.op) → nt ≤ a.tmps.size → ∀ (e : Ex) (st' : St), z6 call l st = some (e, st') → Rel M g w β st a.tmps →
    ∀ Q : Exit → Act → World → Prop, (∀ a' w', Good True M g w a st' a' w' → (∀ n, (∀ o ∈ rest, o.dst ≠ some n) → a'.tmps.getD n Go.undef = a.tmps.getD n Go.undef) → e = .nrm → Go.wpOpsIn F n P ops Q more a' w') → (∀ x a' w', Post True M g w a e st' x a' w' → e ≠ .nrm → Q x a' w') → Go.wpOpsIn F n P ops Q (List.range' i rest.length ++ more) a w
  | [], i, more, l, st, g, w, β, a, hget, htr, hdst, hnd, hnt, e, st', hrun, hR, Q, hK, hQ => by
    simp only [qcG, Option.some.injEq] at htr
    subst htr
    simp only [z6, Option.some.injEq, Prod.mk.injEq] at hrun
    obtain ⟨rfl, rfl⟩ := hrun
    exact hK _ _ ⟨⟨g, β, hR, Evo.refl g w, .refl⟩, rfl, fun _ => rfl⟩ (fun _ _ => rfl) rfl
  | o :: rest, i, more, l, st, g, w, β, a, hget, htr, hdst, hnd, hnt, e, st', hrun, hR, Q, hK, hQ => by
    simp only [qcG] at htr
    split at htr
    · rename_i g' r hg hr
      simp only [Option.some.injEq] at htr
      subst htr
      have hoi : ops[i]? = some o := by simpa using hget 0 o rfl
      have hget' : ∀ k o, rest[k]? = some o → ops[i + 1 + k]? = some o := fun k o hk => by
        have := hget (k + 1) o (by simpa using hk)
        rwa [show i + (k + 1) = i + 1 + k by omega] at this
      have hd : jj o a := fun n hn => Nat.lt_of_lt_of_le (hdst o (by simp) n hn) hnt
      have hdst' : ∀ o ∈ rest, ∀ d, o.dst = some d → d < nt := fun o ho => hdst o (by simp [ho])
      have hnd' : ∀ o ∈ rest, F.round = none ∨ qgk o.op := fun o ho => hnd o (by simp [ho])
      rw [qDE, List.range'_succ, List.cons_append, Go.wpOpsIn_cons]
      unfold Go.wpOpIn
      simp only [hoi]
      simp only [z6] at hrun
      split at hrun
      · rename_i hw
        rw [qde hR hg hw]
        simp only [if_true]
        refine qiN hF (hnd o (by simp)) ?_
        split at hrun
        · rename_i q hq
          refine qp6 hcs hd hR (qe9 hq) (fun hloc hn => ?_) hq ⟨fun hp c w1 g1 β1 hR1 hE1 => ?_, fun hp cv w1 g1 β1 hR1 hE1 hv => ?_⟩
          · rw [hn] at hloc; simp at hloc
          · simp only [hp, cond_false] at hrun
            exact qfl hcs hF rest (i + 1) more r _ g1 w1 β1 _ hget' hr hdst' hnd' (by rw [qa3]; exact hnt) e st' hrun hR1 Q
              (fun a' w' hp hk he => hK a' w' (hp.trans hE1 (qa3 _ _ _) (qf0 _ _ _) (fun _ => qaV _ _ _) id) (fun n hn => (hk n (fun o ho => hn o (by simp [ho]))).trans (qjk (hn o (by simp)))) he) (fun x a' w' hpost => hQ x a' w' (hpost.trans hE1 (qa3 _ _ _) (qf0 _ _ _) (fun _ => qaV _ _ _) id))
          · simp only [hp, cond_true, Option.some.injEq, Prod.mk.injEq] at hrun
            obtain ⟨rfl, rfl⟩ := hrun
            exact hQ _ _ _ (show Post True M g w a (.pan q.v) q.st (.panic _) a w1 from ⟨⟨g1, cv, β1, rfl, hR1, hE1, hv, .refl⟩, rfl, fun _ => rfl⟩) (by simp)
        · cases hrun
      · rename_i hw
        rw [qde hR hg hw]
        simp only [qDt, if_false]
        refine ⟨fun f _ => hF.fn f, ?_⟩
        exact qfl hcs hF rest (i + 1) more r _ g w β _ hget' hr hdst' hnd' (by rw [qa3]; exact hnt) e st' hrun (qjb hR hd) Q
          (fun a' w' hp hk he => hK a' w' (hp.trans (Evo.refl g w) (qa3 _ _ _) (qf0 _ _ _) (fun _ => qaV _ _ _) id) (fun n hn => (hk n (fun o ho => hn o (by simp [ho]))).trans (qjk (hn o (by simp)))) he) (fun x a' w' hpost => hQ x a' w' (hpost.trans (Evo.refl g w) (qa3 _ _ _) (qf0 _ _ _) (fun _ => qaV _ _ _) id))
      · cases hrun
    · cases htr
theorem qxh (hcs : qa1 P M call) {A : Ann} {rid nt : Nat} {ops : Array Oper} {F : Fence} (hF : WF F) {n : Nat} {l : List Op} {st : St} {a : Act} (htr : qcG M P A rid ops 0 ops.toList = some l) (hdst : ∀ o ∈ ops.toList, ∀ d, o.dst = some d → d < nt) (hnd : ∀ o ∈ ops.toList, F.round = none ∨ qgk o.op)
    (hnt : nt ≤ a.tmps.size) {e : Ex} {st' : St} (hrun : z6 call l st = some (e, st')) (hR : Rel M g w β st a.tmps) {Q : Exit → Act → World → Prop} (hQ : ∀ x a' w', Post True M g w a e st' x a' w' → Q x a' w') : Go.wpOpsIn F n P ops Q (List.range ops.size) a w := by
  have := qfl hcs hF (n := n) ops.toList 0 [] l st g w β a (fun k o hk => by simpa using hk) htr hdst hnd hnt e st' hrun hR Q (fun a' w' hg _ he => by subst he; exact hQ _ _ _ (show Post True M g w a .nrm st' .normal a' w' from hg)) (fun x a' w' hp _ => hQ x a' w' hp)
  rwa [List.append_nil, show List.range' 0 ops.toList.length = List.range ops.size by simp [List.range_eq_range']] at this
theorem qoa (live : List Nat) (e : Env) (k : Nat) : get k (restrict live e) = (if k ∈ live then (match get k e with | .lp _ _ => .undef | v => v) else .undef) := by
  unfold restrict
  induction live with
  | nil => simp [get]
  | cons n l ih =>
    simp only [qDy, j8, ih]
    by_cases h : k = n
    · subst h; simp; cases get k e <;> rfl
    · simp [h]
theorem Rel.restrict {tmps : Array Value} (hR : Rel M g w β st tmps) (live : List Nat) : Rel M g w β { st with env := W.restrict live st.env } tmps := by
  refine ⟨hR.n, fun k => ?_, hR.h, hR.fresh, hR.gl⟩
  show RepT M g w β k (get k (W.restrict live st.env)) _
  rw [qoa]
  split
  · have := hR.e k
    generalize get k st.env = v at this
    generalize tmps.getD k Go.undef = c at this
    cases this with
    | s h => cases h <;> exact .s (by constructor <;> assumption)
    | osl h => exact .osl h
    | lp s off => exact .s (.undef _)
    | cp x b off vs hr hc hp => exact .cp x b off vs hr hc hp
    | box cs arr T hb ho hp hl hr => exact .box cs arr T hb ho hp hl hr
  · exact .s (.undef _)
end
def qf5 (P : Program) (M : Maps) (ex : C → St → Option (Ex × St)) : Prop :=
  ∀ (A : Ann) (blk : Nat) (code : Code) (c : C), trC M P A blk code = some c → ∀ st e st', ex c st = some (e, st') → ∀ g w β a nt, qcH nt code = true → nt ≤ a.tmps.size → Rel M g w β st a.tmps →
    ∀ (F : Fence) (n : Nat), WF F → (F.round = none ∨ zD code = true) → ∀ Q : Exit → Act → World → Prop, (∀ x a' w', Post (zD code = true) M g w a e st' x a' w' → Q x a' w') → code.wpIn F n P Q a w
noncomputable def least (p : Nat → Prop) : Nat := open Classical in if h : ∃ n, p n ∧ ∀ m, m < n → ¬ p m then Classical.choose h else 0
theorem qg0 {p : Nat → Prop} {n : Nat} (h : p n) : p (least p) ∧ least p ≤ n := by
  have ex : ∃ n, p n ∧ ∀ m, m < n → ¬ p m := by
    induction n using Nat.strongRecOn with
    | _ n ih =>
      by_cases hm : ∃ m, m < n ∧ p m
      · obtain ⟨m, h1, h2⟩ := hm; exact ih m h1 h2
      · exact ⟨n, h, fun m h1 h2 => hm ⟨m, h1, h2⟩⟩
  unfold least
  rw [dif_pos ex]
  obtain ⟨h1, h2⟩ := Classical.choose_spec ex
  refine ⟨h1, ?_⟩
  rcases Nat.lt_or_ge n (Classical.choose ex) with hlt | hge
  · exact absurd h (h2 n hlt)
  · exact hge
def qru (P : Program) (M : Maps) (call : Call) : Prop :=
  ∀ (A : Ann) (rid : Nat) (ops : Array Oper) (l : List Op), qcG M P A rid ops 0 ops.toList = some l → qqk ops = true → qgP ops l = true →
    ∀ st e st', j4 call (l.zipIdx.map fun (o, i) => (o, qdv ops l o i, qg1 ops l i)) st = some (e, st') → ∀ g w β a nt, (∀ o ∈ ops.toList, ∀ d, o.dst = some d → d < nt) → nt ≤ a.tmps.size → Rel M g w β st a.tmps →
    ∀ (F : Fence) (n : Nat), WF F → (F.round = none ∨ zD (.region rid ops true) = true) → ∀ Q : Exit → Act → World → Prop, (∀ x a' w', Post True M g w a e st' x a' w' → Q x a' w') → (Code.region rid ops true).wpIn F n P Q a w
def qoM (P : Program) (M : Maps) (call : Call) : Prop :=
  ∀ (A : Ann) (rid : Nat) (ops : Array Oper) (l : List Op), qcG M P A rid ops 0 ops.toList = some l → qqk ops = true → qgP ops l = true → qnh ops l = true →
    ∀ st st1 e st', j4 call ((l.zipIdx.map fun (o, i) => (o, qdv ops l o i, qg1 ops l i)).take (l.length - 1)) st = some (.nrm, st1) → z6 call (l.drop (l.length - 1)) st1 = some (e, st') →
    ∀ g w β a nt, (∀ o ∈ ops.toList, ∀ d, o.dst = some d → d < nt) → nt ≤ a.tmps.size → Rel M g w β st a.tmps →
    ∀ (F : Fence) (n : Nat), WF F → (F.round = none ∨ zD (.region rid ops true) = true) → ∀ Q : Exit → Act → World → Prop, (∀ x a' w', Post True M g w a e st' x a' w' → Q x a' w') → (Code.region rid ops true).wpIn F n P Q a w
theorem qhm {call : Call} : ∀ {l : List (Op × Bool × List Nat)} {st : St} {e : Ex} {st' : St}, j4 call l st = some (e, st') → e = .nrm
  | [], st, e, st', h => by simp only [j4, Option.some.injEq, Prod.mk.injEq] at h; exact h.1.symm
  | (o, s, no) :: l, st, e, st', h => by
    simp only [j4] at h
    split at h
    · split at h
      · rw [qDH] at h
        split at h
        · cases h
        · split at h
          · exact qhm h
          · cases h
      · cases h
    · exact qhm h
    · cases h
theorem qgm {nt : Nat} {rid : Nat} {ops : Array Oper} {b : Bool} (h : qcH nt (.region rid ops b) = true) : ∀ o ∈ ops.toList, ∀ d, o.dst = some d → d < nt := fun o ho d hd => by
  simp only [qcH, List.all_eq_true] at h
  have := h o ho
  rw [hd] at this
  simp only [Nat.blt_eq] at this
  exact this
theorem qrU {F : Fence} {rid : Nat} {ops : Array Oper} {b : Bool} (h : F.round = none ∨ zD (.region rid ops b) = true) : ∀ o ∈ ops.toList, F.round = none ∨ qgk o.op := fun o ho => by
  rcases h with h | h
  · exact .inl h
  · refine .inr (fun c hc => ?_)
    simp only [zD, List.all_eq_true] at h
    have := h o ho
    rw [hc] at this
    cases this
def qpw (P : Program) (M : Maps) (ex : C → St → Option (Ex × St)) : Prop :=
  ∀ (k : Nat) (l : L) (f : Operand) (f' : O) (p0 p1 : Nat) (live : List Nat) (x y : Code) (a b : C) (A : Ann) (blk : Nat), look M.bk k = some l → opnd M false f = some f' → trC M P A blk x = some a → trC M P A blk y = some b → zD x = true → zD y = true →
    ∀ (c : V) (st : St) (n : Nat) (e : Ex) (st' : St), rd st.env f' = .fn k [] [c] → c.ok = true → qbt c st.H st.lo = some n → rounds (ex a) (ex b) l c p0 p1 (qa4 live st.env) n st.H st.lo = some (e, st') →
    ∀ g w β act nt, p0 < nt → p1 < nt → qcH nt x = true → qcH nt y = true → nt ≤ act.tmps.size → Rel M g w β st act.tmps →
    ∀ m (Q : Exit → Act → World → Prop), (∀ x a' w', Post False M g w act e st' x a' w' → Q x a' w') → (Code.rangeFunc f #[p0, p1] x y).wpIn Fence.wide m P Q act w
theorem qpj {P : Program} {M : Maps} {pg : Pg} (hC : ∀ n, qf5 P M (exec pg n) → qa1 P M (js pg (exec pg n))) (hO : ∀ n, qa1 P M (js pg (exec pg n)) → qru P M (js pg (exec pg n)) ∧ qoM P M (js pg (exec pg n))) (hB : ∀ n, qf5 P M (exec pg n) → qpw P M (exec pg n)) : ∀ n, qf5 P M (exec pg n) := by
  intro n
  induction n using Nat.strongRecOn with
  | _ n IH =>
  cases n with
  | zero => intro A blk code c _ st e st' h; simp [exec] at h
  | succ n =>
    have ih := IH n (Nat.lt_succ_self n)
    have hcs := hC n ih
    intro A blk code c htr st e st' hrun g w β a nt hdst hnt hR F m hF hnd Q hQ
    have hrun : step (js pg (exec pg n)) (exec pg n) c st = some (e, st') := hrun
    cases code with
    | skip =>
      simp only [trC, Option.some.injEq] at htr
      subst htr
      simp only [step, Option.some.injEq, Prod.mk.injEq] at hrun
      obtain ⟨rfl, rfl⟩ := hrun
      exact Go.wpIn_skip (hQ _ _ _ (show Post _ M g w a .nrm st .normal a w from ⟨⟨g, β, hR, Evo.refl g w, .refl⟩, rfl, fun _ => rfl⟩))
    | region rid ops draw =>
      simp only [trC] at htr
      split at htr
      · rename_i l hl
        cases draw with
        | false =>
          simp only [qDt, if_false, Option.some.injEq] at htr
          subst htr
          refine Go.wpIn_region ?_
          exact qxh hcs hF hl (qgm hdst) (qrU hnd) hnt hrun hR (fun x a' w' hp => hQ x a' w' (hp.weak (fun _ => trivial)))
        | true =>
          simp only [if_true] at htr
          rw [qtj] at htr
          split at htr
          · rename_i hc
            simp only [qDB] at hc
            simp only [Option.some.injEq] at htr
            subst htr
            unfold qvE at hrun
            rw [qDH] at hrun
            split at hrun
            · rename_i hlast
              simp only [step] at hrun
              cases n with
              | zero => simp [exec] at hrun
              | succ k =>
                split at hrun
                · rename_i st1 h1
                  exact (hO k (hC k (IH k (by omega)))).2 A rid ops l hl hc.1 hc.2 hlast st st1 e st' h1 hrun g w β a nt (qgm hdst) hnt hR F m hF hnd Q (fun x a' w' hp => hQ x a' w' (hp.weak (fun _ => trivial)))
                · rename_i hne
                  exfalso
                  have h2 : j4 (js pg (exec pg k)) _ st = some (e, st') := hrun
                  have := qhm h2
                  subst this
                  exact hne st' hrun
            · exact (hO _ hcs).1 A rid ops l hl hc.1 hc.2 st e st' hrun g w β a nt (qgm hdst) hnt hR F m hF hnd Q (fun x a' w' hp => hQ x a' w' (hp.weak (fun _ => trivial)))
          · simp only [Option.some.injEq] at htr
            subst htr
            cases hrun
      · simp only [Option.some.injEq] at htr
        subst htr
        cases hrun
    | seq x y =>
      simp only [trC] at htr
      split at htr
      · rename_i cx cy hx hy
        simp only [Option.some.injEq] at htr
        subst htr
        simp only [qcH, qDB] at hdst
        have hnd1 : F.round = none ∨ zD x = true := hnd.imp id (fun h => by simp only [zD, qDB] at h; exact h.1)
        have hnd2 : F.round = none ∨ zD y = true := hnd.imp id (fun h => by simp only [zD, qDB] at h; exact h.2)
        simp only [step] at hrun
        refine Go.wpIn_seq ?_
        split at hrun
        · rename_i st1 h1
          refine ih A blk x cx hx st _ st1 h1 g w β a nt hdst.1 hnt hR F m hF hnd1 _ (fun ex a1 w1 hp => ?_)
          unfold Post at hp
          split at hp
          · obtain ⟨⟨g1, β1, hR1, hE1, hd1⟩, hs1, hq1⟩ := hp
            exact ih A blk y cy hy st1 e st' hrun g1 w1 β1 a1 nt hdst.2 (by rw [hs1]; exact hnt) hR1 F m hF hnd2 Q (fun x' a' w' hp => hQ x' a' w' (hp.trans hE1 hs1 hd1 (fun h => hq1 (by simp only [zD, qDB] at h; exact h.1)) (fun h => by simp only [zD, qDB] at h; exact h.2)))
          all_goals first | exact hp.elim | (rename_i h; cases h)
        · rename_i hne
          refine ih A blk x cx hx st e st' hrun g w β a nt hdst.1 hnt hR F m hF hnd1 _ (fun ex a1 w1 hp => ?_)
          have hq := hQ ex a1 w1 (hp.weak (fun h => by simp only [zD, qDB] at h; exact h.1))
          cases ex with
          | normal =>
            exfalso
            cases e with
            | nrm => exact hne st' hrun
            | _ => exact hp
          | _ => exact hq
      · cases htr
    | cond o x y =>
      simp only [trC] at htr
      split at htr
      · rename_i o' cx cy ho hx hy
        simp only [Option.some.injEq] at htr
        subst htr
        simp only [qcH, qDB] at hdst
        have hnd1 : F.round = none ∨ zD x = true := hnd.imp id (fun h => by simp only [zD, qDB] at h; exact h.1)
        have hnd2 : F.round = none ∨ zD y = true := hnd.imp id (fun h => by simp only [zD, qDB] at h; exact h.2)
        have ho1 := jn hR ho
        simp only [step] at hrun
        split at hrun
        · rename_i hv
          rw [hv] at ho1
          exact Go.wpIn_cond_true (qhw ho1.inv_d) (ih A blk x cx hx st e st' hrun g w β a nt hdst.1 hnt hR F m hF hnd1 Q (fun x' a' w' hp => hQ x' a' w' (hp.weak (fun h => by simp only [zD, qDB] at h; exact h.1))))
        · rename_i hv
          rw [hv] at ho1
          exact Go.wpIn_cond_false (qhw ho1.inv_d) (ih A blk y cy hy st e st' hrun g w β a nt hdst.2 hnt hR F m hF hnd2 Q (fun x' a' w' hp => hQ x' a' w' (hp.weak (fun h => by simp only [zD, qDB] at h; exact h.2))))
        · cases hrun
      · cases htr
    | block id x =>
      simp only [trC] at htr
      split at htr
      · rename_i cx hx
        simp only [Option.some.injEq] at htr
        subst htr
        simp only [qcH] at hdst
        have hnd1 : F.round = none ∨ zD x = true := hnd.imp (fun h => h) (fun h => by simpa only [zD] using h)
        simp only [step] at hrun
        refine Go.wpIn_block ?_
        have res : ∀ {st1 : St} {a1 : Act} {w1 : World}, Good (zD x = true) M g w a st1 a1 w1 → Good (zD (.block id x) = true) M g w a { st1 with env := restrict ((look A.bl id).getD []) st1.env } a1 w1 := fun h => by
          obtain ⟨⟨g1, β1, hR1, hE1, hd1⟩, hs1, hq1⟩ := h
          exact ⟨⟨g1, β1, hR1.restrict _, hE1, hd1⟩, hs1, fun h => hq1 (by simpa only [zD] using h)⟩
        split at hrun
        · rename_i st1 h1
          simp only [Option.some.injEq, Prod.mk.injEq] at hrun
          obtain ⟨rfl, rfl⟩ := hrun
          refine ih A id x cx hx st _ st1 h1 g w β a nt hdst hnt hR F m hF hnd1 _ (fun ex a1 w1 hp => ?_)
          cases ex <;> first | exact hQ _ _ _ (show Post _ M g w a .nrm _ .normal a1 w1 from res hp) | exact hp.elim
        · rename_i j st1 h1
          rw [qDH] at hrun
          split at hrun
          · rename_i hj
            have hj := qDR hj
            simp only [Option.some.injEq, Prod.mk.injEq] at hrun
            obtain ⟨rfl, rfl⟩ := hrun
            refine ih A id x cx hx st _ st1 h1 g w β a nt hdst hnt hR F m hF hnd1 _ (fun ex a1 w1 hp => ?_)
            cases ex with
            | exit id' =>
              obtain ⟨h2, h3⟩ := hp
              simp only [Exit.inBlock, h2, hj, if_true]
              exact hQ _ _ _ (show Post _ M g w a .nrm _ .normal a1 w1 from res h3)
            | _ => exact hp.elim
          · rename_i hj
            have hj : j ≠ id := fun e => hj (by subst e; simp)
            simp only [Option.some.injEq, Prod.mk.injEq] at hrun
            obtain ⟨rfl, rfl⟩ := hrun
            refine ih A id x cx hx st _ st1 h1 g w β a nt hdst hnt hR F m hF hnd1 _ (fun ex a1 w1 hp => ?_)
            cases ex with
            | exit id' =>
              have h2 := hp.1
              subst h2
              simp only [Exit.inBlock, hj, if_false]
              exact hQ _ _ _ (Post.weak (fun h => by simpa only [zD] using h) hp)
            | _ => exact hp.elim
        · rename_i hne1 hne2
          refine ih A id x cx hx st e st' hrun g w β a nt hdst hnt hR F m hF hnd1 _ (fun ex a1 w1 hp => ?_)
          cases e with
          | nrm => exact (hne1 st' hrun).elim
          | exit j => exact (hne2 j st' hrun).elim
          | _ => cases ex <;> first | exact hQ _ _ _ (Post.weak (fun h => by simpa only [zD] using h) hp) | exact hp.elim
      · cases htr
    | loop x =>
      simp only [trC] at htr
      split at htr
      · rename_i cx hx
        simp only [Option.some.injEq] at htr
        subst htr
        simp only [qcH] at hdst
        have hnd1 : F.round = none ∨ zD x = true := hnd.imp id (fun h => by simpa only [zD] using h)
        let live := (look A.ll blk).getD []
        let J : Act → World → Nat → Prop := fun a1 w1 k => k ≤ n + 1 ∧ ∃ st1 g1 β1, Rel M g1 w1 β1 st1 a1.tmps ∧ Evo g w g1 w1 ∧ a1.tmps.size = a.tmps.size ∧ DefOk g1 w w1 a.defers a1.defers ∧ (zD x = true → a1.defers = a.defers) ∧ exec pg k (.loop live cx) st1 = some (e, st')
        refine Go.wpIn_loop (fun a1 w1 => ∃ k, J a1 w1 k) (fun a1 w1 => least (J a1 w1)) ⟨n + 1, qDx _, st, g, β, hR, Evo.refl g w, rfl, .refl, fun _ => rfl, hrun⟩ (fun a1 w1 hI => ?_)
        obtain ⟨k0, hk0⟩ := hI
        have hk := (qg0 hk0).1
        generalize least (J a1 w1) = k at hk
        obtain ⟨hkn, st1, g1, β1, hR1, hE1, hs1, hd1, hq1, hrun1⟩ := hk
        cases k with
        | zero => simp [exec] at hrun1
        | succ k =>
          have hrun1 : step (js pg (exec pg k)) (exec pg k) (.loop live cx) st1 = some (e, st') := hrun1
          have ihk := IH k (by omega)
          simp only [step] at hrun1
          split at hrun1
          · rename_i st2 h2
            refine ihk A blk x cx hx _ _ st2 h2 g1 w1 β1 a1 nt hdst (by rw [hs1]; exact hnt) (hR1.restrict live) F m hF hnd1 _ (fun ex a2 w2 hp => ?_)
            cases ex with
            | normal =>
              obtain ⟨⟨g2, β2, hR2, hE2, hd2⟩, hs2, hq2⟩ := (hp : Good (zD x = true) M g1 w1 a1 st2 a2 w2)
              have hJ : J a2 w2 k := ⟨by omega, st2, g2, β2, hR2, hE1.trans hE2, hs2.trans hs1, hd1.trans hE1.size hE2 hd2, fun h => (hq2 h).trans (hq1 h), hrun1⟩
              exact ⟨⟨k, hJ⟩, Nat.lt_succ_of_le (qg0 hJ).2⟩
            | _ => exact hp.elim
          · rename_i hne
            refine ihk A blk x cx hx _ e st' hrun1 g1 w1 β1 a1 nt hdst (by rw [hs1]; exact hnt) (hR1.restrict live) F m hF hnd1 _ (fun ex a2 w2 hp => ?_)
            have hq := hQ ex a2 w2 (hp.trans hE1 hs1 hd1 (fun h => hq1 (by simpa only [zD] using h)) (fun h => by simpa only [zD] using h))
            cases ex with
            | normal =>
              exfalso
              cases e with
              | nrm => exact hne st' hrun1
              | _ => exact hp
            | _ => exact hq
      · cases htr
    | exit id =>
      simp only [trC, Option.some.injEq] at htr
      subst htr
      simp only [step, Option.some.injEq, Prod.mk.injEq] at hrun
      obtain ⟨rfl, rfl⟩ := hrun
      exact Go.wpIn_exit (hQ _ _ _ (show Post _ M g w a (.exit id) st (.exit id) a w from ⟨rfl, ⟨g, β, hR, Evo.refl g w, .refl⟩, rfl, fun _ => rfl⟩))
    | ret =>
      simp only [trC, Option.some.injEq] at htr
      subst htr
      simp only [step, Option.some.injEq, Prod.mk.injEq] at hrun
      obtain ⟨rfl, rfl⟩ := hrun
      exact Go.wpIn_ret (hQ _ _ _ (show Post _ M g w a .ret st .ret a w from ⟨⟨g, β, hR, Evo.refl g w, .refl⟩, rfl, fun _ => rfl⟩))
    | rangeFunc f ps x y =>
      have hnone : F.round = none := hnd.resolve_right (by simp [zD])
      have hFw : F = Fence.wide := by cases hF with | wide => rfl | round l => cases hnone
      subst hFw
      simp only [trC] at htr
      split at htr
      · rename_i k hk
        split at htr
        · rename_i l f' p0 p1 cx cy hl hf hps hx hy
          split at htr
          · rename_i hnn
            simp only [qDB] at hnn
            simp only [Option.some.injEq] at htr
            subst htr
            obtain ⟨cv, q, h1, h2, h3, h4⟩ := qlo hrun
            have hps2 : ps = #[p0, p1] := by
              apply Array.ext'; simpa using hps
            subst hps2
            simp only [qcH, qDB, List.all_cons, List.all_nil, Bool.and_true, Nat.blt_eq] at hdst
            exact hB n ih k l f f' p0 p1 _ x y cx cy A blk hl hf hx hy hnn.1 hnn.2 cv st q e st' h1 h2 h3 h4 g w β a nt hdst.1.1 hdst.1.2 hdst.2.1 hdst.2.2 hnt hR m Q (fun x' a' w' hp => hQ x' a' w' (hp.weak (fun h => by simp [zD] at h)))
          · simp only [Option.some.injEq] at htr; subst htr; cases hrun
        · simp only [Option.some.injEq] at htr; subst htr; cases hrun
      · simp only [Option.some.injEq] at htr; subst htr; cases hrun
    | _ =>
      simp only [trC, Option.some.injEq] at htr
      subst htr
      cases hrun
end W

/-
  Code with a deferred closure; closures that recover first.
-/
set_option linter.unusedSimpArgs false
set_option linter.unusedVariables false
namespace W
open Go (World Value Addr IntKind Program TypeId FuncId Operand Act Oper Next Result Sem BinOp UnOp Ending Exit Code Func Fence Frame)
def qkb (ex : C → St → Option (Ex × St)) : Prop := ∀ c st x, ex c st = some x → ∃ call ex', qnV ex' ex ∧ step call ex' c st = some x
theorem qh8 {pg : Pg} (n : Nat) : qkb (exec pg n) := fun c st x h => by
  cases n with
  | zero => simp [exec] at h
  | succ n => exact ⟨_, _, qi6 n, h⟩
theorem qeF {P : Program} {M : Maps} : qa1 P M qeB := fun i vs H r h => by cases h
def qBd (M : Maps) (g : Gh) (w : World) (a : Act) (h : Nat) (first cap : List V) (e : Ex) (st' : St) (x : Exit) (a' : Act) (w' : World) : Prop :=
  ∃ g1 w1 a1 ds1 h' fv cv, look M.fm h' = some h ∧ RepSL M g1 w1 first fv.toList ∧ RepSL M g1 w1 cap cv.toList ∧ Evo g w g1 w1 ∧ a1.tmps.size = a.tmps.size ∧ DefOk g1 w w1 a.defers ds1 ∧
    a1.defers = { target := .fn (.func h') cv, args := fv } :: ds1 ∧ Post False M g1 w1 a1 e st' x a' w'
section
variable {P : Program} {M : Maps} {ex : C → St → Option (Ex × St)}
theorem qx9 {call : Call} {q : Op} (hq : ∀ st, kM call q.k st = kM qeB q.k st) (st : St) : z6 call [q] st = z6 qeB [q] st := by
  simp only [z6, hq]
theorem qi4 (he : qf5 P M ex) (hs : qkb ex) {A : Ann} {nt : Nat} {m : Nat} : ∀ {c : Code} {pre : C} {t : Nat} {post : C}, trD M P A c = some (pre, t, post) → ∀ {st : St} {e1 : Ex} {st1 : St}, ex pre st = some (e1, st1) → ∀ {g : Gh} {w : World} {β : Nat → Nat} {a : Act}, qcH nt c = true → nt ≤ a.tmps.size → Rel M g w β st a.tmps →
    ∀ {Q : Exit → Act → World → Prop}, (e1 ≠ .nrm → ∀ x a' w', Post False M g w a e1 st1 x a' w' → Q x a' w') →
    (e1 = .nrm → ∃ h first cap e2 st2, get t st1.env = .fn h first cap ∧ V.ok.oks (first ++ cap) = true ∧ ex post st1 = some (e2, st2) ∧ ∀ x a' w', qBd M g w a h first cap e2 st2 x a' w' → Q x a' w') → c.wpIn Fence.wide m P Q a w
  | .region id ops draw, pre, t, post, htr, st, e1, st1, hrun, g, w, β, a, hdst, hnt, hR, Q, h1, h2 => by
    cases draw with
    | true => simp [trD] at htr
    | false =>
      simp only [trD] at htr
      split at htr
      · rename_i o1 o2 hops
        split at htr
        · rename_i f1 fa fb t' args ty l ho1 ho2 hd2 hg2 hl
          split at htr
          · rename_i hargs
            simp only [Option.some.injEq, Prod.mk.injEq] at htr
            obtain ⟨rfl, rfl, rfl⟩ := htr
            obtain ⟨call, ex', hle, hst⟩ := hs _ _ _ hrun
            have hst : z6 call l st = some (e1, st1) := hst
            have hst' : z6 qeB l st = some (e1, st1) := by
              simp only [qcG] at hl
              split at hl
              · rename_i g' r hg hr
                simp only [Option.some.injEq] at hr
                subst hr
                simp only [Option.some.injEq] at hl
                subst hl
                rw [← qx9 (fun st => ?_)]
                · exact hst
                · rw [ho1]
                  have key : ∀ k : Option OpK, (k = none ∨ ∃ f a b, k = some (.mkFn f a b)) → ∀ st, kM call (qdG k) st = kM qeB (qdG k) st := by
                    intro k hk st
                    rcases hk with rfl | ⟨f, a, b, rfl⟩ <;> rfl
                  refine key _ ?_ st
                  cases f1 with
                  | func f =>
                    simp only [qbD, qDP, qDV]
                    cases look M.fm f with
                    | none => exact .inl rfl
                    | some q =>
                      cases opnds M (fun _ => false) 0 fa.toList with
                      | none => exact .inl rfl
                      | some q1 =>
                        cases opnds M (fun _ => false) 0 fb.toList with
                        | none => exact .inl rfl
                        | some q2 => exact .inr ⟨_, _, _, rfl⟩
                  | _ => exact .inl rfl
              · cases hl
            have hsz : ops.size = 2 := by rw [← Array.length_toList, hops]; rfl
            refine Go.wpIn_region ?_
            have hget : ∀ k o, [o1][k]? = some o → ops[0 + k]? = some o := fun k o hk => by
              cases k with
              | zero => rw [← Array.getElem?_toList, hops]; simpa using hk
              | succ k => simp at hk
            have hdst' := qgm hdst
            rw [hsz, show List.range 2 = List.range' 0 [o1].length ++ [1] from rfl]
            refine qfl qeF .wide [o1] 0 [1] l st g w β a hget hl (fun o ho => hdst' o (by rw [hops]; simp only [List.mem_singleton] at ho; simp [ho])) (fun _ _ => .inl rfl) hnt e1 st1 hst' hR Q (fun a' w' hg _ he1 => ?_) (fun x a' w' hp hne => h1 hne x a' w' (hp.weak (fun h => h.elim)))
            obtain ⟨h, first, cap, e2, st2, k1, k2, k3, k4⟩ := h2 he1
            obtain ⟨call2, ex2, _, hsk⟩ := hs _ _ _ k3
            have hsk : some (Ex.nrm, st1) = some (e2, st2) := hsk
            simp only [Option.some.injEq, Prod.mk.injEq] at hsk
            obtain ⟨rfl, rfl⟩ := hsk
            obtain ⟨⟨g1, β1, hR1, hE1, hD1⟩, hs1, _⟩ := hg
            have ho : ops[1]? = some o2 := by rw [← Array.getElem?_toList, hops]; rfl
            have hT := hR1.e t'
            rw [k1] at hT
            generalize htm : a'.tmps.getD t' Go.undef = c at hT
            cases hT with
            | s hT =>
              cases hT with
              | fn _ f2 _ _ fv cv hlook hr1 hr2 =>
                simp only [Go.wpOpsIn, ho, Go.Region.wanted, hg2, if_true, Go.Oper.wpIn]
                refine ⟨fun f _ => trivial, ?_⟩
                have hres : (Go.execOp a'.eval o2).run P w' = .ok (.defer { target := .fn (.func f2) cv, args := fv }) w' := by
                  have hev : a'.eval (.tmp t') = .func (.func f2) fv cv := htm
                  have ha : args = #[] := by apply Array.ext'; simpa using hargs
                  subst ha
                  simp only [Go.execOp, ho2, Go.resolve, hev, Go.Deferred.ofValue, Sem.run_bind, Sem.run_pure, Result.andThen_ok]
                  simp
                show o2.uponIn _ _ _ _ _ _ ((o2.semAt none a'.eval).run P w')
                rw [Oper.semAt_none, hres, Oper.uponIn_defer, hd2]
                simp only [Go.Act.put]
                refine k4 .normal _ _ ⟨g1, w', { tmps := a'.tmps, defers := { target := .fn (.func f2) cv, args := fv } :: a'.defers }, a'.defers, f2, fv, cv, hlook, hr1, hr2, hE1, hs1, hD1, rfl, ?_⟩
                exact (show Good False M g1 w' _ st1 _ w' from ⟨⟨g1, β1, hR1, Evo.refl g1 w', .refl⟩, rfl, fun _ => rfl⟩)
          · cases htr
        · cases htr
      · cases htr
  | .seq x y, pre, t, post, htr, st, e1, st1, hrun, g, w, β, a, hdst, hnt, hR, Q, h1, h2 => by
    simp only [qcH, qDB] at hdst
    simp only [trD] at htr
    refine Go.wpIn_seq ?_
    split at htr
    · rename_i pre' t' post' hx
      split at htr
      · rename_i cy hy
        simp only [Option.some.injEq, Prod.mk.injEq] at htr
        obtain ⟨rfl, rfl, rfl⟩ := htr
        refine qi4 he hs hx hrun hdst.1 hnt hR (fun hne x a' w' hp => ?_) (fun he1 => ?_)
        · have hq := h1 hne x a' w' hp
          cases x with
          | normal =>
            exfalso
            cases e1 with
            | nrm => exact hne rfl
            | _ => exact hp
          | _ => exact hq
        · obtain ⟨h, first, cap, e2, st2, k1, k2, k3, k4⟩ := h2 he1
          obtain ⟨call2, ex2, hle, hst⟩ := hs _ _ _ k3
          simp only [step] at hst
          split at hst
          · rename_i stm hm
            refine ⟨h, first, cap, .nrm, stm, k1, k2, hle _ _ _ hm, fun x a' w' hp => ?_⟩
            have hp0 := hp
            obtain ⟨g2, w2, a2, ds1, h', fv, cv, q1, q2, q3, q4, q5, q6, q7, q8⟩ := hp
            cases x with
            | normal =>
              obtain ⟨⟨g3, β3, r1, r2, r3⟩, r4, _⟩ := (q8 : Good False M g2 w2 a2 stm a' w')
              refine he A 0 y cy hy stm e2 st2 (hle _ _ _ hst) g3 w' β3 a' nt hdst.2 (by rw [r4, q5]; exact hnt) r1 Fence.wide m .wide (.inl rfl) Q (fun x2 a3 w3 hp2 => ?_)
              exact k4 x2 a3 w3 ⟨g2, w2, a2, ds1, h', fv, cv, q1, q2, q3, q4, q5, q6, q7, hp2.trans r2 r4 r3 (fun h => h.elim) (fun h => h.elim)⟩
            | _ => exact q8.elim
          · rename_i hne
            refine ⟨h, first, cap, e2, st2, k1, k2, hle _ _ _ hst, fun x a' w' hp => ?_⟩
            have hq := k4 x a' w' hp
            cases x with
            | normal =>
              exfalso
              obtain ⟨g2, w2, a2, ds1, h', fv, cv, q1, q2, q3, q4, q5, q6, q7, q8⟩ := hp
              cases e2 with
              | nrm => exact hne st2 hst
              | _ => exact q8
            | _ => exact hq
      · cases htr
    · split at htr
      · rename_i cx pre' t' post' hx hy
        simp only [Option.some.injEq, Prod.mk.injEq] at htr
        obtain ⟨rfl, rfl, rfl⟩ := htr
        obtain ⟨call2, ex2, hle, hst⟩ := hs _ _ _ hrun
        simp only [step] at hst
        split at hst
        · rename_i stm hm
          refine he A 0 x cx hx st .nrm stm (hle _ _ _ hm) g w β a nt hdst.1 hnt hR Fence.wide m .wide (.inl rfl) _ (fun x' a1 w1 hp => ?_)
          cases x' with
          | normal =>
            obtain ⟨⟨g3, β3, r1, r2, r3⟩, r4, _⟩ := (hp : Good _ M g w a stm a1 w1)
            refine qi4 he hs hy (hle _ _ _ hst) hdst.2 (by rw [r4]; exact hnt) r1 (fun hne x a' w' hp => h1 hne x a' w' (hp.trans r2 r4 r3 (fun h => h.elim) (fun h => h.elim))) (fun he1 => ?_)
            obtain ⟨h, first, cap, e2, st2, k1, k2, k3, k4⟩ := h2 he1
            refine ⟨h, first, cap, e2, st2, k1, k2, k3, fun x a' w' hp => ?_⟩
            obtain ⟨g2, w2, a2, ds1, h', fv, cv, q1, q2, q3, q4, q5, q6, q7, q8⟩ := hp
            exact k4 x a' w' ⟨g2, w2, a2, ds1, h', fv, cv, q1, q2, q3, r2.trans q4, q5.trans r4, r3.trans r2.size q4 q6, q7, q8⟩
          | _ => exact hp.elim
        · rename_i hne
          have hne' : e1 ≠ .nrm := fun h => hne st1 (by rw [hst, h])
          refine he A 0 x cx hx st e1 st1 (hle _ _ _ hst) g w β a nt hdst.1 hnt hR Fence.wide m .wide (.inl rfl) _ (fun x' a1 w1 hp => ?_)
          have hq := h1 hne' x' a1 w1 (hp.weak (fun h => h.elim))
          cases x' with
          | normal =>
            exfalso
            cases e1 with
            | nrm => exact hne' rfl
            | _ => exact hp
          | _ => exact hq
      · cases htr
  | .skip, _, _, _, htr, _, _, _, _, _, _, _, _, _, _, _, _, _, _ => by cases htr
  | .cond _ _ _, _, _, _, htr, _, _, _, _, _, _, _, _, _, _, _, _, _, _ => by cases htr
  | .block _ _, _, _, _, htr, _, _, _, _, _, _, _, _, _, _, _, _, _, _ => by cases htr
  | .loop _, _, _, _, htr, _, _, _, _, _, _, _, _, _, _, _, _, _, _ => by cases htr
  | .rangeFunc _ _ _ _, _, _, _, htr, _, _, _, _, _, _, _, _, _, _, _, _, _, _ => by cases htr
  | .exit _, _, _, _, htr, _, _, _, _, _, _, _, _, _, _, _, _, _, _ => by cases htr
  | .scope _, _, _, _, htr, _, _, _, _, _, _, _, _, _, _, _, _, _, _ => by cases htr
  | .label _, _, _, _, htr, _, _, _, _, _, _, _, _, _, _, _, _, _, _ => by cases htr
  | .goto _, _, _, _, htr, _, _, _, _, _, _, _, _, _, _, _, _, _, _ => by cases htr
  | .ret, _, _, _, htr, _, _, _, _, _, _, _, _, _, _, _, _, _, _ => by cases htr
  | .refuse _, _, _, _, htr, _, _, _, _, _, _, _, _, _, _, _, _, _, _ => by cases htr
theorem qnP (he : qf5 P M ex) (hs : qkb ex) {A : Ann} {nt : Nat} {m : Nat} : ∀ {c : Code} {d : Nat} {x : C}, trH M P A c = some (d, x) → ∀ {st : St} {v : V} {e : Ex} {st1 : St}, ex x ⟨(d, v) :: st.env, st.H, st.lo⟩ = some (e, st1) → e = .nrm ∨ e = .ret →
    ∀ {g : Gh} {w : World} {β : Nat → Nat} {a : Act} {cs cs' : List Frame} {cv : Value}, qcH nt c = true → nt ≤ a.tmps.size → Rel M g w β st a.tmps → RepS M g w v cv → (Go.recoverD cs = some (cv, cs') ∨ (Go.recoverD cs = none ∧ cv = .nilIface ∧ cs' = cs)) →
    ∀ {Q : Exit → Act → List Frame → World → Prop}, (∀ x a' w', Post (zD c = true) M g w a e st1 x a' w' → Q x a' cs' w') → c.wpSIn Fence.wide m P Q a cs w
  | .region id ops draw, d, x, htr, st, v, e, st1, hrun, hen, g, w, β, a, cs, cs', cv, hdst, hnt, hR, hv, hrec, Q, hQ => by
    cases draw with
    | true => simp [trH] at htr
    | false =>
      simp only [trH] at htr
      split at htr
      · rename_i o o2 hops
        split at htr
        · rename_i args tys y d' l ho ho2 hd hg hl
          simp only [Option.some.injEq, Prod.mk.injEq] at htr
          obtain ⟨rfl, rfl⟩ := htr
          obtain ⟨call, ex', hle, hst⟩ := hs _ _ _ hrun
          have hst : z6 call l ⟨(d', v) :: st.env, st.H, st.lo⟩ = some (e, st1) := hst
          have hdst' := qgm hdst
          have hsz : ops.size = 2 := by rw [← Array.length_toList, hops]; rfl
          have h0 : ops[0]? = some o := by rw [← Array.getElem?_toList, hops]; rfl
          have h1 : ops[1]? = some o2 := by rw [← Array.getElem?_toList, hops]; rfl
          refine Go.wpSIn_region ?_
          rw [hsz, show List.range 2 = [0, 1] from rfl]
          have hrun0 : (Go.execOp a.eval o).run P w = .ok .recover w := by
            simp only [Go.execOp, ho, Go.resolve, Sem.run_bind, Sem.run_pure, Result.andThen_ok, Go.invoke]
            rfl
          have hdo : jj o a := fun n hn => Nat.lt_of_lt_of_le (hdst' o (by rw [hops]; simp) n hn) hnt
          have hR0 : Rel M g w β ⟨(d', v) :: st.env, st.H, st.lo⟩ (a.put o.dst cv).tmps := by
            have := hR.putV hdo (.s hv)
            rw [qb5 (RepV.notBox (RepV.s hv) (β := β)), hd] at this
            rw [hd]
            exact this
          have tail : Go.wpOpsSIn Fence.wide m P ops Q [1] (a.put o.dst cv) cs' w := by
            simp only [qcG] at hl
            split at hl
            · rename_i g' r hg2 hr
              simp only [Option.some.injEq] at hr
              subst hr
              simp only [Option.some.injEq] at hl
              subst hl
              have hd2 : jj o2 (a.put o.dst cv) := fun n hn => by rw [qa3]; exact Nat.lt_of_lt_of_le (hdst' o2 (by rw [hops]; simp) n hn) hnt
              simp only [Go.wpOpsSIn, h1]
              refine ⟨fun f _ => trivial, ?_⟩
              simp only [z6] at hst
              have fin : ∀ (c : Value) (w' : World) (g' : Gh) (β' : Nat → Nat) (stx : St), e = .nrm → stx = st1 → Rel M g' w' β' stx ((a.put o.dst cv).put o2.dst c).tmps → Evo g w g' w' → Q .normal ((a.put o.dst cv).put o2.dst c) cs' w' := by
                intro c w' g' β' stx he1 hx hR' hE'
                subst hx
                subst he1
                refine hQ .normal _ w' (show Good _ M g w a stx _ w' from ⟨⟨g', β', hR', hE', .same (by rw [qaV, qaV])⟩, by rw [qa3, qa3], fun _ => by rw [qaV, qaV]⟩)
              split at hst
              · rename_i hw
                rw [qde hR0 hg2 hw]
                simp only [if_true]
                split at hst
                · rename_i q hq
                  have hk := qe9 hq
                  rw [ho2] at hk
                  simp only [qbD, Option.map_eq_some_iff] at hk
                  obtain ⟨y', hy, hk⟩ := hk
                  rw [ho2] at hq
                  simp only [qbD, hy, qDw, qdG] at hq
                  have hq' : qnu y' ⟨(d', v) :: st.env, st.H, st.lo⟩ = some q := hq
                  have hq2 := hq'
                  simp only [qnu, ok, Option.some.injEq] at hq2
                  have hpan : q.pan = false := by rw [← hq2]
                  rw [hpan] at hst
                  simp only [cond_false, Option.some.injEq, Prod.mk.injEq] at hst
                  obtain ⟨c, w', g', β', hyi, hR', hE'⟩ := qnk hd2 hR0 hy (.inr ho2) hq'
                  cases hyi with
                  | value h => rw [h]; exact fin c w' g' β' _ hst.1.symm hst.2 hR' hE'
                  | skip h => rw [h]; exact fin _ w' g' β' _ hst.1.symm hst.2 hR' hE'
                · cases hst
              · rename_i hw
                rw [qde hR0 hg2 hw]
                simp only [qDt, if_false]
                simp only [Option.some.injEq, Prod.mk.injEq] at hst
                exact fin _ w g β _ hst.1.symm hst.2 (qjb hR0 hd2) (Evo.refl g w)
              · cases hst
            · cases hl
          show Go.wpOpsSIn Fence.wide m P ops Q (0 :: [1]) a cs w
          unfold Go.wpOpsSIn
          simp only [h0]
          refine ⟨fun f _ => trivial, ?_⟩
          simp only [Go.Region.wanted, hg, if_true, hrun0]
          rcases hrec with hrec | ⟨hrec, rfl, rfl⟩
          · rw [hrec]; exact tail
          · rw [hrec]; exact tail
        · cases htr
      · cases htr
  | .seq x y, d, z, htr, st, v, e, st1, hrun, hen, g, w, β, a, cs, cs', cv, hdst, hnt, hR, hv, hrec, Q, hQ => by
    simp only [qcH, qDB] at hdst
    simp only [trH] at htr
    split at htr
    · rename_i d' x' y' hx hy
      simp only [Option.some.injEq, Prod.mk.injEq] at htr
      obtain ⟨rfl, rfl⟩ := htr
      obtain ⟨call, ex', hle, hst⟩ := hs _ _ _ hrun
      simp only [step] at hst
      refine Go.wpSIn_seq ?_
      split at hst
      · rename_i stm hm
        refine qnP he hs hx (hle _ _ _ hm) (.inl rfl) hdst.1 hnt hR hv hrec (fun z a1 w1 hp => ?_)
        cases z with
        | normal =>
          obtain ⟨⟨g3, β3, r1, r2, r3⟩, r4, r5⟩ := (hp : Good _ M g w a stm a1 w1)
          refine Go.wpSIn_of_wpIn rfl (he A 0 y y' hy stm e st1 (hle _ _ _ hst) g3 w1 β3 a1 nt hdst.2 (by rw [r4]; exact hnt) r1 Fence.wide m .wide (.inl rfl) _ (fun x2 a3 w3 hp2 => ?_))
          exact hQ x2 a3 w3 (hp2.trans r2 r4 r3 (fun h => r5 (by simp only [zD, qDB] at h; exact h.1)) (fun h => by simp only [zD, qDB] at h; exact h.2))
        | _ => exact hp.elim
      · rename_i hne
        have hret : e = .ret := hen.resolve_left (fun h => hne st1 (by rw [hst, h]))
        subst hret
        refine qnP he hs hx (hle _ _ _ hst) (.inr rfl) hdst.1 hnt hR hv hrec (fun z a1 w1 hp => ?_)
        cases z with
        | ret => exact hQ _ _ _ (hp.weak (fun h => by simp only [zD, qDB] at h; exact h.1))
        | _ => exact hp.elim
    · cases htr
  | .skip, _, _, htr, _, _, _, _, _, _, _, _, _, _, _, _, _, _, _, _, _, _, _, _ => by cases htr
  | .cond _ _ _, _, _, htr, _, _, _, _, _, _, _, _, _, _, _, _, _, _, _, _, _, _, _, _ => by cases htr
  | .block _ _, _, _, htr, _, _, _, _, _, _, _, _, _, _, _, _, _, _, _, _, _, _, _, _ => by cases htr
  | .loop _, _, _, htr, _, _, _, _, _, _, _, _, _, _, _, _, _, _, _, _, _, _, _, _ => by cases htr
  | .rangeFunc _ _ _ _, _, _, htr, _, _, _, _, _, _, _, _, _, _, _, _, _, _, _, _, _, _, _, _ => by cases htr
  | .exit _, _, _, htr, _, _, _, _, _, _, _, _, _, _, _, _, _, _, _, _, _, _, _, _ => by cases htr
  | .scope _, _, _, htr, _, _, _, _, _, _, _, _, _, _, _, _, _, _, _, _, _, _, _, _ => by cases htr
  | .label _, _, _, htr, _, _, _, _, _, _, _, _, _, _, _, _, _, _, _, _, _, _, _, _ => by cases htr
  | .goto _, _, _, htr, _, _, _, _, _, _, _, _, _, _, _, _, _, _, _, _, _, _, _, _ => by cases htr
  | .ret, _, _, htr, _, _, _, _, _, _, _, _, _, _, _, _, _, _, _, _, _, _, _, _ => by cases htr
  | .refuse _, _, _, htr, _, _, _, _, _, _, _, _, _, _, _, _, _, _, _, _, _, _, _, _ => by cases htr
end
end W

/-
  A range over slices.Backward(x): simulated.
-/
set_option linter.unusedSimpArgs false
set_option linter.unusedVariables false
namespace W
open Go (World Value Addr IntKind Program TypeId FuncId Operand Act Oper Next Result Sem BinOp UnOp Ending Exit Code Func Fence Frame)
def qfG (tS tI : TypeId) : Array Oper := #[⟨some 4, .load tS (.tmp 1), tS, "iter.go:28", #[], none⟩,
  ⟨some 5, .call ⟨.builtin .len, #[.tmp 4], #[tS]⟩, tI, "iter.go:28", #[⟨0, .data⟩], none⟩,
  ⟨some 6, .binOp .sub tI (.tmp 5) (.const (.int .i64 1)) tI, tI, "iter.go:28", #[⟨1, .data⟩], none⟩,
  ⟨some 3, .assign (.tmp 6), tI, "iter.go:28", #[⟨2, .data⟩, ⟨0, .phase⟩, ⟨1, .phase⟩, ⟨2, .phase⟩], none⟩]
def qeZ (tI tB : TypeId) : Array Oper := #[⟨some 7, .move (.tmp 3), tI, "iter.go:28", #[], none⟩,
  ⟨some 8, .binOp .geq tI (.tmp 7) (.const (.int .i64 0)) tI, tB, "iter.go:28", #[⟨0, .data⟩], none⟩]
def qbB (tS tE tY tI tB t0 : TypeId) : Array Oper := #[⟨some 11, .move (.tmp 0), tY, "iter.go:29", #[], none⟩,
  ⟨some 12, .move (.tmp 3), tI, "iter.go:29", #[], none⟩,
  ⟨some 13, .load tS (.tmp 1), tS, "iter.go:29", #[], none⟩,
  ⟨some 14, .move (.tmp 3), tI, "iter.go:29", #[], none⟩,
  ⟨some 15, .indexAddr tS (.tmp 13) (.tmp 14), t0, "iter.go:29", #[⟨2, .data⟩, ⟨3, .data⟩], none⟩,
  ⟨some 16, .load tE (.tmp 15), tE, "iter.go:29", #[⟨4, .data⟩], none⟩,
  ⟨some 17, .call ⟨.value (.tmp 11), #[.tmp 12, .tmp 16], #[tI, tE]⟩, tB, "iter.go:29", #[⟨0, .data⟩, ⟨1, .data⟩, ⟨5, .data⟩], none⟩,
  ⟨some 18, .unOp .not tB (.tmp 17), tB, "iter.go:29", #[⟨6, .data⟩], none⟩]
def qdy (tI : TypeId) : Array Oper := #[⟨some 9, .move (.tmp 3), tI, "iter.go:28", #[], none⟩,
  ⟨some 10, .binOp .sub tI (.tmp 9) (.const (.int .i64 1)) tI, tI, "iter.go:28", #[⟨0, .data⟩], none⟩,
  ⟨some 3, .assign (.tmp 10), tI, "iter.go:28", #[⟨1, .data⟩, ⟨0, .phase⟩, ⟨1, .phase⟩], none⟩]
def qpJ (tS tE tY tI tB t0 : TypeId) : Code :=
  .seq (.region 0 (qfG tS tI) false) (.block 0 (.loop (.seq (.seq (.region 1 (qeZ tI tB) false) (.cond (.tmp 8) .skip (.exit 0)))
    (.seq (.block 1 (.seq (.region 3 (qbB tS tE tY tI tB t0) false) (.cond (.tmp 18) .ret .skip))) (.region 2 (qdy tI) false)))))
def qza (P : Program) (f : FuncId) (l : L) : Prop := ∃ tS tE tY tI tB t0 fn, P.funcs[f]? = some fn ∧ (fn.name == "runtime.NumGoroutine") = false ∧ fn.body = some (qpJ tS tE tY tI tB t0) ∧ fn.ntmps = 19 ∧ fn.results = #[] ∧
  P.underlying tS = some (.slice tE) ∧ lay P tS = some ⟨1, false⟩ ∧ lay P tE = some l ∧ P.underlying tI = some (.int .i64) ∧ P.underlying tB = some .bool
def qpY (P : Program) (M : Maps) : Prop := ∀ f' k l, look M.fm f' = some k → look M.bk k = some l → qza P f' l
def OpK.plain : OpK → Bool
  | .mov (.t _) => true
  | .load false _ _ _ => true
  | .bi .lenL _ => true
  | .bin _ _ _ _ => true
  | .un _ _ => true
  | .indexAddr _ _ _ _ => true
  | _ => false
theorem qoP {call : Call} {k : OpK} {st : St} {r : Or} (hk : k.plain = true) (h : kM call k st = some r) : r.st = st ∧ r.pan = false := by
  have key : ∀ {v : V}, ok v st = some r → r.st = st ∧ r.pan = false := fun h => by
    simp only [ok, Option.some.injEq] at h; subst h; exact ⟨rfl, rfl⟩
  cases k with
  | mov x => cases x with
    | t n => exact key h
    | _ => cases hk
  | load mv sl l a =>
    cases mv with
    | true => cases hk
    | false =>
      simp only [kM, qdf, cond_false, qDH] at h
      split at h
      · cases h
      · split at h
        · rename_i hc; cases hc
        · split at h
          · exact key h
          · cases h
  | bi b l =>
    cases b with
    | lenL =>
      have h : eBi .lenL l st = some r := h
      match l with
      | [x] =>
        have h : qf1 x st = some r := h
        unfold qf1 at h
        repeat' (split at h)
        all_goals first | exact key h | cases h
      | [] => cases h
      | _ :: _ :: _ => cases h
    | _ => cases hk
  | bin op kd x y =>
    simp only [kM] at h
    unfold qkC at h
    split at h
    · exact key h
    · cases h
  | un op x =>
    simp only [kM] at h
    unfold eUn at h
    repeat' (split at h)
    all_goals first | exact key h | cases h
  | indexAddr x i n arr =>
    simp only [kM] at h
    unfold qal qdj qdl at h
    simp only [qDH] at h
    repeat' (split at h)
    all_goals first | exact key h | cases h
  | _ => cases hk
theorem qqO {m : Nat} {dst : Option Nat} {v c : V} {st : St} (hc : c.ok = true) (hg : get m st.env = c) (hd : dst ≠ some m) : get m (put dst v st).env = c := by
  cases dst with
  | none => exact hg
  | some n =>
    have hne : m ≠ n := fun e => hd (by rw [e])
    show get m ((n, v) :: _) = c
    rw [j8, if_neg hne]
    cases v with
    | box cs =>
      show get m (qeK n st.env) = c
      rw [qi0, hg]
      cases c <;> first | rfl | cases hc
    | _ => exact hg
theorem qfc {call : Call} : ∀ (l : List Op) {st : St} {e : Ex} {st' : St}, (∀ q ∈ l, q.k.plain = true ∧ q.g = none) → z6 call l st = some (e, st') → e = .nrm ∧ st'.H = st.H ∧ st'.lo = st.lo ∧
    ∀ m c, c.ok = true → get m st.env = c → (∀ q ∈ l, q.dst ≠ some m) → get m st'.env = c
  | [], st, e, st', _, h => by
    simp only [z6, Option.some.injEq, Prod.mk.injEq] at h
    obtain ⟨rfl, rfl⟩ := h
    exact ⟨rfl, rfl, rfl, fun m c _ hg _ => hg⟩
  | q :: l, st, e, st', hl, h => by
    obtain ⟨h1, h2⟩ := hl q (by simp)
    simp only [z6, h2, wanted] at h
    split at h
    · rename_i r hr
      obtain ⟨k1, k2⟩ := qoP h1 hr
      rw [k2, cond_false, k1] at h
      obtain ⟨i1, i2, i3, i4⟩ := qfc l (fun q hq => hl q (by simp [hq])) h
      refine ⟨i1, i2.trans (by cases q.dst <;> rfl), i3.trans (by cases q.dst <;> rfl), fun m c hc hg hd => ?_⟩
      exact i4 m c hc (qqO hc hg (hd q (by simp))) (fun q' hq' => hd q' (by simp [hq']))
    · cases h
section
variable {P : Program} {M : Maps}
theorem qiI {g : Gh} {w : World} {H : List Obj} (hH : RelH M g w H) {β : Nat → Nat} {env : Env} {lo : Nat} {tmps : Array Value} (he : ∀ k, RepS M g w (get k env) (tmps.getD k Go.undef)) : Rel M g w β ⟨env, H, lo⟩ tmps :=
  ⟨hH.n, fun k => .s (he k), hH.h, hH.fresh, hH.gl⟩
theorem qf7 {g : Gh} {w : World} {tmps : Array Value} : ∀ {env : Env}, (∀ p ∈ env, RepS M g w p.2 (tmps.getD p.1 Go.undef)) → ∀ k, RepS M g w (get k env) (tmps.getD k Go.undef)
  | [], _, k => .undef _
  | (m, v) :: env, h, k => by
    rw [j8]
    split
    · rename_i e; subst e; exact h (k, v) (by simp)
    · exact qf7 (fun p hp => h p (by simp [hp])) k
theorem qk0 {g : Gh} {w : World} {β : Nat → Nat} {st : St} {tmps : Array Value} (hR : Rel M g w β st tmps) {k : Nat} {v : V} (hg : get k st.env = v) (hv : v.ok = true) : RepS M g w v (tmps.getD k Go.undef) := by
  have h := hR.e k
  rw [hg] at h
  generalize tmps.getD k Go.undef = c at h
  cases h with
  | s h => exact h
  | _ => cases hv
theorem qkU {g : Gh} {w : World} {k : IntKind} {n : Int} {c : Value} (h : RepS M g w (.d (.i k n)) c) : c = .int k n := by
  cases h with | d _ _ h => cases h; rfl
theorem qmM {g : Gh} {w : World} {b : Bool} {c : Value} (h : RepS M g w (.d (.b b)) c) : c = .bool b := by
  cases h with | d _ _ h => cases h; rfl
theorem qs7 {g : Gh} {w : World} {β : Nat → Nat} {st : St} {tmps : Array Value} (hR : Rel M g w β st tmps) (live : List Nat) : ∀ p ∈ qa4 live st.env, RepS M g w p.2 (tmps.getD p.1 Go.undef) := by
  intro p hp
  unfold qa4 at hp
  obtain ⟨n, _, rfl⟩ := List.mem_map.1 hp
  unfold qvb
  cases h : (get n st.env).ok with
  | true => exact qk0 hR rfl h
  | false => exact .undef _
theorem qed {g g' : Gh} {w w' : World} (hE : Evo g w g' w') {v : V} {c : Value} (h : RepS M g w v c) : RepS M g' w' v c := h.mono hE.toGrow hE.n hE.φ h.ref
theorem qut {n : Int} (h1 : -9223372036854775808 ≤ n) (h2 : n ≤ 9223372036854775807) : wr .i64 n = n := by
  cases n with
  | ofNat a =>
    simp only [wr, qhs]
    rw [(Nat.ble_eq_true_of_le (by rw [Int.ofNat_eq_natCast] at h2; omega) : Nat.ble a 9223372036854775807 = true)]; rfl
  | negSucc a =>
    simp only [wr, qmC]
    rw [(Nat.ble_eq_true_of_le (by omega) : Nat.ble a 9223372036854775807 = true)]; rfl
theorem qvm {tS tE tI : TypeId} (u1 : P.underlying tS = some (.slice tE)) (u2 : lay P tS = some ⟨1, false⟩) (u4 : P.underlying tI = some (.int .i64)) : qcG M P {} 0 (qfG tS tI) 0 (qfG tS tI).toList = some qcF := by
  simp [qfG, qcG, gOf, qbD, opnd, opnds, toD, u1, u2, qkx, u4, qdG, mvs, qkO, qsH, look, qcF]
theorem qvL {tI tB : TypeId} (u4 : P.underlying tI = some (.int .i64)) : qcG M P {} 1 (qeZ tI tB) 0 (qeZ tI tB).toList = some [⟨some 7, .mov (.t 3), none⟩, ⟨some 8, .bin .geq .num (.t 7) (.c (.i .i64 0)), none⟩] := by
  simp [qeZ, qcG, gOf, qbD, opnd, opnds, toD, qkx, u4, qdG, mvs, qkO, qsH, look]
theorem qtY {tI : TypeId} (u4 : P.underlying tI = some (.int .i64)) : qcG M P {} 2 (qdy tI) 0 (qdy tI).toList = some [⟨some 9, .mov (.t 3), none⟩, ⟨some 10, .bin .sub .num (.t 9) (.c (.i .i64 1)), none⟩, ⟨some 3, .mov (.t 10), none⟩] := by
  simp [qdy, qcG, gOf, qbD, opnd, opnds, toD, qkx, u4, qdG, mvs, qkO, qsH, look]
theorem qun {tS tE tY tI tB t0 : TypeId} {l : L} (u1 : P.underlying tS = some (.slice tE)) (u2 : lay P tS = some ⟨1, false⟩) (u3 : lay P tE = some l) :
    qcG M P {} 3 (qbB tS tE tY tI tB t0) 1 (((qbB tS tE tY tI tB t0).toList.drop 1).take 5) = some (qcY l) := by
  simp [qbB, qcG, gOf, qbD, opnd, opnds, toD, u1, u2, u3, qkx, qdG, mvs, qkO, qsH, look, qcY]
theorem qr4 {tS tE tY tI tB t0 : TypeId} (u5 : P.underlying tB = some .bool) :
    qcG M P {} 3 (qbB tS tE tY tI tB t0) 7 ((qbB tS tE tY tI tB t0).toList.drop 7) = some [⟨some 18, .un .not (.t 17), none⟩] := by
  simp [qbB, qcG, gOf, qbD, opnd, opnds, toD, qkx, qdG, mvs, qkO, qsH, look]
theorem qr9 {z : Int} {c : V} {H : List Obj} {lo : Nat} : z6 qeB [⟨some 7, .mov (.t 3), none⟩, ⟨some 8, .bin .geq .num (.t 7) (.c (.i .i64 0)), none⟩] ⟨[(3, .d (.i .i64 z)), (1, c)], H, lo⟩ = some (.nrm, ⟨[(8, .d (.b (leI 0 z))), (7, .d (.i .i64 z)), (3, .d (.i .i64 z)), (1, c)], H, lo⟩) := rfl
theorem qtc {z : Int} {c : V} {H : List Obj} {lo : Nat} : z6 qeB [⟨some 9, .mov (.t 3), none⟩, ⟨some 10, .bin .sub .num (.t 9) (.c (.i .i64 1)), none⟩, ⟨some 3, .mov (.t 10), none⟩] ⟨[(3, .d (.i .i64 z)), (1, c)], H, lo⟩ =
    some (.nrm, ⟨[(3, .d (.i .i64 (wr .i64 (z - 1)))), (10, .d (.i .i64 (wr .i64 (z - 1)))), (9, .d (.i .i64 z)), (3, .d (.i .i64 z)), (1, c)], H, lo⟩) := rfl
theorem qqA {z : Bool} {H : List Obj} {lo : Nat} : z6 qeB [⟨some 18, .un .not (.t 17), none⟩] ⟨[(17, .d (.b z))], H, lo⟩ = some (.nrm, ⟨[(18, .d (.b !z)), (17, .d (.b z))], H, lo⟩) := rfl
end
end W

/-
  A range over slices.Backward(x): simulated (the proof).
-/
set_option linter.unusedSimpArgs false
set_option linter.unusedVariables false
namespace W
open Go (World Value Addr IntKind Program TypeId FuncId Operand Act Oper Next Result Sem BinOp UnOp Ending Exit Code Func Fence Frame)
section
variable {P : Program} {M : Maps} {ex : C → St → Option (Ex × St)}
structure RCtx (P : Program) (M : Maps) (ex : C → St → Option (Ex × St)) where
  l : L
  c : V
  hc : c.ok = true
  p0 : Nat
  p1 : Nat
  base : Env
  a : C
  b : C
  x : Code
  y : Code
  A : Ann
  blk : Nat
  hx : trC M P A blk x = some a
  hy : trC M P A blk y = some b
  hnx : zD x = true
  hny : zD y = true
  nt : Nat
  hp0 : p0 < nt
  hp1 : p1 < nt
  hdx : qcH nt x = true
  hdy : qcH nt y = true
  e : Ex
  st' : St
  g : Gh
  w : World
  act : Act
  hnt : nt ≤ act.tmps.size
  hbase : ∀ p ∈ base, RepS M g w p.2 (act.tmps.getD p.1 Go.undef)
  fid : FuncId
namespace RCtx
variable (X : RCtx P M ex)
def D : Nat := X.w.heap.size
def L' : Nat := X.w.heap.size + 1
def rc (s : Go.LoopState) (pe : Option Code) : Go.Loop := { state := s, pending := pe, fn := X.fid, tmps := X.act.tmps, params := #[X.p0, X.p1], assign := X.x, body := X.y, defers := X.w.heap.size }
def yv : Value := .func (.yield X.L') #[] #[]
structure Mem (s : Go.LoopState) (pe : Option Code) (H : List Obj) (gi : Gh) (W : World) : Prop where
  h : RelH M gi W H
  E : Evo X.g X.w gi W
  r : W.heap[X.L']? = some (.loop (X.rc s pe))
  ro : gi.own X.L' = none
  d : W.heap[X.D]? = some (.deferred (some []))
  dd : gi.own X.D = none
variable {X}
theorem Mem.put {s : Go.LoopState} {pe : Option Code} {H : List Obj} {gi : Gh} {W : World} (h : X.Mem s pe H gi W) (s' : Go.LoopState) (pe' : Option Code) : X.Mem s' pe' H gi (W.putObj X.L' (.loop (X.rc s' pe'))) :=
  ⟨qpr h.h h.r rfl rfl h.ro, qkH h.E (Nat.le_succ _) h.r rfl rfl, Go.World.putObj_heap_same (Array.getElem?_eq_some_iff.1 h.r).1, h.ro, (Go.World.putObj_heap_other (by unfold D L'; omega)).trans h.d, h.dd⟩
theorem Mem.evo {s : Go.LoopState} {pe : Option Code} {H : List Obj} {gi : Gh} {W : World} (h : X.Mem s pe H gi W) {g' : Gh} {W' : World} {H' : List Obj} (hE : Evo gi W g' W') (hH : RelH M g' W' H') : X.Mem s pe H' g' W' := by
  obtain ⟨k1, k2, _⟩ := hE.keep _ (Array.getElem?_eq_some_iff.1 h.r).1 (.inl h.ro)
  obtain ⟨m1, m2, _⟩ := hE.keep _ (Array.getElem?_eq_some_iff.1 h.d).1 (.inl h.dd)
  exact ⟨hH, h.E.trans hE, k2.trans h.r, k1.trans h.ro, m2.trans h.d, m1.trans h.dd⟩
theorem Mem.fin {s : Go.LoopState} {pe : Option Code} {H : List Obj} {gi : Gh} {W : World} (h : X.Mem s pe H gi W) (hs : s ≠ .busy) {lo : Nat} :
    ∃ W4, (Go.Instr.endLoop X.L').run P W = .ok pe W4 ∧ Good False M X.g X.w X.act ⟨X.base, H, lo⟩ { X.act with defers := { target := .collected X.D, args := #[] } :: X.act.defers } W4 := by
  have hr := Go.run_endLoop (P := P) h.r (by show s ≠ .busy; exact hs)
  have h4 := h.put .exhausted pe
  refine ⟨_, hr, ⟨gi, fun _ => 0, qiI h4.h (qf7 (fun p hp => ?_)), h4.E, [{ target := .collected X.D, args := #[] }], rfl, ?_⟩, rfl, fun h => h.elim⟩
  · exact qed h4.E (X.hbase p hp)
  · exact .cons X.D rfl (qDx _) h4.d h4.dd (fun d' hd' => by cases hd') .nil
structure BI (X : RCtx P M ex) (n i : Nat) (aB : Act) (W : World) : Prop where
  tm : 19 ≤ aB.tmps.size
  df : aB.defers = []
  t0 : aB.tmps.getD 0 Go.undef = X.yv
  t3 : aB.tmps.getD 3 Go.undef = .int .i64 ((i : Int) - 1)
  le : i ≤ n
  m : ∃ gi H lo, X.Mem .ready none H gi W ∧ RepS M gi W X.c (aB.tmps.getD 1 Go.undef) ∧ rounds (ex X.a) (ex X.b) X.l X.c X.p0 X.p1 X.base i H lo = some (X.e, X.st')
theorem qxr : leI 0 (((0 : Nat) : Int) - 1) = false := rfl
theorem qxj (k : Nat) : leI 0 (((k + 1 : Nat) : Int) - 1) = true := by
  rw [show ((k + 1 : Nat) : Int) - 1 = (k : Int) by omega]; rfl
abbrev qyK (X : RCtx P M ex) (m : Nat) (Q : Exit → Act → World → Prop) : Ending → World → Prop := Go.rangePost Fence.wide m P X.L' Q { X.act with defers := [{ target := .collected X.D, args := #[] }] ++ X.act.defers }
theorem qsJ {t : Array Value} {p0 p1 : Nat} {x0 x1 : Value} (h0 : p0 < t.size) (h1 : p1 < t.size) (k : Nat) : ((t.setIfInBounds p0 x0).setIfInBounds p1 x1).getD k Go.undef = if k = p1 then x1 else if k = p0 then x0 else t.getD k Go.undef := by
  simp only [Array.getD_eq_getD_getElem?]
  by_cases e1 : k = p1
  · subst e1; simp [h1]
  · rw [if_neg e1, Array.getElem?_setIfInBounds_ne (fun e => e1 e.symm)]
    by_cases e0 : k = p0
    · subst e0; simp [h0]
    · rw [if_neg e0, Array.getElem?_setIfInBounds_ne (fun e => e0 e.symm)]
def qpZ : Ex → Option Code
  | .ret => some .ret
  | .exit j => some (.exit j)
  | _ => none
theorem round {m : Nat} (he : qf5 P M ex) {i : Nat} {H : List Obj} {lo : Nat} {v : V} {st1 : St} (h1 : ex X.a ⟨(X.p1, v) :: (X.p0, .d (.i .i64 i)) :: X.base, H, lo⟩ = some (.nrm, st1)) {e5 : Ex} {st2 : St} (h2 : ex X.b st1 = some (e5, st2)) (he5 : e5 = .nrm ∨ e5 = .ret ∨ ∃ j, e5 = .exit j)
    {gi : Gh} {W : World} (hM : X.Mem .ready none H gi W) {x0 x1 : Value} (hx0 : x0 = .int .i64 i) (hx1 : RepS M gi W v x1) {R : Ending → World → Prop}
    (hR1 : e5 = .nrm → ∀ (g5 : Gh) (W5 : World), X.Mem .ready none st2.H g5 W5 → (∀ v c, RepS M gi W v c → RepS M g5 W5 v c) → R (.returned (.bool true)) W5)
    (hR2 : e5 ≠ .nrm → ∀ (g5 : Gh) (W5 : World), X.Mem .done (qpZ e5) st2.H g5 W5 → R (.returned (.bool false)) W5) :
    Go.RoundIn Fence.wide m P X.L' X.fid ((X.act.tmps.setIfInBounds X.p0 x0).setIfInBounds X.p1 x1) X.x X.y W R := by
  have hp0 : X.p0 < X.act.tmps.size := Nat.lt_of_lt_of_le X.hp0 X.hnt
  have hp1 : X.p1 < X.act.tmps.size := Nat.lt_of_lt_of_le X.hp1 X.hnt
  refine Go.roundIn_of_wpIn trivial ?_
  refine he X.A X.blk X.x X.a X.hx _ .nrm st1 h1 gi W (fun _ => 0) _ X.nt X.hdx (by simp; exact X.hnt) (qiI hM.h (fun k => ?_)) (Fence.wide.inRound X.L') m (.round _) (.inr X.hnx) _ (fun z a1 w1 hp => ?_)
  · rw [qsJ hp0 hp1, j8]
    by_cases e1 : k = X.p1
    · rw [if_pos e1, if_pos e1]; exact hx1
    · rw [if_neg e1, if_neg e1, j8]
      by_cases e0 : k = X.p0
      · rw [if_pos e0, if_pos e0, hx0]; exact .d _ _ (.i _ _)
      · rw [if_neg e0, if_neg e0]
        exact qf7 (fun p hp => qed hM.E (X.hbase p hp)) k
  · cases z with
    | normal =>
      obtain ⟨⟨g4, β4, r1, r2, _⟩, r3, _⟩ := (hp : Good _ M gi W _ st1 a1 w1)
      have hM4 := hM.evo r2 r1.toH
      refine ⟨_, Go.run_beginRound hM4.r rfl, ?_⟩
      have hMb := hM4.put .busy none
      refine he X.A X.blk X.y X.b X.hy st1 e5 st2 h2 g4 _ β4 a1 X.nt X.hdy (by rw [r3]; simp; exact X.hnt) (qkI r1 hM4.r rfl rfl hM4.ro) (Fence.wide.inRound X.L') m (.round _) (.inr X.hny) _ (fun z a' w' hp => ?_)
      have key : ∀ {nd : Prop}, Good nd M g4 (w1.putObj X.L' (.loop (X.rc .busy none))) a1 st2 a' w' → ∃ g5, X.Mem .busy none st2.H g5 w' ∧ (∀ v c, RepS M gi W v c → RepS M g5 w' v c) := by
        intro nd hg
        obtain ⟨⟨g5, β5, k1, k2, _⟩, _, _⟩ := hg
        exact ⟨g5, hMb.evo k2 k1.toH, fun v c h => qed k2 (((qed r2 h)).mono (qdz hM4.r rfl rfl) (qDx _) (fun _ _ => rfl) (qed r2 h).ref)⟩
      have gr : ∀ {g5 : Gh} {v : V} {c : Value}, X.Mem .busy none st2.H g5 w' → RepS M g5 w' v c → ∀ (pe : Option Code) (s : Go.LoopState), RepS M g5 (w'.putObj X.L' (.loop (X.rc s pe))) v c := fun hM5 h pe s => h.mono (qdz hM5.r rfl rfl) (qDx _) (fun _ _ => rfl) h.ref
      rcases he5 with rfl | rfl | ⟨j, rfl⟩
      · cases z with
        | normal =>
          obtain ⟨g5, hM5, h5⟩ := key hp
          exact ⟨_, _, Go.run_endRound none hM5.r, hR1 rfl g5 _ (hM5.put .ready none) (fun v c h => gr hM5 (h5 v c h) _ _)⟩
        | _ => exact hp.elim
      · cases z with
        | ret =>
          obtain ⟨g5, hM5, h5⟩ := key hp
          exact ⟨_, _, Go.run_endRound (some .ret) hM5.r, hR2 (by simp) g5 _ (hM5.put .done (some .ret))⟩
        | _ => exact hp.elim
      · cases z with
        | exit id =>
          obtain ⟨hid, hp⟩ := hp
          subst hid
          obtain ⟨g5, hM5, h5⟩ := key hp
          exact ⟨_, _, Go.run_endRound (some (.exit id)) hM5.r, hR2 (by simp) g5 _ (hM5.put .done (some (.exit id)))⟩
        | _ => exact hp.elim
    | _ => exact hp.elim
def qvd (tS tE tY tI tB t0 : TypeId) : Code := .seq (.seq (.region 1 (qeZ tI tB) false) (.cond (.tmp 8) .skip (.exit 0)))
    (.seq (.block 1 (.seq (.region 3 (qbB tS tE tY tI tB t0) false) (.cond (.tmp 18) .ret .skip))) (.region 2 (qdy tI) false))
theorem ql7 {ops : List Oper} {k : Nat} (h : (ops.all fun o => match o.dst with | some d => Nat.blt d k | none => true) = true) : ∀ o ∈ ops, ∀ d, o.dst = some d → d < k := fun o ho d hd => by
  rw [List.all_eq_true] at h
  have := h o ho
  rw [hd] at this
  simpa using this
theorem qee {ops : List Oper} {k : Nat} (h : (ops.all fun o => match o.dst with | some d => !Nat.beq d k | none => true) = true) : ∀ o ∈ ops, o.dst ≠ some k := fun o ho hd => by
  rw [List.all_eq_true] at h
  have := h o ho
  rw [hd] at this
  simp at this
theorem qyi {m : Nat} {Q : Exit → Act → World → Prop} (hQ : ∀ x a' w', Post False M X.g X.w X.act X.e X.st' x a' w' → Q x a' w') {s : Go.LoopState} {pe : Option Code} {H : List Obj} {lo : Nat} {g5 : Gh} {W5 : World} (hM : X.Mem s pe H g5 W5) (hs : s ≠ .busy)
    (hst : X.st' = ⟨X.base, H, lo⟩) (hpe : pe = qpZ X.e) (he : X.e = .nrm ∨ X.e = .ret ∨ ∃ j, X.e = .exit j) (v : Value) : qyK X m Q (.returned v) W5 := by
  obtain ⟨W4, h1, h2⟩ := hM.fin hs (lo := lo)
  refine ⟨pe, W4, h1, ?_⟩
  rw [← hst] at h2
  rcases he with h | h | ⟨j, h⟩
  · rw [hpe, h]
    exact hQ .normal _ _ (by rw [h]; exact h2)
  · rw [hpe, h]
    exact Go.wpIn_ret (hQ .ret _ _ (by rw [h]; exact h2))
  · rw [hpe, h]
    exact Go.wpIn_exit (hQ (.exit j) _ _ (by rw [h]; exact ⟨rfl, h2⟩))
theorem loop {m : Nat} {Q : Exit → Act → World → Prop} (he : qf5 P M ex) {tS tE tY tI tB t0 : TypeId} (u1 : P.underlying tS = some (.slice tE)) (u2 : lay P tS = some ⟨1, false⟩) (u3 : lay P tE = some X.l) (u4 : P.underlying tI = some (.int .i64)) (u5 : P.underlying tB = some .bool)
    {fn2 : Func} (q5 : fn2.results = #[]) (hQ : ∀ x a' w', Post False M X.g X.w X.act X.e X.st' x a' w' → Q x a' w') {n : Nat} (hn : n ≤ 4611686018427387904) {aB : Act} {W : World} (h0 : BI X n n aB W) :
    (Code.block 0 (.loop (qvd tS tE tY tI tB t0))).wpIn Fence.wide (m - 1) P (Go.bodyPost P fn2 (qyK X m Q)) aB W := by
  refine Go.wpIn_block (Go.wpIn_loop (fun aB W => ∃ i, BI X n i aB W) (fun aB W => least (fun i => BI X n i aB W)) ⟨n, h0⟩ (fun aB W hI => ?_))
  obtain ⟨i0, hi0⟩ := hI
  have hi := (qg0 (p := fun i => BI X n i aB W) hi0).1
  generalize least (fun i => BI X n i aB W) = i at hi
  clear hi0 i0 h0
  obtain ⟨gi, H, lo, hM, hc, hr⟩ := hi.m
  have res : ∀ (tmps : Array Value) (W : World), (Go.results fn2 tmps).run P W = .ok (.tuple #[]) W := fun tmps W => by simp [Go.results, q5]
  refine Go.wpIn_seq (Go.wpIn_seq (Go.wpIn_region ?_))
  -- the test
  rw [show (qeZ tI tB).size = 2 from rfl, show List.range 2 = List.range' 0 (qeZ tI tB).toList.length ++ [] from rfl]
  refine qfl (nt := 19) qeF .wide (qeZ tI tB).toList 0 [] _ ⟨[(3, .d (.i .i64 ((i : Int) - 1))), (1, X.c)], H, lo⟩ gi W (fun _ => 0) aB (fun k o hk => by simpa using hk) (qvL (M := M) u4) (ql7 rfl) (fun _ _ => .inl rfl) hi.tm .nrm _ qr9
    (qiI hM.h (qf7 (fun p hp => ?_))) _ (fun a1 W1 hg hfr _ => ?_) (fun x a' w' _ hne => absurd rfl hne)
  · simp only [List.mem_cons, List.not_mem_nil, or_false] at hp
    rcases hp with rfl | rfl
    · show RepS M gi W _ (aB.tmps.getD 3 _); rw [hi.t3]; exact .d _ _ (.i _ _)
    · exact hc
  obtain ⟨⟨g1, β1, hR1, hE1, hD1⟩, hs1, hd1⟩ := hg
  have hM1 := hM.evo hE1 hR1.toH
  have e8 : a1.tmps.getD 8 Go.undef = .bool (leI 0 ((i : Int) - 1)) := qmM (qk0 hR1 (k := 8) rfl rfl)
  have f0 : a1.tmps.getD 0 Go.undef = X.yv := (hfr 0 (qee rfl)).trans hi.t0
  have f1 : a1.tmps.getD 1 Go.undef = aB.tmps.getD 1 Go.undef := hfr 1 (qee rfl)
  have f3 : a1.tmps.getD 3 Go.undef = .int .i64 ((i : Int) - 1) := (hfr 3 (qee rfl)).trans hi.t3
  have df1 : a1.defers = [] := (hd1 trivial).trans hi.df
  have hc1 : RepS M g1 W1 X.c (a1.tmps.getD 1 Go.undef) := by rw [f1]; exact qed hE1 hc
  have sz1 : 19 ≤ a1.tmps.size := by rw [hs1]; exact hi.tm
  show (Code.cond (.tmp 8) .skip (.exit 0)).wpIn _ _ _ _ a1 W1
  cases i with
  | zero =>
    rw [qxr] at e8
    refine Go.wpIn_cond_false e8 (Go.wpIn_exit ?_)
    simp only [rounds, Option.some.injEq, Prod.mk.injEq] at hr
    simp only [Exit.then, Exit.inBlock, if_true]
    exact ⟨df1, _, res _ _, qyi hQ hM1 (by simp) hr.2.symm (by rw [← hr.1]; rfl) (.inl hr.1.symm) _⟩
  | succ i =>
    rw [qxj] at e8
    rw [show (((i + 1 : Nat) : Int) - 1) = (i : Int) by omega] at f3
    refine Go.wpIn_cond_true e8 (Go.wpIn_skip ?_)
    obtain ⟨v, st1, hv, hok, hx1, hx2⟩ := qgY hr
    -- the round
    show (Code.seq (.block 1 (.seq (.region 3 (qbB tS tE tY tI tB t0) false) (.cond (.tmp 18) .ret .skip))) (.region 2 (qdy tI) false)).wpIn _ _ _ _ a1 W1
    refine Go.wpIn_seq (Go.wpIn_block (Go.wpIn_seq (Go.wpIn_region ?_)))
    rw [show (qbB tS tE tY tI tB t0).size = 8 from rfl, show List.range 8 = 0 :: (List.range' 1 (((qbB tS tE tY tI tB t0).toList.drop 1).take 5).length ++ [6, 7]) from rfl, Go.wpOpsIn_cons]
    unfold Go.wpOpIn
    simp only [show (qbB tS tE tY tI tB t0)[0]? = some ⟨some 11, .move (.tmp 0), tY, "iter.go:29", #[], none⟩ from rfl, Go.Region.wanted, if_true]
    refine ⟨fun _ _ => trivial, ?_⟩
    rw [show (Oper.semAt Fence.wide.round a1.eval ⟨some 11, .move (.tmp 0), tY, "iter.go:29", #[], none⟩).run P W1 = .ok (.value (a1.eval (.tmp 0))) W1 from rfl, Oper.uponIn_value]
    have ev0 : a1.eval (.tmp 0) = X.yv := f0
    rw [ev0]
    let a2 : Act := a1.put (some 11) X.yv
    show Go.wpOpsIn _ _ _ _ _ _ a2 W1
    have g11 : a2.tmps.getD 11 Go.undef = X.yv := by
      show (a1.tmps.setIfInBounds 11 X.yv).getD 11 Go.undef = _
      simp only [Array.getD_eq_getD_getElem?]
      rw [Array.getElem?_setIfInBounds_self_of_lt (by omega)]; rfl
    have ge : ∀ k, k ≠ 11 → a2.tmps.getD k Go.undef = a1.tmps.getD k Go.undef := fun k hk => qjk (by intro e; cases e; exact hk rfl)
    -- what is handed over
    unfold qiM at hv
    split at hv
    · rename_i stb hb
      simp only [Option.some.injEq] at hv
      refine qfl (nt := 19) qeF .wide _ 1 [6, 7] _ ⟨[(3, .d (.i .i64 i)), (1, X.c)], H, lo⟩ g1 W1 (fun _ => 0) a2 (fun k o hk => ?_) (qun (M := M) u1 u2 u3) (ql7 rfl) (fun _ _ => .inl rfl) (by rw [qa3]; exact sz1) .nrm stb hb
        (qiI hM1.h (qf7 (fun p hp => ?_))) _ (fun a3 W3 hg3 hfr3 _ => ?_) (fun x a' w' _ hne => absurd rfl hne)
      · match k, hk with
        | 0, hk => exact hk
        | 1, hk => exact hk
        | 2, hk => exact hk
        | 3, hk => exact hk
        | 4, hk => exact hk
        | k + 5, hk => cases hk
      · simp only [List.mem_cons, List.not_mem_nil, or_false] at hp
        rcases hp with rfl | rfl
        · show RepS M g1 W1 _ (a2.tmps.getD 3 _); rw [ge 3 (by omega), f3]; exact .d _ _ (.i _ _)
        · show RepS M g1 W1 _ (a2.tmps.getD 1 _); rw [ge 1 (by omega)]; exact hc1
      obtain ⟨⟨g3, β3, hR3, hE3, hD3⟩, hs3, hd3⟩ := hg3
      have hM3 := hM1.evo hE3 hR3.toH
      obtain ⟨_, bH, bLo, bget⟩ := qfc (qcY X.l) (fun q hq => by
        simp only [qcY, List.mem_cons, List.not_mem_nil, or_false] at hq
        rcases hq with rfl | rfl | rfl | rfl | rfl <;> exact ⟨rfl, rfl⟩) hb
      have bH : stb.H = H := bH
      rw [bH] at hM3
      have h16 : RepS M g3 W3 v (a3.tmps.getD 16 Go.undef) := qk0 hR3 hv hok
      have h12 : a3.tmps.getD 12 Go.undef = .int .i64 i := by
        refine qkU (qk0 hR3 (k := 12) ?_ rfl)
        -- slot 12 was laid first
        unfold qcY at hb
        simp only [z6, wanted] at hb
        have hmv : kM qeB (.mov (.t 3)) ⟨[(3, .d (.i .i64 (i : Int))), (1, X.c)], H, lo⟩ = some ⟨false, true, .d (.i .i64 i), ⟨[(3, .d (.i .i64 i)), (1, X.c)], H, lo⟩⟩ := rfl
        rw [hmv] at hb
        simp only [cond_false] at hb
        have hb' : z6 qeB [⟨some 13, .load false none ⟨1, false⟩ (.t 1), none⟩, ⟨some 14, .mov (.t 3), none⟩, ⟨some 15, .indexAddr (.t 13) (.t 14) X.l.n none, none⟩, ⟨some 16, .load false none X.l (.t 15), none⟩] (put (some 12) (.d (.i .i64 i)) ⟨[(3, .d (.i .i64 i)), (1, X.c)], H, lo⟩) = some (.nrm, stb) := hb
        refine (qfc _ (fun q hq => ?_) hb').2.2.2 12 _ rfl rfl (fun q hq => ?_)
        · simp only [List.mem_cons, List.not_mem_nil, or_false] at hq
          rcases hq with rfl | rfl | rfl | rfl <;> exact ⟨rfl, rfl⟩
        · simp only [List.mem_cons, List.not_mem_nil, or_false] at hq
          rcases hq with rfl | rfl | rfl | rfl <;> simp
      have g0 : a3.tmps.getD 0 Go.undef = X.yv := (hfr3 0 (qee rfl)).trans ((ge 0 (by omega)).trans f0)
      have g1' : a3.tmps.getD 1 Go.undef = a1.tmps.getD 1 Go.undef := (hfr3 1 (qee rfl)).trans (ge 1 (by omega))
      have g3' : a3.tmps.getD 3 Go.undef = .int .i64 i := (hfr3 3 (qee rfl)).trans ((ge 3 (by omega)).trans f3)
      have g11' : a3.tmps.getD 11 Go.undef = X.yv := (hfr3 11 (qee rfl)).trans g11
      have df3 : a3.defers = [] := (hd3 trivial).trans df1
      have hc3 : RepS M g3 W3 X.c (a3.tmps.getD 1 Go.undef) := by rw [g1']; exact qed hE3 hc1
      have sz3 : 19 ≤ a3.tmps.size := by rw [hs3]; show 19 ≤ (a1.put _ _).tmps.size; rw [qa3]; exact sz1
      -- yield
      rw [Go.wpOpsIn_cons]
      unfold Go.wpOpIn
      simp only [show (qbB tS tE tY tI tB t0)[6]? = some ⟨some 17, .call ⟨.value (.tmp 11), #[.tmp 12, .tmp 16], #[tI, tE]⟩, tB, "iter.go:29", #[⟨0, .data⟩, ⟨1, .data⟩, ⟨5, .data⟩], none⟩ from rfl, Go.Region.wanted, if_true]
      refine ⟨fun _ _ => trivial, ?_⟩
      have hy := Go.run_yield (P := P) (args := #[a3.tmps.getD 12 Go.undef, a3.tmps.getD 16 Go.undef]) hM3.r rfl
      have hsem : (Oper.semAt Fence.wide.round a3.eval ⟨some 17, .call ⟨.value (.tmp 11), #[.tmp 12, .tmp 16], #[tI, tE]⟩, tB, "iter.go:29", #[⟨0, .data⟩, ⟨1, .data⟩, ⟨5, .data⟩], none⟩).run P W3 =
          .ok (.round X.L' X.fid ((X.act.tmps.setIfInBounds X.p0 (a3.tmps.getD 12 Go.undef)).setIfInBounds X.p1 (a3.tmps.getD 16 Go.undef)) X.x X.y) W3 := by
        have e11 : a3.eval (.tmp 11) = .func (.yield X.L') #[] #[] := g11'
        rw [show Fence.wide.round = none from rfl, Oper.semAt_none]
        simp only [Go.execOp, Go.resolve, e11, Go.Deferred.ofValue, Sem.run_bind, Sem.run_pure, Result.andThen_ok, Go.invoke]
        have : (#[] ++ Array.map a3.eval #[Operand.tmp 12, Operand.tmp 16] : Array Value) = #[a3.tmps.getD 12 Go.undef, a3.tmps.getD 16 Go.undef] := by simp [Act.eval]
        rw [this, hy]
        simp [RCtx.rc]
      rw [hsem, Oper.uponIn_round]
      refine ⟨fun h => WF.wide.depth h, ?_⟩
      -- behind yield
      have back : ∀ (bv : Bool) (g5 : Gh) (W5 : World) {s : Go.LoopState} {pe : Option Code} {H5 : List Obj}, X.Mem s pe H5 g5 W5 → ∀ K : Act → World → Prop, (∀ a4 W6 g6, X.Mem s pe H5 g6 W6 → Evo g5 W5 g6 W6 → 19 ≤ a4.tmps.size → a4.defers = [] → a4.tmps.getD 18 Go.undef = .bool (!bv) → a4.tmps.getD 0 Go.undef = X.yv → a4.tmps.getD 1 Go.undef = a3.tmps.getD 1 Go.undef → a4.tmps.getD 3 Go.undef = .int .i64 i → K a4 W6) →
          ∀ Q' : Exit → Act → World → Prop, (∀ a W, K a W → Q' .normal a W) → Go.wpOpsIn Fence.wide (m - 1) P (qbB tS tE tY tI tB t0) Q' [7] (a3.put (some 17) (.bool bv)) W5 := by
        intro bv g5 W5 s pe H5 hM5 K hK Q' hQ'
        have h17 : (a3.put (some 17) (.bool bv)).tmps.getD 17 Go.undef = .bool bv := by
          show (a3.tmps.setIfInBounds 17 (.bool bv)).getD 17 Go.undef = _
          simp only [Array.getD_eq_getD_getElem?]
          rw [Array.getElem?_setIfInBounds_self_of_lt (by omega)]; rfl
        have hge : ∀ k, k ≠ 17 → (a3.put (some 17) (.bool bv)).tmps.getD k Go.undef = a3.tmps.getD k Go.undef := fun k hk => qjk (by intro e; cases e; exact hk rfl)
        rw [show [7] = List.range' 7 ((qbB tS tE tY tI tB t0).toList.drop 7).length ++ [] from rfl]
        refine qfl (nt := 19) qeF .wide _ 7 [] _ ⟨[(17, .d (.b bv))], H5, 0⟩ g5 W5 (fun _ => 0) _ (fun k o hk => ?_) (qr4 (M := M) u5) (ql7 rfl) (fun _ _ => .inl rfl) (by rw [qa3]; exact sz3) .nrm _ qqA
          (qiI hM5.h (qf7 (fun p hp => ?_))) _ (fun a4 W6 hg6 hfr6 _ => hQ' a4 W6 ?_) (fun x a' w' _ hne => absurd rfl hne)
        · match k, hk with
          | 0, hk => exact hk
          | k + 1, hk => cases hk
        · simp only [List.mem_cons, List.not_mem_nil, or_false] at hp
          subst hp
          show RepS M g5 W5 _ ((a3.put (some 17) (.bool bv)).tmps.getD 17 _); rw [h17]; exact .d _ _ (.b _)
        obtain ⟨⟨g6, β6, hR6, hE6, hD6⟩, hs6, hd6⟩ := hg6
        refine hK a4 W6 g6 (hM5.evo hE6 hR6.toH) hE6 (by rw [hs6, qa3]; exact sz3) ((hd6 trivial).trans df3) (qmM (qk0 hR6 (k := 18) rfl rfl)) ?_ ?_ ?_
        · exact (hfr6 0 (qee rfl)).trans ((hge 0 (by omega)).trans g0)
        · exact (hfr6 1 (qee rfl)).trans (hge 1 (by omega))
        · exact (hfr6 3 (qee rfl)).trans ((hge 3 (by omega)).trans g3')
      have he5 : ∃ e5 st2, ex X.b st1 = some (e5, st2) ∧ (e5 = .nrm ∨ e5 = .ret ∨ ∃ j, e5 = .exit j) ∧ (e5 = .nrm → rounds (ex X.a) (ex X.b) X.l X.c X.p0 X.p1 X.base i st2.H st2.lo = some (X.e, X.st')) ∧ (e5 ≠ .nrm → X.e = e5 ∧ X.st' = ⟨X.base, st2.H, st2.lo⟩) := by
        rcases hx2 with ⟨st2, k1, k2⟩ | ⟨e5, st2, k1, k2, k3⟩
        · exact ⟨.nrm, st2, k1, .inl rfl, fun _ => k2, fun h => absurd rfl h⟩
        · have k3 := Prod.mk.inj k3
          rcases k2 with rfl | ⟨j, rfl⟩
          · exact ⟨.ret, st2, k1, .inr (.inl rfl), (fun h => by cases h), fun _ => k3⟩
          · exact ⟨.exit j, st2, k1, .inr (.inr ⟨j, rfl⟩), (fun h => by cases h), fun _ => k3⟩
      obtain ⟨e5, st2, hxb, hek, hgo, hend⟩ := he5
      refine round he hx1 hxb hek hM3 h12 h16 (fun hnrm g5 W5 hM5 hrep => ?_) (fun hne g5 W5 hM5 => ?_)
      · -- on
        have hr2 := hgo hnrm
        refine back true g5 W5 hM5 (fun a4 W6 => ∃ g6, X.Mem .ready none st2.H g6 W6 ∧ RepS M g6 W6 X.c (a4.tmps.getD 1 Go.undef) ∧ 19 ≤ a4.tmps.size ∧ a4.defers = [] ∧ a4.tmps.getD 18 Go.undef = .bool false ∧ a4.tmps.getD 0 Go.undef = X.yv ∧ a4.tmps.getD 3 Go.undef = .int .i64 i)
          (fun a4 W6 g6 k1 k2 k3 k4 k5 k6 k7 k8 => ⟨g6, k1, by rw [k7]; exact qed k2 (hrep _ _ hc3), k3, k4, k5, k6, k8⟩) _ (fun a4 W6 hK => ?_)
        obtain ⟨g6, k1, k2, k3, k4, k5, k6, k8⟩ := hK
        show (Code.cond (.tmp 18) .ret .skip).wpIn _ _ _ _ a4 W6
        refine Go.wpIn_cond_false k5 (Go.wpIn_skip ?_)
        -- one less
        show (Code.region 2 (qdy tI) false).wpIn _ _ _ _ a4 W6
        refine Go.wpIn_region ?_
        rw [show (qdy tI).size = 3 from rfl, show List.range 3 = List.range' 0 (qdy tI).toList.length ++ [] from rfl]
        refine qfl (nt := 19) qeF .wide (qdy tI).toList 0 [] _ ⟨[(3, .d (.i .i64 (i : Int))), (1, X.c)], st2.H, st2.lo⟩ g6 W6 (fun _ => 0) a4 (fun k o hk => by simpa using hk) (qtY (M := M) u4) (ql7 rfl) (fun _ _ => .inl rfl) k3 .nrm _ qtc
          (qiI k1.h (qf7 (fun p hp => ?_))) _ (fun a5 W7 hg7 hfr7 _ => ?_) (fun x a' w' _ hne => absurd rfl hne)
        · simp only [List.mem_cons, List.not_mem_nil, or_false] at hp
          rcases hp with rfl | rfl
          · show RepS M g6 W6 _ (a4.tmps.getD 3 _); rw [k8]; exact .d _ _ (.i _ _)
          · exact k2
        obtain ⟨⟨g7, β7, hR7, hE7, hD7⟩, hs7, hd7⟩ := hg7
        have hle := hi.le
        have hwr : wr .i64 ((i : Int) - 1) = (i : Int) - 1 := qut (by omega) (by omega)
        have hBI : BI X n i a5 W7 := ⟨by rw [hs7]; exact k3, (hd7 trivial).trans k4, (hfr7 0 (qee rfl)).trans k6, by
            have := qkU (qk0 hR7 (k := 3) (v := .d (.i .i64 (wr .i64 ((i : Int) - 1)))) rfl rfl)
            rw [hwr] at this; exact this, by omega, g7, st2.H, st2.lo, k1.evo hE7 hR7.toH, by rw [hfr7 1 (qee rfl)]; exact qed hE7 k2, hr2⟩
        exact ⟨⟨i, hBI⟩, Nat.lt_succ_of_le (qg0 (p := fun i => BI X n i a5 W7) hBI).2⟩
      · -- out
        obtain ⟨hxe, hxs⟩ := hend hne
        refine back false g5 W5 hM5 (fun a4 W6 => ∃ g6, X.Mem .done (qpZ e5) st2.H g6 W6 ∧ a4.defers = [] ∧ a4.tmps.getD 18 Go.undef = .bool true)
          (fun a4 W6 g6 k1 k2 k3 k4 k5 k6 k7 k8 => ⟨g6, k1, k4, k5⟩) _ (fun a4 W6 hK => ?_)
        obtain ⟨g6, k1, k4, k5⟩ := hK
        show (Code.cond (.tmp 18) .ret .skip).wpIn _ _ _ _ a4 W6
        refine Go.wpIn_cond_true k5 (Go.wpIn_ret ?_)
        exact ⟨k4, _, res _ _, qyi hQ k1 (by simp) hxs (by rw [hxe]) (hxe ▸ hek) _⟩
    · cases hv
theorem iter {m : Nat} {Q : Exit → Act → World → Prop} (he : qf5 P M ex) {tS tE tY tI tB t0 : TypeId} (u1 : P.underlying tS = some (.slice tE)) (u2 : lay P tS = some ⟨1, false⟩) (u3 : lay P tE = some X.l) (u4 : P.underlying tI = some (.int .i64)) (u5 : P.underlying tB = some .bool)
    {fn2 : Func} (q5 : fn2.results = #[]) (hQ : ∀ x a' w', Post False M X.g X.w X.act X.e X.st' x a' w' → Q x a' w') {n : Nat} {H : List Obj} {lo : Nat} (hcount : qbt X.c H lo = some n) (hrounds : rounds (ex X.a) (ex X.b) X.l X.c X.p0 X.p1 X.base n H lo = some (X.e, X.st'))
    {g1 : Gh} {W1 : World} (hM : X.Mem .ready none H g1 W1) {cvl : Value} (hc1 : RepS M g1 W1 X.c cvl) {aB : Act} (hsz : 19 ≤ aB.tmps.size) (hdf : aB.defers = []) (ht0 : aB.tmps.getD 0 Go.undef = X.yv) (ht1 : aB.tmps.getD 1 Go.undef = cvl) :
    (qpJ tS tE tY tI tB t0).wpIn Fence.wide (m - 1) P (Go.bodyPost P fn2 (qyK X m Q)) aB W1 := by
  unfold qbt at hcount
  split at hcount
  · rename_i sta hsta
    split at hcount
    · rename_i n0 hn0
      rw [qDH] at hcount
      split at hcount
      · rename_i hbd
        simp only [Option.some.injEq] at hcount
        simp only [qDB] at hbd
        have hb1 := Nat.le_of_ble_eq_true hbd.1
        have hb2 : 0 ≤ n0 + 1 := by
          have h2 := hbd.2
          cases hz : n0 + 1 with
          | ofNat q => exact Int.natCast_nonneg q
          | negSucc q => rw [hz] at h2; cases h2
        refine Go.wpIn_seq (Go.wpIn_region ?_)
        rw [show (qfG tS tI).size = 4 from rfl, show List.range 4 = List.range' 0 (qfG tS tI).toList.length ++ [] from rfl]
        refine qfl (nt := 19) qeF .wide (qfG tS tI).toList 0 [] _ ⟨[(1, X.c)], H, lo⟩ g1 W1 (fun _ => 0) aB (fun k o hk => by simpa using hk) (qvm (M := M) u1 u2 u4) (ql7 rfl) (fun _ _ => .inl rfl) hsz .nrm _ hsta
          (qiI hM.h (qf7 (fun p hp => ?_))) _ (fun a1 W2 hg hfr _ => ?_) (fun x a' w' _ hne => absurd rfl hne)
        · simp only [List.mem_cons, List.not_mem_nil, or_false] at hp
          subst hp
          show RepS M g1 W1 _ (aB.tmps.getD 1 _); rw [ht1]; exact hc1
        obtain ⟨⟨g2, β2, hR2, hE2, hD2⟩, hs2, hd2⟩ := hg
        obtain ⟨_, bH, bLo, _⟩ := qfc qcF (fun q hq => by
          simp only [qcF, List.mem_cons, List.not_mem_nil, or_false] at hq
          rcases hq with rfl | rfl | rfl | rfl <;> exact ⟨rfl, rfl⟩) hsta
        have bH : sta.H = H := bH
        have hM2 := hM.evo hE2 hR2.toH
        rw [bH] at hM2
        refine loop (X := X) he u1 u2 u3 u4 u5 q5 hQ (n := n) (by omega) ⟨by rw [hs2]; exact hsz, (hd2 trivial).trans hdf, (hfr 0 (qee rfl)).trans ht0, ?_, qDx _, g2, H, lo, hM2, ?_, hrounds⟩
        · have := qkU (qk0 hR2 hn0 rfl)
          rw [this]
          congr 1
          omega
        · rw [hfr 1 (qee rfl), ht1]
          exact qed hE2 hc1
      · cases hcount
    · cases hcount
  · cases hcount
end RCtx
theorem qtu {a b u : Value} {k : Nat} : (#[a, b] ++ Array.replicate k u).getD 0 Go.undef = a := by simp [Array.getD_eq_getD_getElem?, Array.getElem?_append]
theorem qs9 {a b u : Value} {k : Nat} : (#[a, b] ++ Array.replicate k u).getD 1 Go.undef = b := by simp [Array.getD_eq_getD_getElem?, Array.getElem?_append]
theorem qvS {a b u : Value} : 19 ≤ (#[a, b] ++ Array.replicate (19 - (#[a, b] : Array Value).size) u).size := by simp
theorem qoG (hB : qpY P M) (he : qf5 P M ex) : qpw P M ex := by
  intro k l f f' p0 p1 live x y a b A blk hk hf hx hy hnx hny c st n e st' hfn hcok hcount hrounds g w β act nt hp0 hp1 hdx hdy hnt hR m Q hQ
  have h1 := jn hR hf
  rw [hfn] at h1
  generalize hfe : act.eval f = fc at h1
  cases h1 with
  | s h1 => cases h1 with
    | fn _ f2 _ _ fv cv hlook hr1 hr2 =>
      have hfv : fv = #[] := by
        apply Array.ext'
        generalize fv.toList = q at hr1
        cases hr1; rfl
      subst hfv
      obtain ⟨cvl, hcv, hcr⟩ : ∃ cvl, cv = #[cvl] ∧ RepS M g w c cvl := by
        generalize hq : cv.toList = q at hr2
        cases hr2 with
        | cons _ v _ _ h hl => cases hl; exact ⟨v, by apply Array.ext'; simpa using hq, h⟩
      subst hcv
      obtain ⟨tS, tE, tY, tI, tB, t0, fn2, q1, q2, q3, q4, q5, u1, u2, u3, u4, u5⟩ := hB f2 k l hlook hk
      refine Go.wpIn_rangeFunc (fun fid _ => ?_)
      let X : RCtx P M ex := { l, c, hc := hcok, p0, p1, base := qa4 live st.env, a, b, x, y, A, blk, hx, hy, hnx, hny, nt, hp0, hp1, hdx, hdy, e, st', g, w, act, hnt, hbase := qs7 hR live, fid }
      let W1 : World := (w.alloc (.deferred (some []))).alloc (.loop (X.rc .ready none))
      have hRa := hR.alloc none 0 (.deferred (some []))
      have hRb := hRa.alloc none 0 (.loop (X.rc .ready none))
      have hE1 := (qdq hR.fr none 0 (.deferred (some []))).trans (qdq hRa.fr none 0 (.loop (X.rc .ready none)))
      have hsz : (w.alloc (.deferred (some []))).heap.size = w.heap.size + 1 := by simp
      have hM : X.Mem .ready none st.H _ W1 := ⟨hRb.toH, hE1, by
          have := qa2 (w.alloc (.deferred (some []))) (.loop (X.rc .ready none))
          rwa [hsz] at this, by simp [Gh.withNew, RCtx.L', X], by
          refine (qak (w.alloc (.deferred (some []))) _ (by rw [hsz]; exact Nat.lt_succ_self _)).trans ?_
          exact qa2 w _, by simp [Gh.withNew, RCtx.D, X]⟩
      refine ⟨X.L', [{ target := .collected X.D, args := #[] }], W1, { target := .fn (.func f2) #[cvl], args := #[.func (.yield X.L') #[] #[]] }, W1, f2, #[.func (.yield X.L') #[] #[], cvl], W1, ?_, ?_, fun _ _ => trivial, ?_, fun h => WF.wide.depth h, ?_⟩
      · exact Go.run_enterLoop_outer _ _ _ _ _
      · have hres : (Go.resolve act.eval (Go.rangeCall f X.L') 0).run P W1 = (Go.Deferred.ofValue (.func (.func f2) #[] #[cvl]) #[.func (.yield X.L') #[] #[]]).run P W1 := by
          have hmap : Array.map act.eval #[.const (.func (.yield X.L') #[] #[])] = #[.func (.yield X.L') #[] #[]] := by simp [Act.eval]
          simp only [Go.resolve, hfe, hmap]
        rw [hres]; rfl
      · have hn : ¬ fn2.name = "runtime.NumGoroutine" := by simpa using q2
        simp [Go.invoke, Go.callFunc, q1, hn, q3]
      · refine Go.callsIn_of_wp q1 q3 trivial ?_
        rw [q4]
        exact RCtx.iter (X := X) he u1 u2 u3 u4 u5 q5 hQ hcount hrounds hM (qed hE1 hcr) qvS rfl qtu qs9
end
end W

/-
  A function's body, as its caller sees it.
-/
set_option linter.unusedSimpArgs false
set_option linter.unusedVariables false
namespace W
open Go (World Value Addr IntKind Program TypeId FuncId Operand Act Oper Next Result Sem BinOp UnOp Ending Exit Code Func Calls Fence)
section
variable {P : Program} {M : Maps} {g : Gh} {w : World} {β : Nat → Nat} {st : St} {a : Act}
theorem qpe : ∀ (vs : List V) (j k : Nat), get k (ya j vs) = if j ≤ k then (vs[k - j]?).getD .undef else .undef
  | [], j, k => by simp [ya, get]
  | v :: l, j, k => by
    simp only [ya, j8, qpe l (j + 1) k]
    by_cases h : k = j
    · subst h; simp
    · by_cases h2 : j + 1 ≤ k
      · have e : k - j = (k - (j + 1)) + 1 := by omega
        simp [h, h2, show j ≤ k by omega, e]
      · simp [h, h2, show ¬ j ≤ k by omega]
theorem ArgsRep.get : ∀ {vs : List V} {cs : List Value} {j : Nat}, ArgsRep M g w j vs cs → ∀ i v, vs[i]? = some v → ∃ c, cs[i]? = some c ∧ RepA M g w (j + i) v c
  | _, _, _, .nil _, i, v, h => by simp at h
  | _, _, j, .cons h hl, 0, v, hv => by simp at hv; subst hv; exact ⟨_, rfl, h⟩
  | _, _, j, .cons h hl, i + 1, v, hv => by
    obtain ⟨c, h1, h2⟩ := hl.get i v (by simpa using hv)
    exact ⟨c, by simpa using h1, by rwa [show j + 1 + i = j + (i + 1) by omega] at h2⟩
theorem ArgsRep.length : ∀ {vs : List V} {cs : List Value} {j : Nat}, ArgsRep M g w j vs cs → vs.length = cs.length
  | _, _, _, .nil _ => rfl
  | _, _, _, .cons h hl => by simp [hl.length]
theorem qmJ {H : List Obj} {vs : List V} {cs : List Value} (ha : ArgsRep M g w 0 vs cs) (hH : RelH M g w H) (n lo : Nat) :
    Rel M g w β { env := ya 0 vs, H := H, lo := lo } (cs.toArray ++ Array.replicate n Go.undef) := by
  refine ⟨hH.n, fun k => ?_, hH.h, hH.fresh, hH.gl⟩
  show RepT M g w β k (get k (ya 0 vs)) _
  rw [qpe]
  simp only [qDS, if_true, Nat.sub_zero]
  cases hv : vs[k]? with
  | none => exact .s (.undef _)
  | some v =>
    obtain ⟨c, h1, h2⟩ := ha.get k v hv
    have hlt : k < cs.length := (List.getElem?_eq_some_iff.1 h1).1
    have e : (cs.toArray ++ Array.replicate n Go.undef).getD k Go.undef = c := by
      rw [Array.getD_eq_getD_getElem?, Array.getElem?_append_left (by simpa using hlt)]
      simp [h1]
    rw [e]
    simp only [Option.getD_some, qDz] at h2 ⊢
    cases h2 with
    | s h => exact .s h
    | osl h => exact .osl h
def qr0 (tmps : Array Value) : Go.ResultVar → Sem Value
  | .tmp t => pure (tmps.getD t Go.undef)
  | .cell b t => do Go.loadVar t (← Go.asAddr (tmps.getD b Go.undef))
theorem qqj (fn : Func) (tmps : Array Value) : Go.results fn tmps = (do
    let vs ← fn.results.mapM (qr0 tmps)
    pure (if h : vs.size = 1 then vs[0] else .tuple vs)) := by
  rfl
theorem qlv (hR : Rel M g w β st a.tmps) {rv : Go.ResultVar} {r : Rv} (ht : qxP P rv = some r) {own : Bool} {v : V} (hv : qfe own st r = some v) (hl : v.leaves = true) :
    ∃ c, (qr0 a.tmps rv).run P w = .ok c w ∧
      (RepS M g w v c ∨ ∃ n xs, v = .osl xs ∧ OwnSl g w (.slot n) xs c) := by
  cases rv with
  | tmp t =>
    simp only [qxP, Option.some.injEq] at ht
    subst ht
    refine ⟨a.tmps.getD t Go.undef, rfl, ?_⟩
    simp only [qfe] at hv
    have he := hR.e t
    generalize get t st.env = x at he hv
    generalize a.tmps.getD t Go.undef = c at he
    cases he with
    | s h =>
      have hx : v = x ∨ v = copy x := by
        cases h <;> simp only [Option.some.injEq] at hv <;> cases own <;> simp only [cond_true, cond_false] at hv <;> first | exact .inl hv.symm | exact .inr hv.symm
      rcases hx with rfl | rfl
      · exact .inl h
      · exact .inl (qjj h)
    | osl h =>
      simp only [Option.some.injEq] at hv
      cases own with
      | true => simp only [cond_true] at hv; subst hv; exact .inr ⟨t, _, rfl, h⟩
      | false => simp only [cond_false, copy] at hv; subst hv; exact .inl (.d _ _ h.rep)
    | lp s off =>
      simp only [Option.some.injEq] at hv
      cases own <;> simp only [cond_true, cond_false, copy] at hv <;> subst hv <;> simp [V.leaves, V.ok] at hl
    | cp x b off vs hr hc hp =>
      simp only [Option.some.injEq] at hv
      cases own <;> simp only [cond_true, cond_false, copy] at hv <;> subst hv <;> simp [V.leaves, V.ok] at hl
    | box cs arr T hb ho hp hl' hr => cases hv
  | cell b t =>
    simp only [qxP, Option.map_eq_some_iff] at ht
    obtain ⟨l, hlay, rfl⟩ := ht
    simp only [qfe] at hv
    have he := hR.e b
    split at hv
    · rename_i cs hbox
      rw [hbox] at he
      generalize htm : a.tmps.getD b Go.undef = c at he
      cases he with
      | s h => cases h
      | box _ arr T hb ho hp hl' hr =>
        obtain ⟨c, h1, h2⟩ := ql2 (P := P) hlay hb (Nat.le_of_eq hl') hr hv
        refine ⟨c, ?_, .inl h2⟩
        simp only [qr0, htm, Go.asAddr, Sem.run_bind, Sem.run_pure, Result.andThen_ok, h1]
    · rename_i id off hptr
      rw [hptr] at he
      generalize htm : a.tmps.getD b Go.undef = c at he
      have hld : qaW l st (.ptr id off) = some v := hv
      cases he with
      | s h =>
        obtain ⟨c', h1, h2⟩ := qli (P := P) (a := a) hlay hR (.s h) hld
        refine ⟨c', ?_, .inl h2⟩
        simp only [qr0, htm, Sem.run_bind]
        cases h with
        | ptr _ _ hid =>
          simp only [Go.asAddr, Sem.run_pure, Result.andThen_ok]
          simp only [Go.Instr.loadAt] at h1
          exact h1
    · cases hv
theorem qmg : ∀ {vs : List V}, V.ok.oks vs = true → ∀ v ∈ vs, v.ok = true
  | [], _, v, h => by simp at h
  | x :: l, h, v, hv => by
    simp only [V.ok.oks, qDB] at h
    rcases List.mem_cons.1 hv with e | hv
    · subst e; exact h.1
    · exact qmg h.2 v hv
theorem qnL {v : V} (h : v.ok = true) : v.leaves = true := by cases v <;> first | exact h | rfl
theorem qhQ (hR : Rel M g w β st a.tmps) {own : Bool} : ∀ {rvs : List Go.ResultVar} {rs : List Rv} {vs : List V}, qhb P rvs = some rs → qah own st rs = some vs → (∀ v ∈ vs, v.ok = true) →
    ∃ cs, (rvs.mapM (qr0 a.tmps)).run P w = .ok cs w ∧ RepSL M g w vs cs
  | [], rs, vs, ht, hv, _ => by
    simp only [qhb, Option.some.injEq] at ht
    subst ht
    simp only [qah, Option.some.injEq] at hv
    subst hv
    exact ⟨[], by simp, .nil⟩
  | rv :: rvs, rs, vs, ht, hv, hok => by
    simp only [qhb] at ht
    split at ht
    · rename_i r l hr hl
      simp only [Option.some.injEq] at ht
      subst ht
      simp only [qah] at hv
      split at hv
      · rename_i v hv1
        split at hv
        · rename_i vs' hv2
          simp only [Option.some.injEq] at hv
          subst hv
          have hvok := hok v (by simp)
          obtain ⟨c, h1, h2⟩ := qlv (P := P) hR hr hv1 (qnL hvok)
          obtain ⟨cs, h3, h4⟩ := qhQ hR hl hv2 (fun v hv => hok v (by simp [hv]))
          have h2' : RepS M g w v c := by
            rcases h2 with h | ⟨n, xs, rfl, _⟩
            · exact h
            · cases hvok
          refine ⟨c :: cs, ?_, .cons _ _ _ _ h2' h4⟩
          rw [List.mapM_cons]
          simp only [Sem.run_bind, h1, Result.andThen_ok, h3, Sem.run_pure]
        · cases hv
      · cases hv
    · cases ht
theorem qpf {H : List Obj} (h : RelH M g w H) {b n : Nat} (hb : g.own b = some (.slot n)) (hlt : b < w.heap.size) (ℓ : Option Loc) : RelH M (g.setOwn b ℓ) w H :=
  ⟨h.n, fun id o ho => (h.h id o ho).mono (qdV g w b ℓ) (qDx _) (fun _ _ => rfl) (by rw [h.n]; exact (List.getElem?_eq_some_iff.1 ho).1) (qbp ℓ hb (by simp)) (fun i => qbp ℓ hb (by simp)), fun x hx => by
    have : x ≠ b := by omega
    simpa [Gh.setOwn, this] using h.fresh x hx, h.gl.mono (qdV g w b ℓ)⟩
theorem qo9 {fn : Func} {rs : List Rv} (htr : qhb P fn.results.toList = some rs) (hR : Rel M g w β st a.tmps) {own : Bool} {vs : List V} (hv : qah own st rs = some vs) (hl : (qiz vs).leaves = true) :
    ∃ c g', (Go.results fn a.tmps).run P w = .ok c w ∧ RelH M g' w st.H ∧ Evo g w g' w ∧ RepA M g' w 0 (qiz vs) c := by
  have hm : ∀ cs, (fn.results.toList.mapM (qr0 a.tmps)).run P w = .ok cs w →
      (Go.results fn a.tmps).run P w = .ok (match cs with | [c] => c | cs => .tuple cs.toArray) w := by
    intro cs h
    rw [qqj, Array.mapM_eq_mapM_toList]
    simp only [Sem.run_bind, map_eq_pure_bind, h, Result.andThen_ok, Sem.run_pure]
    rcases cs with _ | ⟨c, _ | ⟨c2, cs⟩⟩ <;> simp
  by_cases h1 : ∃ v, vs = [v]
  · obtain ⟨v, rfl⟩ := h1
    simp only [qiz] at hl ⊢
    -- one
    cases hrs : fn.results.toList with
    | nil =>
      rw [hrs] at htr
      simp only [qhb, Option.some.injEq] at htr
      subst htr
      simp [qah] at hv
    | cons rv l =>
      rw [hrs] at htr
      simp only [qhb] at htr
      split at htr
      · rename_i r rl hr hrl
        simp only [Option.some.injEq] at htr
        subst htr
        simp only [qah] at hv
        split at hv
        · rename_i v1 hv1
          split at hv
          · rename_i vs' hv2
            simp only [Option.some.injEq, List.cons.injEq] at hv
            obtain ⟨rfl, rfl⟩ := hv
            obtain ⟨c, k1, k2⟩ := qlv (P := P) hR hr hv1 hl
            obtain ⟨cs, k3, k4⟩ := qhQ hR hrl hv2 (by simp)
            cases k4
            have hrun := hm [c] (by rw [hrs, List.mapM_cons]; simp only [Sem.run_bind, k1, Result.andThen_ok, k3, Sem.run_pure])
            rcases k2 with k2 | ⟨n, xs, rfl, k2⟩
            · exact ⟨c, g, hrun, hR.toH, Evo.refl g w, .s k2⟩
            · rcases k2.setOwn with ⟨b, hb, hlt, hv'⟩ | hv'
              case inr => exact ⟨c, g, hrun, hR.toH, Evo.refl g w, .osl (hv' _)⟩
              exact ⟨c, g.setOwn b (some (.slot 0)), hrun, qpf hR.toH hb hlt _, qfA _ hb (by simp), .osl (hv' _)⟩
          · cases hv
        · cases hv
      · cases htr
  · have e : qiz vs = .tup vs := by
      rcases vs with _ | ⟨v, _ | ⟨v2, vs⟩⟩
      · rfl
      · exact absurd ⟨v, rfl⟩ h1
      · rfl
    rw [e] at hl ⊢
    have hok : V.ok.oks vs = true := by simpa [V.leaves, V.ok] using hl
    obtain ⟨cs, k1, k2⟩ := qhQ hR htr hv (qmg hok)
    have hlen := k2.length
    refine ⟨.tuple cs.toArray, g, ?_, hR.toH, Evo.refl g w, .s (.tup _ _ (by simpa using k2))⟩
    rw [hm cs k1]
    rcases cs with _ | ⟨c, _ | ⟨c2, cs⟩⟩
    · rfl
    · exfalso
      apply h1
      match vs, hlen with
      | [v], _ => exact ⟨v, rfl⟩
    · rfl
end
def qCy (P : Program) (M : Maps) (pg : Pg) : Prop :=
  ∀ f' i, look M.fm f' = some i → ∀ fn', pg.fn i = some fn' → ∃ fn A own, P.funcs[f']? = some fn ∧ (fn.name == "runtime.NumGoroutine") = false ∧ zM M P A own fn = some fn'
def FOk (P : Program) (M : Maps) (n : Nat) (fn' : Fn) : Prop := ∃ fn A own, P.funcs[n]? = some fn ∧ (fn.name == "runtime.NumGoroutine") = false ∧ zM M P A own fn = some fn'
theorem kH {P : Program} {M : Maps} {n k : Nat} {x fn' : Fn} {rest : Option Fn} (hx : FOk P M k x) (hr : rest = some fn' → FOk P M n fn') (h : (bif qDG n k then some x else rest) = some fn') : FOk P M n fn' := by
  cases hb : qDG n k with
  | false => rw [hb] at h; exact hr h
  | true =>
    rw [hb] at h
    obtain rfl := qDR hb
    cases h
    exact hx
theorem qC2 {P : Program} {M : Maps} {n : Nat} {fn' : Fn} (h : (none : Option Fn) = some fn') : FOk P M n fn' := by cases h
def Tab (P : Program) (M : Maps) (pg : Pg) : Prop := qCy P M pg ∧ qpY P M
theorem qpz {P : Program} {M : Maps} {A : Ann} {own : Bool} {fn : Func} {fn' : Fn} (h : zM M P A own fn = some fn') :
    ∃ c x d hh rs, fn.body = some c ∧ qcH fn.ntmps c = true ∧ qnD M P A c = some (x, d, hh) ∧ qhb P fn.results.toList = some rs ∧ fn' = ⟨fn.params.size + fn.nfree, rs, own, x, d, hh⟩ := by
  unfold zM at h
  split at h
  · rename_i c hbody
    split at h
    · cases h
    · rename_i hdst
      split at h
      · rename_i x d hh rs hb hrs
        simp only [Option.some.injEq] at h
        exact ⟨c, x, d, hh, rs, hbody, by simpa using hdst, hb, hrs, h.symm⟩
      · cases h
  · cases h
theorem MarksOk.put {g : Gh} {w0 w : World} {ms : List Go.Deferred} (h : MarksOk g w0 w ms) {r : Nat} {o : Go.Obj} (hr : ∀ d ∈ ms, d.target ≠ .collected r) : MarksOk g w0 (w.putObj r o) ms := by
  induction h with
  | nil => exact .nil
  | cons r' ht hlo hb ho hf hl ih =>
    rename_i d ms
    have hne : r' ≠ r := fun e => hr d (by simp) (by rw [ht, e])
    exact .cons r' ht hlo ((Go.World.putObj_heap_other hne).trans hb) ho hf (ih (fun d' hd' => hr d' (by simp [hd'])))
theorem qfb {P : Program} {F : Fence} {n : Nat} {fn : Func} {tmps : Array Value} {R : Ending → World → Prop} {u : Go.FrameMode} {rest : List Go.Deferred} (hu : u ≠ .run) {g : Gh} {w0 : World} (J : World → Prop)
    (hJ : ∀ w r, J w → w.heap[r]? = some (.deferred (some [])) → g.own r = none → w0.heap.size ≤ r → J (w.putObj r (.deferred none))) (hrest : ∀ w, J w → Go.LeavesInM F n P fn tmps R rest u w) :
    ∀ (ms : List Go.Deferred) (w : World), MarksOk g w0 w ms → J w → Go.LeavesInM F n P fn tmps R (ms ++ rest) u w
  | [], w, _, h => hrest w h
  | d :: ms, w, .cons r ht hlo hb ho hf hl, h => by
    refine ⟨hu, .inl ⟨r, w.putObj r (.deferred none), ht, Go.run_takeDeferred hb, ?_⟩⟩
    exact qfb hu J hJ hrest ms _ (hl.put hf) (hJ w r h hb ho hlo)
section
variable {P : Program} {M : Maps} {g : Gh} {w : World}
theorem qi9 {fn : Func} {fn' : Fn} (hrs : qhb P fn.results.toList = some fn'.res) {H : List Obj} (hH : RelH M g w H) {st2 : St} (hlo : ∀ id, id < st2.lo → id < H.length → st2.H[id]? = H[id]?) {r : Cr} (hend : qa0 fn' H st2 = some r)
    {g2 : Gh} {w2 : World} {β2 : Nat → Nat} {a : Act} (hR : Rel M g2 w2 β2 st2 a.tmps) (hE : Evo g w g2 w2) {ms : List Go.Deferred} (hm : MarksOk g2 w w2 ms) : Go.LeavesInM Fence.wide 0 P fn a.tmps (jQ M g w r) ms .returning w2 := by
  have := qfb (P := P) (F := Fence.wide) (n := 0) (fn := fn) (tmps := a.tmps) (R := jQ M g w r) (u := .returning) (rest := []) (by simp) (g := g2) (w0 := w) (fun wx => Rel M g2 wx β2 st2 a.tmps ∧ Evo g w g2 wx)
    (fun wx r' h hb ho hl => ⟨qkI h.1 hb rfl rfl ho, qkH h.2 hl hb rfl rfl⟩) (fun wx h => ?_) ms w2 hm ⟨hR, hE⟩
  · rwa [List.append_nil] at this
  · obtain ⟨hRx, hEx⟩ := h
    obtain ⟨vs, hvs, hl⟩ := qkj hend
    have hlv : (qiz vs).leaves = true := by
      unfold leave at hl
      cases hq : (qiz vs).leaves with
      | true => rfl
      | false => simp [hq] at hl
    obtain ⟨v, g3, k1, k2, k3, k4⟩ := qo9 hrs hRx hvs hlv
    obtain ⟨h1, h2⟩ := qmj hH k2 (hEx.trans k3) hlo k4 hl
    exact ⟨v, k1, h1, h2⟩
theorem qnC {fn : Func} {H : List Obj} (hH : RelH M g w H) {st2 : St} (hlo : ∀ id, id < st2.lo → id < H.length → st2.H[id]? = H[id]?) {v : V} {r : Cr} (hend : leave H true v st2 = some r) {cv : Value}
    {g2 : Gh} {w2 : World} {β2 : Nat → Nat} {a : Act} (hR : Rel M g2 w2 β2 st2 a.tmps) (hE : Evo g w g2 w2) (hv : RepA M g2 w2 0 v cv) {ms : List Go.Deferred} (hm : MarksOk g2 w w2 ms) :
    Go.LeavesInM Fence.wide 0 P fn a.tmps (jQ M g w r) ms (.panicking [{ v := cv, recovered := false }]) w2 := by
  have := qfb (P := P) (F := Fence.wide) (n := 0) (fn := fn) (tmps := a.tmps) (R := jQ M g w r) (u := .panicking [{ v := cv, recovered := false }]) (rest := []) (by simp) (g := g2) (w0 := w) (fun wx => Rel M g2 wx β2 st2 a.tmps ∧ Evo g w g2 wx ∧ RepA M g2 wx 0 v cv)
    (fun wx r' h hb ho hl => ⟨qkI h.1 hb rfl rfl ho, qkH h.2.1 hl hb rfl rfl, ?_⟩) (fun wx h => ?_) ms w2 hm ⟨hR, hE, hv⟩
  · rwa [List.append_nil] at this
  · cases h.2.2 with
    | s hs => exact .s (hs.mono (qdz hb rfl rfl) (qDx _) (fun _ _ => rfl) hs.ref)
    | osl hs => exact .osl (hs.mono (qdz hb rfl rfl) (qgw ho _))
  · obtain ⟨hRx, hEx, hvx⟩ := h
    obtain ⟨h1, g3, h2, h3, h4⟩ := qmj hH hRx.toH hEx hlo hvx hend
    exact ⟨h1, g3, cv, rfl, h2, h3, h4⟩
theorem qnH {pg : Pg} (hT : Tab P M pg) {ex : C → St → Option (Ex × St)} (hlo : ∀ c st e st', ex c st = some (e, st') → LoOk st st') (he : qf5 P M ex) (hs : qkb ex)
    {fn : Func} {fn' : Fn} (hrs : qhb P fn.results.toList = some fn'.res) {H : List Obj} (hH : RelH M g w H) {h : Nat} {vs : List V} {v : V} {st' : St} (hlo' : ∀ id, id < st'.lo → id < H.length → st'.H[id]? = H[id]?) {r : Cr} (hh : handle pg ex fn' H h vs v st' = some r)
    {h' : FuncId} (hlook : look M.fm h' = some h) {fv cv : Array Value} {g2 : Gh} {w2 : World} {β2 : Nat → Nat} {a : Act} (hR : Rel M g2 w2 β2 st' a.tmps) (hE : Evo g w g2 w2) (hvs : RepSL M g2 w2 vs (fv ++ cv).toList) {ms : List Go.Deferred} (hm : MarksOk g2 w w2 ms)
    {u : Go.FrameMode} {pv : Value} (hv : RepS M g2 w2 v pv) (hu : (u = .returning ∧ pv = .nilIface) ∨ u = .panicking [{ v := pv, recovered := false }]) :
    Go.LeavesInM Fence.wide 0 P fn a.tmps (jQ M g w r) ({ target := .fn (.func h') cv, args := fv } :: ms) u w2 := by
  obtain ⟨hf, d, st2, k1, k2, k3, k4, k5, k6⟩ := qg6 hh
  obtain ⟨fnh, A, own, q1, q2, q3⟩ := hT.1 h' h hlook hf k1
  obtain ⟨c, x, dd, hh', rs, c1, c2, c3, c4, c5⟩ := qpz q3
  subst c5
  simp only at k2 k3 k4 k5
  subst k2
  subst k4
  have hres : fnh.results = #[] := by
    apply Array.ext'
    cases hq : fnh.results.toList with
    | nil => rfl
    | cons y l =>
      rw [hq] at c4
      simp only [qhb] at c4
      split at c4 <;> simp at c4
  have htr : trH M P A c = some (d, x) ∧ zD c = true := by
    unfold qnD at c3
    split at c3
    · split at c3
      · rename_i hnd
        split at c3
        · rename_i d' x' ht
          simp only [Option.some.injEq, Prod.mk.injEq] at c3
          obtain ⟨rfl, rfl, rfl⟩ := c3
          exact ⟨ht, hnd⟩
        · cases c3
      · cases c3
    · split at c3
      · split at c3 <;> simp at c3
      · split at c3 <;> simp at c3
  have hun : u ≠ .run := by rcases hu with ⟨rfl, _⟩ | rfl <;> simp
  have hinv : ∀ wx, (Go.invoke (.fn (.func h') cv) fv).run P wx = .ok (.enter h' (fv ++ cv)) wx := fun wx => by
    have hn : ¬ fnh.name = "runtime.NumGoroutine" := by simpa using q2
    simp [Go.invoke, Go.callFunc, q1, hn, c1]
  refine ⟨hun, .inr ⟨fun hd => WF.wide.depth hd, .func h', cv, h', fv ++ cv, rfl, hinv w2, fun _ _ => trivial, ?_⟩⟩
  refine Go.callsDIn_of_wpSIn q1 c1 trivial (fun c₀ cs hmode => ?_)
  have hargs : ArgsRep M (yi (qcy 0 []) g2) w2 0 vs (fv ++ cv).toList := qgT 0 hvs
  have hrel := qmJ (β := fun _ => 0) hargs (qkS (hand := qcy 0 []) hR.toH) (fnh.ntmps - (fv ++ cv).size) st'.lo
  have hrel' : Rel M (yi (qcy 0 []) g2) w2 (fun _ => 0) { env := ya 0 vs, H := st'.H, lo := st'.lo } ((fv ++ cv) ++ Array.replicate (fnh.ntmps - (fv ++ cv).size) Go.undef) := by
    have e : (fv ++ cv).toList.toArray = fv ++ cv := by simp
    rw [e] at hrel
    exact hrel
  have hsz : fnh.ntmps ≤ ((fv ++ cv) ++ Array.replicate (fnh.ntmps - (fv ++ cv).size) Go.undef).size := by simp only [Array.size_append, Array.size_replicate]; omega
  let u' : Go.FrameMode := match u with | .panicking [{ v, .. }] => .panicking [{ v, recovered := true }] | u => u
  have hset : Go.settle u' = .returning := by rcases hu with ⟨rfl, _⟩ | rfl <;> rfl
  have hrec : Go.recoverD (c₀ :: cs) = some (pv, { c₀ with mode := u' } :: cs) ∨ (Go.recoverD (c₀ :: cs) = none ∧ pv = .nilIface ∧ { c₀ with mode := u' } :: cs = c₀ :: cs) := by
    rcases hu with ⟨rfl, hp⟩ | rfl
    · refine .inr ⟨by simp [Go.recoverD, hmode], hp, ?_⟩
      show { c₀ with mode := Go.FrameMode.returning } :: cs = c₀ :: cs
      rw [← hmode]
    · exact .inl (by simp [Go.recoverD, hmode, u'])
  have main : ∀ (e3 : Ex), (e3 = .nrm ∨ e3 = .ret) → ex x ⟨(d, v) :: ya 0 vs, st'.H, st'.lo⟩ = some (e3, st2) → c.wpSIn Fence.wide 0 P (Go.bodyPostS P fnh c₀ cs fun
          | .returned _, u', w' => Go.LeavesInM Fence.wide 0 P fn a.tmps (jQ M g w r) ms (Go.settle u') w'
          | .panicked chain, u', w' => Go.LeavesInM Fence.wide 0 P fn a.tmps (jQ M g w r) ms (Go.raised u' chain) w'
          | .outgrown, _, w' => jQ M g w r .outgrown w') { tmps := (fv ++ cv) ++ Array.replicate (fnh.ntmps - (fv ++ cv).size) Go.undef, defers := [] } (c₀ :: cs) w2 := by
    intro e3 hen hrun
    refine qnP he hs htr.1 (st := ⟨ya 0 vs, st'.H, st'.lo⟩) hrun hen c2 hsz hrel' (qiK hv) hrec (fun z a3 w3 hp => ?_)
    have key : Good (zD c = true) M (yi (qcy 0 []) g2) w2 { tmps := (fv ++ cv) ++ Array.replicate (fnh.ntmps - (fv ++ cv).size) Go.undef, defers := [] } st2 a3 w3 →
        a3.defers = [] ∧ ∃ u'', { c₀ with mode := u' } :: cs = { c₀ with mode := u'' } :: cs ∧ ∃ v, (Go.results fnh a3.tmps).run P w3 = .ok v w3 ∧ Go.LeavesInM Fence.wide 0 P fn a.tmps (jQ M g w r) ms (Go.settle u'') w3 := by
      intro hg
      obtain ⟨⟨g3, β3, r1, r2, _⟩, _, r5⟩ := hg
      refine ⟨r5 htr.2, u', rfl, .tuple #[], by simp [Go.results, hres], ?_⟩
      rw [hset]
      have hR4 := hR.restRel (os := []) (j := 0) r2 r1.toH (lo := st2.lo) none
      have hE4 : Evo g2 w2 (qc6 (qcy 0 []) none g2 g3) w3 := qhR hR.fr r2
      refine qi9 hrs hH (fun id h1 h2 => ?_) k6 hR4 (hE.trans hE4) (hm.mono hE4)
      have hl := hlo _ _ _ _ hrun
      have h1 : id < st2.lo := h1
      have := hl.old id h1 (Nat.lt_of_lt_of_le h2 ?_)
      · exact this.trans (hlo' id (Nat.lt_of_lt_of_le h1 hl.lo) h2)
      · have := hR.n
        have := hE.n
        have := hH.n
        simp only at *
        omega
    rcases hen with rfl | rfl
    · cases z with
      | normal => exact key hp
      | _ => exact hp.elim
    · cases z with
      | ret => exact key hp
      | _ => exact hp.elim
  rcases k5 with k5 | k5
  · exact main .nrm (.inl rfl) k5
  · exact main .ret (.inr rfl) k5
end
theorem qhS {P : Program} {M : Maps} {pg : Pg} (hT : Tab P M pg) {ex : C → St → Option (Ex × St)} (hlo : ∀ c st e st', ex c st = some (e, st') → LoOk st st') (he : qf5 P M ex) (hs : qkb ex)
    {i : Nat} {vs : List V} {H : List Obj} {r : Cr} (hcall : js pg ex i vs H = some r) {f' : FuncId} (hlook : look M.fm f' = some i) (hext : pg.fn i ≠ none) {g : Gh} {w : World} {argv : List Value} (hargs : ArgsRep M g w 0 vs argv) (hH : RelH M g w H) :
    Calls P f' argv.toArray w (jQ M g w r) ∧ (Go.callFunc f' argv.toArray).run P w = .ok (.enter f' argv.toArray) w := by
  unfold js at hcall
  split at hcall
  · rename_i hn; exact absurd hn hext
  · rename_i fn' hfn'
    obtain ⟨fn, A, own, hf, hname, htr⟩ := hT.1 f' i hlook fn' hfn'
    obtain ⟨c, x, dd, hh, rs, hbody, hdst, hb, hrs, rfl⟩ := qpz htr
    simp only at hcall
    split at hcall
    · rename_i hnp
      obtain ⟨hnp, hhn⟩ := hnp
      subst hhn
      have hrel := qmJ (β := fun _ => 0) hargs hH (fn.ntmps - argv.toArray.size) H.length
      have hsize : fn.ntmps ≤ (argv.toArray ++ Array.replicate (fn.ntmps - argv.toArray.size) Go.undef).size := by simp; omega
      have main : c.wpIn Fence.wide 0 P (Go.bodyPostM Fence.wide 0 P fn (jQ M g w r)) { tmps := argv.toArray ++ Array.replicate (fn.ntmps - argv.toArray.size) Go.undef, defers := [] } w →
          Calls P f' argv.toArray w (jQ M g w r) ∧ (Go.callFunc f' argv.toArray).run P w = .ok (.enter f' argv.toArray) w := by
        intro hwp
        refine ⟨Go.callsIn_wide.1 (Go.callsIn_of_wp_marks (args := argv.toArray) hf hbody trivial hwp), ?_⟩
        have hn : ¬ fn.name = "runtime.NumGoroutine" := by simpa using hname
        simp [Go.callFunc, hf, hn, hbody]
      apply main
      have old : ∀ {st : St} {e : Ex}, ex x { env := ya 0 vs, H, lo := H.length } = some (e, st) → ∀ id, id < st.lo → id < H.length → st.H[id]? = H[id]? := fun h id h1 h2 => (hlo _ _ _ _ h).old id h1 h2
      -- an end ahead of any 'defer', or without one
      have endR : ∀ {e : Ex} {st : St}, ex x { env := ya 0 vs, H, lo := H.length } = some (e, st) → qa0 ⟨fn.params.size + fn.nfree, rs, own, x, dd, none⟩ H st = some r → ∀ a' w', Good False M g w { tmps := argv.toArray ++ Array.replicate (fn.ntmps - argv.toArray.size) Go.undef, defers := [] } st a' w' →
          Go.LeavesInM Fence.wide 0 P fn a'.tmps (jQ M g w r) a'.defers .returning w' := by
        intro e st hrun hend a' w' hg
        obtain ⟨⟨g1, β1, hR1, hE1, ms, hms, hmk⟩, _, _⟩ := hg
        rw [hms, List.append_nil]
        exact qi9 (fn' := ⟨fn.params.size + fn.nfree, rs, own, x, dd, none⟩) hrs hH (old hrun) hend hR1 hE1 hmk
      have endP : ∀ {v : V} {st : St}, ex x { env := ya 0 vs, H, lo := H.length } = some (.pan v, st) → leave H true v st = some r → ∀ ch a' w', BadEnd False M g w { tmps := argv.toArray ++ Array.replicate (fn.ntmps - argv.toArray.size) Go.undef, defers := [] } v st ch a' w' →
          Go.LeavesInM Fence.wide 0 P fn a'.tmps (jQ M g w r) a'.defers (.panicking ch) w' := by
        intro v st hrun hend ch a' w' hg
        obtain ⟨⟨g1, cv, β1, rfl, hR1, hE1, hv, ms, hms, hmk⟩, _, _⟩ := hg
        rw [hms, List.append_nil]
        exact qnC hH (old hrun) hend hR1 hE1 hv hmk
      unfold qnD at hb
      split at hb
      · split at hb
        · split at hb <;> simp at hb
        · cases hb
      · split at hb
        · -- a deferred closure
          split at hb
          · rename_i pre t post htD
            simp only [Option.some.injEq, Prod.mk.injEq] at hb
            obtain ⟨rfl, rfl, _⟩ := hb
            split at hcall
            · rename_i st hrun
              simp only at hcall
              obtain ⟨h, first, cap, e, st', v, k1, k2, k3, k4, k5⟩ := qfp hcall
              refine qi4 he hs htD hrun hdst hsize hrel (fun hne => absurd rfl hne) (fun _ => ⟨h, first, cap, e, st', k1, k2, k3, fun z a' w' hp => ?_⟩)
              obtain ⟨g1, w1, a1, ds1, h', fv, cv, q1, q2, q3, q4, q5, ⟨ms0, q6, q6'⟩, q7, q8⟩ := hp
              have q6 : ds1 = ms0 := by simpa using q6
              subst q6
              have hlo2 : ∀ id, id < st'.lo → id < H.length → st'.H[id]? = H[id]? := fun id h1 h2 => by
                have l1 := hlo _ _ _ _ hrun
                have l2 := hlo _ _ _ _ k3
                exact (l1.trans l2).old id h1 h2
              -- behind the rest: marks, the closure, marks
              have fin : ∀ {g2 : Gh} {β2 : Nat → Nat} {u : Go.FrameMode} {pv : Value}, Rel M g2 w' β2 st' a'.tmps → Evo g1 w1 g2 w' → DefOk g2 w1 w' a1.defers a'.defers → RepS M g2 w' v pv → ((u = .returning ∧ pv = .nilIface) ∨ u = .panicking [{ v := pv, recovered := false }]) →
                  Go.LeavesInM Fence.wide 0 P fn a'.tmps (jQ M g w r) a'.defers u w' := by
                intro g2 β2 u pv hR2 hE2 hD2 hv hu
                obtain ⟨ms, hms, hmk⟩ := hD2
                rw [hms, q7]
                have hun : u ≠ .run := by rcases hu with ⟨rfl, _⟩ | rfl <;> simp
                have hsl : RepSL M g1 w1 (first ++ cap) (fv ++ cv).toList := by
                  rw [Array.toList_append]; exact q2.append q3
                refine qfb hun (g := g2) (w0 := w1) (fun wx => Rel M g2 wx β2 st' a'.tmps ∧ Evo g w g2 wx ∧ RepS M g2 wx v pv ∧ RepSL M g2 wx (first ++ cap) (fv ++ cv).toList ∧ MarksOk g2 w wx ds1)
                  (fun wx r' hx hb' ho' hl' => ⟨qkI hx.1 hb' rfl rfl ho', qkH hx.2.1 (Nat.le_trans q4.size hl') hb' rfl rfl, ?_, ?_, ?_⟩) (fun wx hx => ?_) ms w' hmk ⟨hR2, q4.trans hE2, hv, ?_, q6'.mono hE2⟩
                · exact hx.2.2.1.mono (qdz hb' rfl rfl) (qDx _) (fun _ _ => rfl) hx.2.2.1.ref
                · exact hx.2.2.2.1.mono (qdz hb' rfl rfl) (qDx _) (fun _ _ => rfl) hx.2.2.2.1.ref
                · refine hx.2.2.2.2.put (fun d hd => ?_)
                  obtain ⟨r0, hr0, _, hlt⟩ := q6'.lt d hd
                  rw [hr0]
                  intro e
                  cases e
                  omega
                · exact qnH (fn' := ⟨fn.params.size + fn.nfree, rs, own, pre, some (t, post), none⟩) hT hlo he hs hrs hH hlo2 k4 q1 hx.1 hx.2.1 hx.2.2.2.1 hx.2.2.2.2 hx.2.2.1 hu
                · exact hsl.mono hE2.toGrow hE2.n hE2.φ hsl.ref
              rcases k5 with ⟨hen, rfl⟩ | ⟨rfl, hi⟩
              · have good : Good False M g1 w1 a1 st' a' w' → Go.LeavesInM Fence.wide 0 P fn a'.tmps (jQ M g w r) a'.defers .returning w' := fun hg => by
                  obtain ⟨⟨g2, β2, hR2, hE2, hD2⟩, _, _⟩ := hg
                  exact fin hR2 hE2 hD2 (.d _ _ .ni) (.inl ⟨rfl, rfl⟩)
                rcases hen with rfl | rfl
                · cases z with
                  | normal => exact good q8
                  | _ => exact q8.elim
                · cases z with
                  | ret => exact good q8
                  | _ => exact q8.elim
              · cases z with
                | panic ch =>
                  obtain ⟨⟨g2, pv, β2, rfl, hR2, hE2, hv, hD2⟩, _, _⟩ := (q8 : BadEnd False M g1 w1 a1 v st' ch a' w')
                  cases hv with
                  | s hv => exact fin hR2 hE2 hD2 hv (.inr rfl)
                  | osl hv => cases hi
                | _ => exact q8.elim
            · rename_i st hrun
              refine qi4 he hs htD hrun hdst hsize hrel (fun _ z a' w' hp => ?_) (fun h => by cases h)
              cases z with
              | ret => exact endR hrun hcall a' w' hp
              | _ => exact hp.elim
            · rename_i v st hrun
              refine qi4 he hs htD hrun hdst hsize hrel (fun _ z a' w' hp => ?_) (fun h => by cases h)
              cases z with
              | panic ch => exact endP hrun hcall ch a' w' hp
              | _ => exact hp.elim
            · cases hcall
          · cases hb
        · split at hb
          · rename_i x' hc
            simp only [Option.some.injEq, Prod.mk.injEq] at hb
            obtain ⟨rfl, rfl, _⟩ := hb
            split at hcall
            · rename_i st hrun
              refine he A 0 c x' hc _ .nrm st hrun g w _ { tmps := argv.toArray ++ Array.replicate (fn.ntmps - argv.toArray.size) Go.undef, defers := [] } fn.ntmps hdst hsize hrel Fence.wide 0 .wide (.inl rfl) _ (fun z a' w' hp => ?_)
              cases z with
              | normal => exact endR hrun hcall a' w' (Good.weak (fun h => h.elim) hp)
              | _ => exact hp.elim
            · rename_i st hrun
              refine he A 0 c x' hc _ .ret st hrun g w _ { tmps := argv.toArray ++ Array.replicate (fn.ntmps - argv.toArray.size) Go.undef, defers := [] } fn.ntmps hdst hsize hrel Fence.wide 0 .wide (.inl rfl) _ (fun z a' w' hp => ?_)
              cases z with
              | ret => exact endR hrun hcall a' w' (Good.weak (fun h => h.elim) hp)
              | _ => exact hp.elim
            · rename_i v st hrun
              refine he A 0 c x' hc _ (.pan v) st hrun g w _ { tmps := argv.toArray ++ Array.replicate (fn.ntmps - argv.toArray.size) Go.undef, defers := [] } fn.ntmps hdst hsize hrel Fence.wide 0 .wide (.inl rfl) _ (fun z a' w' hp => ?_)
              cases z with
              | panic ch =>
                have hp : BadEnd _ M g w _ v st ch a' w' := hp
                exact endP hrun hcall ch a' w' ⟨hp.r, hp.size, fun h => h.elim⟩
              | _ => exact hp.elim
            · cases hcall
          · cases hb
    · cases hcall
theorem qga {P : Program} {f' : FuncId} {args : Array Value} {w : World} {M : Maps} {g : Gh} {r : Cr} (h : Calls P f' args w (jQ M g w r) ∧ (Go.callFunc f' args).run P w = .ok (.enter f' args) w) : ql1 P f' args w (jQ M g w r) := by
  intro o a K Q hK hQ
  rw [h.2, Oper.upon_enter]
  refine h.1.mono (fun en w' hp => ?_)
  cases en with
  | returned v => exact hK v w' hp
  | panicked ch => exact hQ ch w' hp
  | outgrown => exact hp.elim
theorem qgZ {P : Program} {M : Maps} {pg : Pg} (hT : Tab P M pg) (hx : qa1 P M pg.ext) {ex : C → St → Option (Ex × St)} (hlo : ∀ c st e st', ex c st = some (e, st') → LoOk st st') (he : qf5 P M ex) (hs : qkb ex) :
    qa1 P M (js pg ex) := by
  intro i vs H r hcall f' hlook g w argv hargs hH
  cases hn : pg.fn i with
  | none =>
    have : pg.ext i vs H = some r := by
      unfold js at hcall
      rw [hn] at hcall
      exact hcall
    exact hx i vs H r this f' hlook g w argv hargs hH
  | some fn' => exact qga (qhS hT hlo he hs hcall hlook (by rw [hn]; simp) hargs hH)
end W

