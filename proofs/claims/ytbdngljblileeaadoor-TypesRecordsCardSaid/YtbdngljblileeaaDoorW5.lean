/-
  TypesRecords: part 5 of what the proof rests on (a value semantics for a part of the language, sound against the model; the walks).
-/
import Derived.Test.YtbdngljblileeaaDoorW4
/-
  What an operation looks at, and what it changes: those that change something.
-/
set_option linter.unusedSimpArgs false
set_option linter.unusedVariables false
namespace W
open Go (IntKind BinOp UnOp)
variable {st st2 : St} {r : Or}
theorem ones_noLp {v : V} (h : ∀ m o, v ≠ .lp m o) (n k : Nat) (e : Env) : noLp n ((k, v) :: e) = noLp n e := by
  cases v <;> first | rfl | exact absurd rfl (h _ _)
theorem f_mov {x : O} (h : eMov x st = some r) (e1 : rd st2.env x = rd st.env x) : ∃ r2, eMov x st2 = some r2 ∧ Fr (.mov x) st st2 r r2 := by
  simp only [eMov, ok, Option.some.injEq] at h ⊢
  subst h
  refine ⟨_, rfl, ?_⟩
  rw [e1]
  exact fr_spent (l := [x]) rfl (fun _ _ => ⟨rfl, rfl⟩) (fun h => h)
theorem f_alloc {loc : Bool} {z : List D} (h : eAlloc loc z st = some r) (eH : (!loc) = true → st2.H = st.H) : ∃ r2, eAlloc loc z st2 = some r2 ∧ Fr (.alloc loc z) st st2 r r2 := by
  cases loc with
  | true =>
    simp only [eAlloc, cond_true] at h ⊢
    obtain ⟨h1, h2⟩ := mk_pure (st2 := st2) h
    exact ⟨_, h2, fr_pure h1 rfl (fun s hs => by cases hs)⟩
  | false =>
    simp only [eAlloc, cond_false, okH, Option.some.injEq] at h ⊢
    subst h
    have e := eH rfl
    refine ⟨_, rfl, rfl, rfl, by rw [e], fun s hs => (by cases hs), fun s _ => rfl, fun s _ => rfl, fun h => (by cases h), fun _ => by rw [e], fun n => rfl, fun n => rfl⟩
theorem f_box {loc : Bool} {x : O} (h : eBox loc x st = some r) (e1 : rd st2.env x = rd st.env x) (eH : (!loc) = true → st2.H = st.H) : ∃ r2, eBox loc x st2 = some r2 ∧ Fr (.box loc x) st st2 r r2 := by
  simp only [eBox] at h ⊢
  rw [e1]
  split at h
  · cases h
  · rename_i hv
    (try rw [if_neg hv])
    cases loc with
    | true =>
      simp only [cond_true, ok, Option.some.injEq] at h ⊢
      subst h
      exact ⟨_, rfl, fr_spent (l := [x]) rfl (fun _ _ => ⟨rfl, rfl⟩) (fun h => h)⟩
    | false =>
      simp only [cond_false] at h ⊢
      split at h
      · rename_i hv2
        (try rw [if_pos hv2])
        simp only [okH, Option.some.injEq] at h ⊢
        subst h
        have e := eH rfl
        rw [e]
        exact ⟨_, rfl, fr_spent (l := [x]) rfl (fun h => by cases h) (fun h => rfl)⟩
      · cases h
theorem f_mkMap (h : eMkMap st = some r) (eH : st2.H = st.H) : ∃ r2, eMkMap st2 = some r2 ∧ Fr .mkMap st st2 r r2 := by
  simp only [eMkMap, okH, Option.some.injEq] at h ⊢
  subst h
  refine ⟨_, rfl, rfl, rfl, by rw [eH], fun s hs => (by cases hs), fun s _ => rfl, fun s _ => rfl, fun h => (by cases h), fun _ => by rw [eH], fun n => rfl, fun n => rfl⟩
theorem f_mkSlice {z : D} {a b : O} (h : eMkSlice z a b st = some r) (e1 : rd st2.env a = rd st.env a) (e2 : rd st2.env b = rd st.env b) (eH : st2.H = st.H) : ∃ r2, eMkSlice z a b st2 = some r2 ∧ Fr (.mkSlice z a b) st st2 r r2 := by
  unfold eMkSlice at h ⊢
  rw [e1, e2]
  split at h
  · rename_i hz1 hz2; (try simp only [hz1, hz2])
    split at h
    · rename_i hw; (try simp only [hw])
      split at h
      · rename_i hq; (try simp only [hq, if_true])
        simp only [okH, Option.some.injEq] at h
        subst h
        (try rw [if_pos hw])
        refine ⟨_, rfl, rfl, rfl, by rw [eH, hq], fun s hs => (by cases hs), fun s _ => rfl, fun s _ => rfl, fun h => (by cases h), fun _ => by rw [eH, hq], fun n => rfl, fun n => rfl⟩
      · cases h
    · cases h
  · cases h
theorem f_buildRow {z : D} {n : Nat} {p : List (Nat × O)} (h : eBuildRow z n p st = some r) (e : (p.map fun (j, x) => (j, rd st2.env x)) = (p.map fun (j, x) => (j, rd st.env x))) (eH : st2.H = st.H) : ∃ r2, eBuildRow z n p st2 = some r2 ∧ Fr (.buildRow z n p) st st2 r r2 := by
  unfold eBuildRow at h ⊢
  rw [e]
  split at h
  · rename_i xs hz; (try simp only [hz])
    split at h
    · rename_i hw
      (try rw [if_pos hw])
      simp only [okH, Option.some.injEq] at h
      subst h
      refine ⟨_, rfl, rfl, rfl, by rw [eH], fun s hs => (by cases hs), fun s _ => rfl, fun s _ => rfl, fun h => (by cases h), fun _ => by rw [eH], fun n => rfl, fun n => rfl⟩
    · cases h
  · cases h
theorem f_mapUpdate {kk : Nat} {m k x : O} (h : eMapUpdate kk m k x st = some r) (e1 : rd st2.env m = rd st.env m) (e2 : rd st2.env k = rd st.env k) (e3 : rd st2.env x = rd st.env x) (eH : st2.H = st.H) :
    ∃ r2, eMapUpdate kk m k x st2 = some r2 ∧ Fr (.mapUpdate kk m k x) st st2 r r2 := by
  unfold eMapUpdate at h ⊢
  rw [e1, e2, e3, eH]
  split at h
  · rename_i hz1 hz2; (try simp only [hz1, hz2])
    split at h
    · rename_i hw; (try simp only [hw])
      simp only at h
      split at h
      · rename_i hq
        (try rw [if_pos hq])
        split at h
        · rename_i hq2; (try simp only [hq2])
          simp only [okH, Option.some.injEq] at h
          subst h
          exact ⟨_, rfl, fr_spent (l := [x]) rfl (fun h => by cases h) (fun _ => rfl)⟩
        · cases h
      · cases h
    · cases h
  · cases h
theorem f_call {call : Call} (hc : CallLo call) {f : O} {l : List O} (h : eCall call f l st = some r) (e1 : rd st2.env f = rd st.env f) (e2 : l.map (rd st2.env) = l.map (rd st.env)) (eH : st2.H = st.H) :
    ∃ r2, eCall call f l st2 = some r2 ∧ Fr (.call f l) st st2 r r2 := by
  unfold eCall at h ⊢
  rw [e1, e2, eH]
  split at h
  · rename_i hz; (try simp only [hz])
    simp only at h ⊢
    split at h
    · rename_i hw
      (try rw [if_pos hw])
      split at h
      · rename_i q hq; (try simp only [hq])
        simp only [Option.some.injEq] at h
        subst h
        have hs := (hc _ _ _ _ hq).2.2
        exact ⟨_, rfl, fr_spent (l := l) rfl (fun _ hh => ⟨hs hh, by rw [eH]; exact hs hh⟩) (fun _ => rfl)⟩
      · cases h
    · cases h
  · cases h
theorem mvs_slots : ∀ {l : List O} {s : Nat}, s ∈ mvsOf l → s ∈ oSlots l
  | .mv n :: l, s, h => by
    simp only [mvsOf, oSlots, List.mem_cons] at h ⊢
    exact h.imp id mvs_slots
  | .t n :: l, s, h => by
    simp only [oSlots, List.mem_cons]
    exact .inr (mvs_slots (l := l) h)
  | .c _ :: l, s, h => mvs_slots (l := l) h
  | .f _ :: l, s, h => mvs_slots (l := l) h
  | .g _ _ :: l, s, h => mvs_slots (l := l) h
theorem mvs_cons (x : O) (l : List O) : mvsOf (x :: l) = mvsOf [x] ++ mvsOf l := by cases x <;> rfl
theorem f_append {size bytes : Nat} {x y : O} (h : eAppend size bytes x y st = some r) (e1 : rd st2.env x = rd st.env x) (e2 : rd st2.env y = rd st.env y) (hy : ∀ s, s ∈ mvsOf [y] → get s st2.env = get s st.env) :
    ∃ r2, eAppend size bytes x y st2 = some r2 ∧ Fr (.bi (.append size bytes) [x, y]) st st2 r r2 := by
  unfold eAppend at h ⊢
  rw [e1, e2]
  split at h
  · rename_i hz; (try simp only [hz])
    simp only [ok, Option.some.injEq] at h
    subst h
    have hW : ∀ s, s ∈ (OpK.bi (.append size bytes) [x, y]).boxW ↔ s ∈ mvsOf [x] ∨ s ∈ mvsOf [y] := fun s => by
      show s ∈ mvsOf [x, y] ↔ _
      rw [mvs_cons]; simp
    refine ⟨_, rfl, rfl, rfl, rfl, fun s hs => ?_, fun s hs => ?_, fun s hs => ?_, fun _ _ => ⟨rfl, rfl⟩, fun h => h, fun n => noLp_spent n x _, fun n => noLp_spent n x _⟩
    · show get s (spent x st2.env) = get s (spent x st.env)
      rw [get_spent, get_spent]
      split
      · rfl
      · rename_i hx
        exact hy s (((hW s).1 hs).resolve_left hx)
    · rw [hW, not_or] at hs
      show get s (spent x st.env) = _
      rw [get_spent, if_neg hs.1]
    · rw [hW, not_or] at hs
      show get s (spent x st2.env) = _
      rw [get_spent, if_neg hs.1]
  · cases h
theorem f_load {sl : Option Nat} {l : L} {a : O} (h : eLoad false sl l a st = some r) (e1 : rd st2.env a = rd st.env a) (e2 : ∀ s, sl = some s → get s st2.env = get s st.env) (eH : sl.isNone = true → st2.H = st.H) :
    ∃ r2, eLoad false sl l a st2 = some r2 ∧ Fr (.load false sl l a) st st2 r r2 := by
  unfold eLoad at h ⊢
  rw [e1]
  cases hs : slotIs sl (rd st.env a) with
  | false => rw [hs] at h; simp at h
  | true =>
    rw [hs] at h
    simp only [Bool.not_true, cond_false] at h ⊢
    have key : ∀ v, loadAt l st (rd st.env a) = some v → loadAt l st2 (rd st.env a) = some v := by
      intro v hv
      unfold loadAt at hv ⊢
      split at hv
      · rename_i s off hz
        have hsl : sl = some s := by
          rw [hz] at hs
          cases sl with
          | none => simp [slotIs] at hs
          | some n => exact congrArg some (by simpa [slotIs] using hs)
        rw [e2 s hsl]; exact hv
      · exact hv
      · rename_i id off hz
        have hsl : sl.isNone = true := by
          rw [hz] at hs
          cases sl with
          | none => rfl
          | some n => simp [slotIs] at hs
        rw [eH hsl]; exact hv
      · cases hv
    split at h
    · rename_i v hv
      rw [key v hv]
      obtain ⟨h1, h2⟩ := mk_pure (st2 := st2) h
      exact ⟨_, h2, fr_pure h1 rfl (fun s hs => by cases hs)⟩
    · cases h
theorem f_boxset {k : OpK} {s : Nat} {l : List O} {cs : List V} {v : V} {same pan : Bool} (hW : ∀ n, n ∈ k.boxW ↔ n = s ∨ n ∈ mvsOf l) :
    Fr k st st2 ⟨pan, same, v, { st with env := (s, .box cs) :: spentAll l st.env }⟩ ⟨pan, same, v, { st2 with env := (s, .box cs) :: spentAll l st2.env }⟩ := by
  refine ⟨rfl, rfl, rfl, fun n hn => ?_, fun n hn => ?_, fun n hn => ?_, fun _ _ => ⟨rfl, rfl⟩, fun h => h, fun n => noLp_spentAll n l _, fun n => noLp_spentAll n l _⟩
  · rw [hW] at hn
    simp only [get_cons, get_spentAll]
    rcases hn with h | h
    · simp [h]
    · simp [h]
  · rw [hW, not_or] at hn
    simp only [get_cons, get_spentAll, hn.1, hn.2, if_false]
  · rw [hW, not_or] at hn
    simp only [get_cons, get_spentAll, hn.1, hn.2, if_false]
theorem f_loadMv {sl : Option Nat} {l : L} {a : O} (h : eLoad true sl l a st = some r) (e1 : rd st2.env a = rd st.env a) (e2 : ∀ s, sl = some s → get s st2.env = get s st.env) (eH : sl.isNone = true → st2.H = st.H) :
    ∃ r2, eLoad true sl l a st2 = some r2 ∧ Fr (.load true sl l a) st st2 r r2 := by
  unfold eLoad at h ⊢
  rw [e1]
  cases hs : slotIs sl (rd st.env a) with
  | false => rw [hs] at h; simp at h
  | true =>
    rw [hs] at h
    simp only [Bool.not_true, cond_false, cond_true] at h ⊢
    cases hl : l.agg with
    | true => rw [hl] at h; simp at h
    | false =>
      rw [hl] at h
      simp only [cond_false] at h ⊢
      split at h
      · rename_i v st' hst
        unfold loadMv at hst ⊢
        split at hst
        · rename_i s off hz
          have hsl : sl = some s := by
            rw [hz] at hs
            cases sl with
            | none => simp [slotIs] at hs
            | some n => exact congrArg some (by simpa [slotIs] using hs)
          subst hsl
          rw [e2 s rfl]
          split at hst
          · rename_i cs hb
            split at hst
            · rename_i v' hc
              simp only [Option.some.injEq, Prod.mk.injEq] at hst
              obtain ⟨rfl, rfl⟩ := hst
              simp only [ok, Option.some.injEq] at h ⊢
              subst h
              exact ⟨_, rfl, f_boxset (l := []) (fun n => by simp [OpK.boxW, mvsOf])⟩
            · cases hst
          · cases hst
        · rename_i id off hz
          have hsl : sl = none := by
            rw [hz] at hs
            cases sl with
            | none => rfl
            | some n => simp [slotIs] at hs
          subst hsl
          rw [eH rfl]
          split at hst
          · rename_i cs hb
            split at hst
            · rename_i v' hc
              simp only [Option.some.injEq, Prod.mk.injEq] at hst
              obtain ⟨rfl, rfl⟩ := hst
              simp only [okH, Option.some.injEq] at h ⊢
              subst h
              exact ⟨_, rfl, rfl, rfl, rfl, fun s hs => (by cases hs), fun s _ => rfl, fun s _ => rfl, fun h => (by cases h), fun _ => rfl, fun n => rfl, fun n => rfl⟩
            · cases hst
          · cases hst
        · cases hst
      · cases h
theorem f_store {sl : Option Nat} {l : L} {a x : O} (h : eStore sl l a x st = some r) (e1 : rd st2.env a = rd st.env a) (e3 : rd st2.env x = rd st.env x) (e2 : ∀ s, sl = some s → get s st2.env = get s st.env) (eH : sl.isNone = true → st2.H = st.H) :
    ∃ r2, eStore sl l a x st2 = some r2 ∧ Fr (.store sl l a x) st st2 r r2 := by
  unfold eStore at h ⊢
  rw [e1, e3]
  cases hs : slotIs sl (rd st.env a) with
  | false => rw [hs] at h; simp at h
  | true =>
    rw [hs] at h
    simp only [Bool.not_true, cond_false] at h ⊢
    split at h
    · rename_i st' hst
      unfold storeAt at hst ⊢
      split at hst
      · rename_i s off hz
        have hsl : sl = some s := by
          rw [hz] at hs
          cases sl with
          | none => simp [slotIs] at hs
          | some n => exact congrArg some (by simpa [slotIs] using hs)
        subst hsl
        have e4 : get s (spent x st2.env) = get s (spent x st.env) := by rw [get_spent, get_spent, e2 s rfl]
        simp only [e4]
        split at hst
        · rename_i cs hb
          split at hst
          · rename_i hc
            (try rw [if_pos hc])
            split at hst
            · rename_i cs' hset
              simp only [Option.some.injEq] at hst
              subst hst
              (try simp only [hb, if_pos hc, hset])
              simp only [ok, Option.some.injEq] at h ⊢
              subst h
              exact ⟨_, rfl, f_boxset (l := [x]) (fun n => by simp [OpK.boxW])⟩
            · cases hst
          · cases hst
        · cases hst
      · rename_i id off hz
        have hsl : sl = none := by
          rw [hz] at hs
          cases sl with
          | none => rfl
          | some n => simp [slotIs] at hs
        subst hsl
        simp only [eH rfl]
        split at hst
        · rename_i cs hb
          split at hst
          · rename_i hc
            (try rw [if_pos hc])
            split at hst
            · rename_i cs' hset
              simp only [Option.some.injEq] at hst
              subst hst
              (try simp only [hb, if_pos hc, hset])
              simp only [okH, Option.some.injEq] at h ⊢
              subst h
              exact ⟨_, rfl, fr_spent (l := [x]) rfl (fun h => by cases h) (fun _ => rfl)⟩
            · cases hst
          · cases hst
        · cases hst
      · cases hst
    · cases h
theorem p_lenS {x : O} (h : eLenS x st = some r) (e1 : rd st2.env x = rd st.env x) : r.st = st ∧ eLenS x st2 = some { r with st := st2 } := by
  unfold eLenS at h ⊢; rw [e1]
  split at h
  · rename_i hz; (try simp only [hz]); exact mk_pure h
  · cases h
theorem p_lenL {x : O} (h : eLenL x st = some r) (e1 : rd st2.env x = rd st.env x) : r.st = st ∧ eLenL x st2 = some { r with st := st2 } := by
  unfold eLenL at h ⊢; rw [e1]
  split at h
  · rename_i hz; (try simp only [hz])
    split at h
    · rename_i hw; (try simp only [hw]); exact mk_pure h
    · cases h
  · rename_i hz; (try simp only [hz]); exact mk_pure h
  · cases h
theorem p_lenM {x : O} (h : eLenM x st = some r) (e1 : rd st2.env x = rd st.env x) (eH : st2.H = st.H) : r.st = st ∧ eLenM x st2 = some { r with st := st2 } := by
  unfold eLenM at h ⊢; rw [e1, eH]
  split at h
  · rename_i hz; (try simp only [hz]); exact mk_pure h
  · rename_i hz; (try simp only [hz])
    split at h
    · rename_i hw; (try simp only [hw]); exact mk_pure h
    · cases h
  · cases h
theorem parts_congr {e e2 : Env} : ∀ {p : List (Nat × Nat × O)}, (∀ s, s ∈ oSlots (p.map (·.2.2)) → get s e2 = get s e) → (p.map fun (o, s, x) => (o, s, rd e2 x)) = (p.map fun (o, s, x) => (o, s, rd e x))
  | [], _ => rfl
  | (o, n, x) :: l, h => by
    simp only [List.map_cons] at h ⊢
    rw [oSlots_cons] at h
    rw [rd_congr (fun s hs => h s (by simp [hs])), parts_congr (fun s hs => h s (by simp [hs]))]
theorem partsS_congr {e e2 : Env} : ∀ {p : List (Nat × O)}, (∀ s, s ∈ oSlots (p.map (·.2)) → get s e2 = get s e) → (p.map fun (j, x) => (j, rd e2 x)) = (p.map fun (j, x) => (j, rd e x))
  | [], _ => rfl
  | (o, x) :: l, h => by
    simp only [List.map_cons] at h ⊢
    rw [oSlots_cons] at h
    rw [rd_congr (fun s hs => h s (by simp [hs])), partsS_congr (fun s hs => h s (by simp [hs]))]
theorem fr_evalK {call : Call} (hc : CallLo call) {k : OpK} (h : evalK call k st = some r) (hs : Sees k st.env st2.env) (hH : k.looks = true → st2.H = st.H) : ∃ r2, evalK call k st2 = some r2 ∧ Fr k st st2 r r2 := by
  have s1 : ∀ {x : O} {l l' : List O}, k.rds = l ++ x :: l' → rd st2.env x = rd st.env x := fun {x l l'} e => rd_congr (fun s hs' => hs s (.inl (by rw [e, oSlots_append, oSlots_cons]; simp [hs'])))
  have pure : ∀ {f : St → Option Or}, evalK call k = f → (r.st = st ∧ f st2 = some { r with st := st2 }) → (∀ s, s ∈ k.boxW → get s st2.env = get s st.env) → ∃ r2, evalK call k st2 = some r2 ∧ Fr k st st2 r r2 := fun hf ⟨h1, h2⟩ hW => ⟨_, by rw [hf]; exact h2, fr_pure h1 rfl hW⟩
  have nW : ∀ {s : Nat}, s ∈ ([] : List Nat) → get s st2.env = get s st.env := fun h => by cases h
  cases k with
  | mov x => exact f_mov h (s1 (l := []) rfl)
  | pick c a b => exact pure rfl (p_pick h (s1 (l := []) rfl) (s1 (l := [c]) rfl) (s1 (l := [c, a]) rfl)) (fun s h => nW h)
  | alloc loc z => exact f_alloc h hH
  | box loc x => exact f_box h (s1 (l := []) rfl) hH
  | build z p => exact pure rfl (p_build h (parts_congr fun s h => hs s (.inl h))) (fun s h => nW h)
  | buildSlice z n p => exact pure rfl (p_buildSlice h (partsS_congr fun s h => hs s (.inl h))) (fun s h => nW h)
  | load mv sl l a =>
    have e2 : ∀ s, sl = some s → get s st2.env = get s st.env := fun s e => hs s (.inr (by subst e; simp [OpK.boxR]))
    cases mv with
    | false => exact f_load h (s1 (l := []) rfl) e2 hH
    | true => exact f_loadMv h (s1 (l := []) rfl) e2 hH
  | store sl l a x => exact f_store h (s1 (l := []) rfl) (s1 (l := [a]) rfl) (fun s e => hs s (.inr (by subst e; simp [OpK.boxR]))) hH
  | nilCheck x => exact pure rfl (p_nilCheck h (s1 (l := []) rfl)) (fun s h => nW h)
  | bin op kd x y => exact pure rfl (p_bin h (s1 (l := []) rfl) (s1 (l := [x]) rfl)) (fun s h => nW h)
  | un op x => exact pure rfl (p_un h (s1 (l := []) rfl)) (fun s h => nW h)
  | conv k x => exact pure rfl (p_conv h (s1 (l := []) rfl)) (fun s h => nW h)
  | bytes x => exact pure rfl (p_bytes h (s1 (l := []) rfl)) (fun s h => nW h)
  | text x => exact pure rfl (p_text h (s1 (l := []) rfl) (hH rfl)) (fun s h => nW h)
  | movS x => exact pure rfl (p_movS h (s1 (l := []) rfl)) (fun s h => nW h)
  | mkIfc t x => exact pure rfl (p_mkIfc h (s1 (l := []) rfl)) (fun s h => nW h)
  | mkFn f a b => exact pure rfl (p_mkFn h (rds_congr fun s h => hs s (.inl (by show s ∈ oSlots (a ++ b); rw [oSlots_append]; simp [h]))) (rds_congr fun s h => hs s (.inl (by show s ∈ oSlots (a ++ b); rw [oSlots_append]; simp [h])))) (fun s h => nW h)
  | mkMap => exact f_mkMap h (hH rfl)
  | mkSlice z a b => exact f_mkSlice h (s1 (l := []) rfl) (s1 (l := [a]) rfl) (hH rfl)
  | buildRow z n p => exact f_buildRow h (partsS_congr fun s h => hs s (.inl h)) (hH rfl)
  | assertOk t z x => exact pure rfl (p_assertOk h (s1 (l := []) rfl)) (fun s h => nW h)
  | sliceS x a b =>
    have e : ∀ s, s ∈ oSlots a.toList ∨ s ∈ oSlots b.toList → get s st2.env = get s st.env := fun s h => hs s (.inl (by
      show s ∈ oSlots (x :: (a.toList ++ b.toList)); rw [oSlots_cons, oSlots_append]; simp only [List.mem_append]; exact .inr h))
    exact pure rfl (p_sliceS h (s1 (l := []) rfl) (optInt_congr fun s h => e s (.inl h)) (optInt_congr fun s h => e s (.inr h))) (fun s h => nW h)
  | sliceL n x a b =>
    have e : ∀ s, s ∈ oSlots a.toList ∨ s ∈ oSlots b.toList → get s st2.env = get s st.env := fun s h => hs s (.inl (by
      show s ∈ oSlots (x :: (a.toList ++ b.toList)); rw [oSlots_cons, oSlots_append]; simp only [List.mem_append]; exact .inr h))
    exact pure rfl (p_sliceL h (s1 (l := []) rfl) (optInt_congr fun s h => e s (.inl h)) (optInt_congr fun s h => e s (.inr h))) (fun s h => nW h)
  | sliceA n x a b =>
    have e : ∀ s, s ∈ oSlots a.toList ∨ s ∈ oSlots b.toList → get s st2.env = get s st.env := fun s h => hs s (.inl (by
      show s ∈ oSlots (x :: (a.toList ++ b.toList)); rw [oSlots_cons, oSlots_append]; simp only [List.mem_append]; exact .inr h))
    exact pure rfl (p_sliceA h (s1 (l := []) rfl) (optInt_congr fun s h => e s (.inl h)) (optInt_congr fun s h => e s (.inr h))) (fun s h => nW h)
  | sliceM n x a b m =>
    have e : ∀ s, s ∈ oSlots a.toList → get s st2.env = get s st.env := fun s h => hs s (.inl (by
      show s ∈ oSlots (m :: b :: x :: a.toList); rw [oSlots_cons m, oSlots_cons b, oSlots_cons x]; simp only [List.mem_append]; exact Or.inr (Or.inr (Or.inr h))))
    exact pure rfl (p_sliceM h (s1 (l := [m, b]) rfl) (optInt_congr fun s h => e s h) (s1 (l := [m]) rfl) (s1 (l := []) rfl)) (fun s h => nW h)
  | stuck => cases h
  | fieldAddr x o l => exact pure rfl (p_fieldAddr h (s1 (l := []) rfl)) (fun s h => nW h)
  | field x o l => exact pure rfl (p_field h (s1 (l := []) rfl)) (fun s h => nW h)
  | indexAddr x i n arr => exact pure rfl (p_indexAddr h (s1 (l := []) rfl) (s1 (l := [x]) rfl)) (fun s h => nW h)
  | index x i => exact pure rfl (p_index h (s1 (l := []) rfl) (s1 (l := [x]) rfl)) (fun s h => nW h)
  | lookup kk z m k c => exact pure rfl (p_lookup h (s1 (l := []) rfl) (s1 (l := [m]) rfl) (hH rfl)) (fun s h => nW h)
  | mapUpdate kk m k x => exact f_mapUpdate h (s1 (l := []) rfl) (s1 (l := [m]) rfl) (s1 (l := [m, k]) rfl) (hH rfl)
  | extract x i => exact pure rfl (p_extract h (fun s h => hs s (.inl h))) (fun s h => nW h)
  | call f l => exact f_call hc h (s1 (l := []) rfl) (rds_congr fun s h => hs s (.inl (by show s ∈ oSlots (f :: l); rw [oSlots_cons]; simp [h]))) (hH rfl)
  | panic x =>
    refine pure rfl ?_ (fun s h => nW h)
    have e := s1 (x := x) (l := []) (l' := []) rfl
    simp only [evalK] at h
    show r.st = st ∧ ePanic x st2 = _
    unfold ePanic at h ⊢
    rw [e]
    split at h
    · rename_i hz; (try simp only [hz])
      simp only [Option.some.injEq] at h
      subst h
      exact ⟨rfl, rfl⟩
    · cases h
  | bi b l =>
    have hW : ∀ s, s ∈ mvsOf l → get s st2.env = get s st.env := fun s h => hs s (.inl (mvs_slots h))
    have eL : l.map (rd st2.env) = l.map (rd st.env) := rds_congr fun s h => hs s (.inl h)
    simp only [evalK, eBi] at h
    cases b with
    | lenS =>
      rcases l with _ | ⟨x, _ | ⟨y, l⟩⟩
      · cases h
      · exact pure rfl (p_lenS h (s1 (l := []) rfl)) hW
      · cases h
    | lenL =>
      rcases l with _ | ⟨x, _ | ⟨y, l⟩⟩
      · cases h
      · exact pure rfl (p_lenL h (s1 (l := []) rfl)) hW
      · cases h
    | lenM =>
      rcases l with _ | ⟨x, _ | ⟨y, l⟩⟩
      · cases h
      · exact pure rfl (p_lenM h (s1 (l := []) rfl) (hH rfl)) hW
      · cases h
    | append size bytes =>
      rcases l with _ | ⟨x, _ | ⟨y, _ | ⟨z, l⟩⟩⟩
      · cases h
      · cases h
      · exact f_append h (s1 (l := []) rfl) (s1 (l := [x]) rfl) (fun s h => hW s (by rw [mvs_cons]; simp [h]))
      · cases h
    | max =>
      refine pure (f := fun st => eBi .max l st) rfl ?_ hW
      have h' : (match maxD (l.map (rd st.env)) with | some v => ok v st | none => none) = some r := by cases l <;> exact h
      have g : eBi .max l st2 = (match maxD (l.map (rd st2.env)) with | some v => ok v st2 | none => none) := by cases l <;> rfl
      show r.st = st ∧ eBi .max l st2 = _
      rw [g, eL]
      split at h'
      · rename_i hz; (try simp only [hz]); exact mk_pure h'
      · cases h'
    | min =>
      refine pure (f := fun st => eBi .min l st) rfl ?_ hW
      have h' : (match minD (l.map (rd st.env)) with | some v => ok v st | none => none) = some r := by cases l <;> exact h
      have g : eBi .min l st2 = (match minD (l.map (rd st2.env)) with | some v => ok v st2 | none => none) := by cases l <;> rfl
      show r.st = st ∧ eBi .min l st2 = _
      rw [g, eL]
      split at h'
      · rename_i hz; (try simp only [hz]); exact mk_pure h'
      · cases h'
end W

/-
  Regions whose order is open: whatever the order, the same.
-/
set_option linter.unusedSimpArgs false
set_option linter.unusedVariables false
namespace W
open Go (IntKind BinOp UnOp Oper)
abbrev El := Op × Bool × List Nat
def stepD (call : Call) (x : El) (st : St) : Option St :=
  match wanted x.1.g st.env with
  | some true => match evalK call x.1.k st with
    | some r => bif r.pan || !(r.same || x.2.1) then none else putD (boxK x.1.k) x.2.2 x.1.dst r.v r.st
    | none => none
  | some false => some (put x.1.dst (.tup []) st)
  | none => none
def runD (call : Call) : List El → St → Option St
  | [], st => some st
  | x :: l, st => match stepD call x st with
    | some st' => runD call l st'
    | none => none
theorem runOpsD_runD {call : Call} : ∀ {l : List El} {st : St} {e : Ex} {st' : St}, runOpsD call l st = some (e, st') → e = .nrm ∧ runD call l st = some st'
  | [], st, e, st', h => by simp only [runOpsD, Option.some.injEq, Prod.mk.injEq] at h; exact ⟨h.1.symm, by rw [← h.2]; rfl⟩
  | (o, s, no) :: l, st, e, st', h => by
    simp only [runOpsD] at h
    simp only [runD, stepD]
    split at h
    · rename_i hw
      simp only [hw]
      split at h
      · rename_i r hr
        simp only [hr]
        rw [Bool.cond_eq_ite] at h ⊢
        split at h
        · cases h
        · rename_i hp
          rw [if_neg hp]
          split at h
          · rename_i st1 h1
            simp only [h1]
            exact runOpsD_runD h
          · cases h
      · cases h
    · rename_i hw
      simp only [hw]
      exact runOpsD_runD h
    · cases h
structure Eqv (st st2 : St) : Prop where
  e : ∀ k, get k st2.env = get k st.env
  H : st2.H = st.H
  lp : ∀ n, noLp n st2.env = noLp n st.env
theorem Eqv.refl (st : St) : Eqv st st := ⟨fun _ => rfl, rfl, fun _ => rfl⟩
theorem Eqv.trans {a b c : St} (h : Eqv a b) (h' : Eqv b c) : Eqv a c := ⟨fun k => (h'.e k).trans (h.e k), h'.H.trans h.H, fun n => (h'.lp n).trans (h.lp n)⟩
structure FrD (x : El) (st st2 st1 st1' : St) (b : Nat → Bool) : Prop where
  inn : ∀ s, s ∈ x.1.wr → get s st1'.env = get s st1.env
  out1 : ∀ s, s ∉ x.1.wr → get s st1.env = get s st.env
  out2 : ∀ s, s ∉ x.1.wr → get s st1'.env = get s st2.env
  H1 : x.2.1 = false → st1.H = st.H ∧ st1'.H = st2.H
  H2 : st2.H = st.H → st1'.H = st1.H
  lp : ∀ n, noLp n st1.env = (noLp n st.env && b n)
  lp2 : ∀ n, noLp n st1'.env = (noLp n st2.env && b n)
  no : ∀ n, hasNat n x.2.2 = true → b n = true
theorem hasNat_mem {n : Nat} : ∀ {l : List Nat}, n ∈ l → hasNat n l = true
  | m :: l, h => by
    simp only [hasNat, Bool.or_eq_true]
    rcases List.mem_cons.1 h with e | h
    · subst e; exact .inl (by simp)
    · exact .inr (hasNat_mem h)
theorem wanted_congr {g : Option (Nat × Bool)} {e e2 : Env} (h : ∀ n w, g = some (n, w) → get n e2 = get n e) : wanted g e2 = wanted g e := by
  cases g with
  | none => rfl
  | some nw => obtain ⟨n, w⟩ := nw; simp only [wanted]; rw [h n w rfl]
theorem mem_re_k {o : Op} {s : Nat} (h : s ∈ oSlots o.k.rds ∨ s ∈ o.k.boxR) : s ∈ o.re := by
  unfold Op.re
  simp only [List.mem_append]
  rcases h with h | h
  · exact .inr (.inl h)
  · exact .inr (.inr (.inl h))
theorem mem_re_w {o : Op} {s : Nat} (h : s ∈ o.k.boxW) : s ∈ o.re := by
  unfold Op.re
  simp only [List.mem_append]
  exact .inr (.inr (.inr h))
theorem mem_re_g {o : Op} {n : Nat} {w : Bool} (h : o.g = some (n, w)) : n ∈ o.re := by
  unfold Op.re; rw [h]; simp
theorem frD {call : Call} (hc : CallLo call) {x : El} {st st2 st1 : St} (h : stepD call x st = some st1) (hfl : x.2.1 = false → x.1.k.free = true) (hs : ∀ s, s ∈ x.1.re → get s st2.env = get s st.env) (hH : x.1.k.looks = true → st2.H = st.H)
    (hbx : ∀ n, n ∈ makesBox x.1 → noLp n st.env = true → noLp n st2.env = true) : ∃ st1' b, stepD call x st2 = some st1' ∧ FrD x st st2 st1 st1' b := by
  unfold stepD at h ⊢
  rw [wanted_congr (e := st.env) (fun n w hg => hs n (mem_re_g hg))]
  split at h
  · rename_i hw
    (try simp only [hw])
    split at h
    · rename_i r hr
      obtain ⟨r2, hr2, F⟩ := fr_evalK hc hr (fun s h => hs s (mem_re_k h)) hH
      simp only [hr2]
      rw [Bool.cond_eq_ite] at h ⊢
      rw [F.pan, F.same]
      split at h
      · cases h
      · rename_i hp
        rw [if_neg hp]
        have hsame : x.2.1 = false → r.same = true := fun hf => by
          simp only [Bool.or_eq_true, not_or, Bool.not_eq_true', hf, Bool.or_false] at hp
          simpa using hp.2
        have done : ∀ {v : V} {b : Nat → Bool} {n : Nat}, x.1.dst = some n → (∀ m (e : Env), noLp m ((n, v) :: e) = (noLp m e && b m)) → (∀ m, hasNat m x.2.2 = true → b m = true) →
            FrD x st st2 { r.st with env := (n, v) :: r.st.env } { r2.st with env := (n, v) :: r2.st.env } b := by
          intro v b n hdst hb hno
          have hwr : ∀ s, s ∈ x.1.wr ↔ s = n ∨ s ∈ x.1.k.boxW := fun s => by unfold Op.wr; rw [hdst]; simp
          refine ⟨fun s hs => ?_, fun s hs => ?_, fun s hs => ?_, fun hf => F.H1 (hfl hf) (hsame hf), F.H2, fun m => ?_, fun m => ?_, hno⟩
          · show get s ((n, v) :: r2.st.env) = get s ((n, v) :: r.st.env)
            rw [get_cons, get_cons]
            split
            · rfl
            · rename_i hne; exact F.inn s (((hwr s).1 hs).resolve_left hne)
          · rw [hwr, not_or] at hs
            show get s ((n, v) :: r.st.env) = _
            rw [get_cons, if_neg hs.1]; exact F.out1 s hs.2
          · rw [hwr, not_or] at hs
            show get s ((n, v) :: r2.st.env) = _
            rw [get_cons, if_neg hs.1]; exact F.out2 s hs.2
          · show noLp m ((n, v) :: r.st.env) = _
            rw [hb, F.lp]
          · show noLp m ((n, v) :: r2.st.env) = _
            rw [hb, F.lp2]
        unfold putD at h ⊢
        rw [F.v]
        cases hdst : x.1.dst with
        | none =>
          rw [hdst] at h
          simp only [Option.some.injEq] at h
          subst h
          have hwr : ∀ s, s ∈ x.1.wr ↔ s ∈ x.1.k.boxW := fun s => by unfold Op.wr; rw [hdst]; simp
          exact ⟨_, fun _ => true, rfl, fun s hs => F.inn s ((hwr s).1 hs), fun s hs => F.out1 s (fun h => hs ((hwr s).2 h)), fun s hs => F.out2 s (fun h => hs ((hwr s).2 h)), fun hf => F.H1 (hfl hf) (hsame hf), F.H2,
            fun n => by rw [F.lp]; simp, fun n => by rw [F.lp2]; simp, fun _ _ => rfl⟩
        | some n =>
          rw [hdst] at h
          simp only at h ⊢
          split at h
          · rename_i cs hv
            rw [Bool.cond_eq_ite] at h
            split at h
            · rename_i hb
              simp only [Option.some.injEq] at h
              subst h
              simp only [Bool.and_eq_true] at hb
              have hb2 : (boxK x.1.k && noLp n r2.st.env) = true := by
                rw [Bool.and_eq_true]
                refine ⟨hb.1, ?_⟩
                rw [F.lp2]
                exact hbx n (by unfold makesBox; rw [hb.1, hdst]; simp) (by rw [← F.lp]; exact hb.2)
              rw [hb2]
              simp only [cond_true]
              exact ⟨_, fun _ => true, rfl, done hdst (fun m e => by simp [noLp]) (fun _ _ => rfl)⟩
            · cases h
          · rename_i m o hv
            rw [Bool.cond_eq_ite] at h
            split at h
            · cases h
            · rename_i hb
              simp only [Option.some.injEq] at h
              subst h
              have hb' : hasNat m x.2.2 = false := by simpa using hb
              simp only [hb', cond_false]
              refine ⟨_, fun k => !Nat.beq m k, rfl, done hdst (fun k e => by simp only [noLp]; rw [Bool.and_comm]) (fun k hk => ?_)⟩
              cases hq : Nat.beq m k with
              | false => rfl
              | true =>
                have := Nat.eq_of_beq_eq_true hq
                subst this
                rw [hb'] at hk; cases hk
          · rename_i h1 h2
            simp only [Option.some.injEq] at h
            subst h
            refine ⟨_, fun _ => true, rfl, ?_⟩
            exact done hdst (fun m e => by rw [ones_noLp (fun k o => h2 k o)]; simp) (fun _ _ => rfl)
    · cases h
  · rename_i hw
    (try simp only [hw])
    simp only [Option.some.injEq] at h
    subst h
    cases hdst : x.1.dst with
    | none =>
      refine ⟨_, fun _ => true, rfl, fun s hs' => ?_, fun s _ => rfl, fun s _ => rfl, fun _ => ⟨rfl, rfl⟩, fun h => h, fun n => by simp [put], fun n => by simp [put], fun _ _ => rfl⟩
      unfold Op.wr at hs'
      rw [hdst] at hs'
      exact hs s (mem_re_w (by simpa using hs'))
    | some n =>
      have hwr : ∀ s, s ∈ x.1.wr ↔ s = n ∨ s ∈ x.1.k.boxW := fun s => by unfold Op.wr; rw [hdst]; simp
      refine ⟨_, fun _ => true, rfl, fun s hs' => ?_, fun s hs' => ?_, fun s hs' => ?_, fun _ => ⟨rfl, rfl⟩, fun h => h, fun m => by simp [put, noLp], fun m => by simp [put, noLp], fun _ _ => rfl⟩
      · show get s ((n, .tup []) :: st2.env) = get s ((n, .tup []) :: st.env)
        rw [get_cons, get_cons]
        split
        · rfl
        · rename_i hne; exact hs s (mem_re_w (((hwr s).1 hs').resolve_left hne))
      · rw [hwr, not_or] at hs'
        show get s ((n, .tup []) :: st.env) = _
        rw [get_cons, if_neg hs'.1]
      · rw [hwr, not_or] at hs'
        show get s ((n, .tup []) :: st2.env) = _
        rw [get_cons, if_neg hs'.1]
  · cases h
theorem meets_false {a b : List Nat} (h : meets a b = false) : ∀ n, n ∈ a → n ∉ b := by
  intro n hn hb
  simp only [meets, List.any_eq_false] at h
  exact h n hn (by simpa using hb)
structure Apart (o o' : Op) : Prop where
  f1 : o.k.free = true ∨ (o'.k.looks = false ∧ o'.k.free = true)
  f2 : o'.k.free = true ∨ (o.k.looks = false ∧ o.k.free = true)
  w1 : ∀ n, n ∈ o.wr → n ∉ o'.wr ∧ n ∉ o'.re
  w2 : ∀ n, n ∈ o'.wr → n ∉ o.wr ∧ n ∉ o.re
theorem apart_spec {o o' : Op} (h : apart o o' = true) : Apart o o' := by
  simp only [apart, Bool.and_eq_true, Bool.not_eq_true', Bool.and_eq_false_iff, Bool.or_eq_false_iff, Bool.not_eq_false'] at h
  obtain ⟨⟨⟨h1, h2⟩, h3⟩, h4⟩ := h
  refine ⟨by rcases h1 with h | h; exact .inl h; exact .inr h, by rcases h2 with h | h; exact .inl h; exact .inr h, fun n hn => ?_, fun n hn => ?_⟩
  · have := meets_false h3 n hn
    simpa [not_or] using this
  · have := meets_false h4 n hn
    simpa [not_or] using this
theorem commute {call : Call} (hc : CallLo call) {x y : El} {st st1 st2 : St} (hx : stepD call x st = some st1) (hy : stepD call y st1 = some st2) (lx : x.2.1 = false → x.1.k.free = true) (ly : y.2.1 = false → y.1.k.free = true) (fx : x.1.k.free = true → x.2.1 = false) (fy : y.1.k.free = true → y.2.1 = false) (hap : Apart x.1 y.1)
    (hno : ∀ n, n ∈ makesBox x.1 → hasNat n y.2.2 = true) : ∃ st1' st2', stepD call y st = some st1' ∧ stepD call x st1' = some st2' ∧ Eqv st2 st2' := by
  -- x, once more in its own state: what it changes
  obtain ⟨_, bx, hx0, Fx⟩ := frD hc (st2 := st) hx lx (fun _ _ => rfl) (fun _ => rfl) (fun _ _ h => h)
  rw [hx] at hx0
  cases hx0
  -- y ahead
  obtain ⟨st1', by_, hy', Fy⟩ := frD hc (st2 := st) hy ly (fun s hs => (Fx.out1 s (fun h => (hap.w1 s h).2 hs)).symm) (fun hl => by
      rcases hap.f1 with h | h
      · exact (Fx.H1 (fx h)).1.symm
      · rw [h.1] at hl; cases hl) (fun n hn h => by
      rw [Fx.lp] at h; simp only [Bool.and_eq_true] at h; exact h.1)
  -- x behind it
  obtain ⟨st2', b3, hx', Fx'⟩ := frD hc (st2 := st1') hx lx (fun s hs => Fy.out2 s (fun h => (hap.w2 s h).2 hs)) (fun hl => by
      rcases hap.f2 with h | h
      · exact (Fy.H1 (fy h)).2
      · rw [h.1] at hl; cases hl) (fun n hn h => by
      rw [Fy.lp2, h, Fy.no n (hno n hn)]; rfl)
  refine ⟨st1', st2', hy', hx', fun s => ?_, ?_, fun n => ?_⟩
  · by_cases h1 : s ∈ x.1.wr
    · have h2 : s ∉ y.1.wr := (hap.w1 s h1).1
      rw [Fx'.inn s h1, Fy.out1 s h2]
    · rw [Fx'.out2 s h1]
      by_cases h2 : s ∈ y.1.wr
      · rw [Fy.inn s h2]
      · rw [Fy.out2 s h2, Fy.out1 s h2, Fx.out1 s h1]
  · rcases hap.f1 with h | h
    · -- x leaves the objects alone
      rw [(Fx'.H1 (fx h)).2]
      exact Fy.H2 (Fx.H1 (fx h)).1.symm
    · rw [(Fy.H1 (fy h.2)).1]
      exact Fx'.H2 (Fy.H1 (fy h.2)).2
  · rw [Fx'.lp2, Fy.lp2, Fy.lp, Fx.lp]
    -- what x adds is the same
    have e : (noLp n st.env && bx n) = (noLp n st.env && b3 n) := by rw [← Fx.lp, ← Fx'.lp]
    cases h1 : noLp n st.env with
    | false => simp
    | true =>
      rw [h1] at e
      simp only [Bool.true_and] at e ⊢
      rw [e, Bool.and_comm]
theorem stepD_eqv {call : Call} (hc : CallLo call) {x : El} {st st2 st1 : St} (h : stepD call x st = some st1) (lx : x.2.1 = false → x.1.k.free = true) (he : Eqv st st2) : ∃ st1', stepD call x st2 = some st1' ∧ Eqv st1 st1' := by
  obtain ⟨st1', b, h1, F⟩ := frD hc h lx (fun s _ => he.e s) (fun _ => he.H) (fun n _ h => by rw [he.lp]; exact h)
  refine ⟨st1', h1, fun s => ?_, F.H2 he.H, fun n => by rw [F.lp, F.lp2, he.lp]⟩
  by_cases hs : s ∈ x.1.wr
  · exact F.inn s hs
  · rw [F.out2 s hs, F.out1 s hs, he.e]
theorem runD_eqv {call : Call} (hc : CallLo call) : ∀ {l : List El} {st st2 stF : St}, (∀ x ∈ l, x.2.1 = false → x.1.k.free = true) → runD call l st = some stF → Eqv st st2 → ∃ stF2, runD call l st2 = some stF2 ∧ Eqv stF stF2
  | [], st, st2, stF, _, h, he => by simp only [runD, Option.some.injEq] at h; subst h; exact ⟨st2, rfl, he⟩
  | x :: l, st, st2, stF, hf, h, he => by
    simp only [runD] at h ⊢
    split at h
    · rename_i st1 h1
      obtain ⟨st1', h2, he2⟩ := stepD_eqv hc h1 (hf x (by simp)) he
      simp only [h2]
      exact runD_eqv hc (fun y hy => hf y (by simp [hy])) h he2
    · cases h
theorem to_front {call : Call} (hc : CallLo call) {x : El} {post : List El} : ∀ {pre : List El} {st stF : St}, (∀ y ∈ pre ++ x :: post, y.2.1 = false → y.1.k.free = true) → (∀ y ∈ pre, (y.1.k.free = true → y.2.1 = false) ∧ (x.1.k.free = true → x.2.1 = false)) → (∀ y ∈ pre, Apart y.1 x.1 ∧ ∀ n, n ∈ makesBox y.1 → hasNat n x.2.2 = true) →
    runD call (pre ++ x :: post) st = some stF → ∃ st1 stF', stepD call x st = some st1 ∧ runD call (pre ++ post) st1 = some stF' ∧ Eqv stF stF'
  | [], st, stF, _, hf, _, h => by
    simp only [List.nil_append, runD] at h
    split at h
    · rename_i st1 h1
      exact ⟨st1, stF, h1, h, Eqv.refl _⟩
    · cases h
  | y :: pre, st, stF, hl, hf, ha, h => by
    simp only [List.cons_append, runD] at h
    split at h
    · rename_i sty hy
      obtain ⟨stx, stF1, h1, h2, h3⟩ := to_front hc (pre := pre) (fun z hz => hl z (by simp only [List.cons_append, List.mem_cons]; exact .inr hz)) (fun z hz => hf z (by simp [hz])) (fun z hz => ha z (by simp [hz])) h
      obtain ⟨st1', st2', h4, h5, h6⟩ := commute hc hy h1 (hl y (by simp)) (hl x (by simp)) (hf y (by simp)).1 (hf y (by simp)).2 (ha y (by simp)).1 (ha y (by simp)).2
      obtain ⟨stF2, h7, h8⟩ := runD_eqv hc (fun z hz => hl z (by
        simp only [List.cons_append, List.mem_cons, List.mem_append] at hz ⊢
        rcases hz with h | h
        · exact .inr (.inl h)
        · exact .inr (.inr (.inr h)))) h2 h6
      refine ⟨st1', stF2, h4, ?_, h3.trans h8⟩
      simp only [List.cons_append, runD, h5]
      exact h7
    · cases h
end W

/-
  Regions whose order is open: simulated.
-/
set_option linter.unusedSimpArgs false
set_option linter.unusedVariables false
namespace W
open Go (World Value Addr IntKind Program TypeId FuncId Operand Act Oper Next Result Sem BinOp UnOp Ending Exit Code Func Fence)
def befStep (acc : Array Nat) (o : Oper) : Array Nat :=
  acc.push (o.after.foldl (fun s e => if Go.Region.binds .any e then s ||| 2 ^ e.on ||| acc.getD e.on 0 else s) 0)
theorem before_eq (ops : Array Oper) : Go.Region.before ops = ops.toList.foldl befStep #[] := by
  unfold Go.Region.before
  rw [← Array.foldl_toList]
  rfl
theorem testBit_fold (acc : Array Nat) : ∀ (l : List Go.Edge) (s j : Nat), (l.foldl (fun s e => if Go.Region.binds .any e then s ||| 2 ^ e.on ||| acc.getD e.on 0 else s) s).testBit j = true →
    s.testBit j = true ∨ ∃ e ∈ l, Go.Region.binds .any e = true ∧ (e.on = j ∨ (acc.getD e.on 0).testBit j = true)
  | [], s, j, h => .inl h
  | e :: l, s, j, h => by
    simp only [List.foldl_cons] at h
    rcases testBit_fold acc l _ j h with h | ⟨e', he', hb, hj⟩
    · split at h
      · rename_i hb
        simp only [Nat.testBit_or, Bool.or_eq_true] at h
        rcases h with (h | h) | h
        · exact .inl h
        · rw [Nat.testBit_two_pow] at h
          exact .inr ⟨e, by simp, hb, .inl (by simpa using h)⟩
        · exact .inr ⟨e, by simp, hb, .inr h⟩
      · exact .inl h
    · exact .inr ⟨e', by simp [he'], hb, hj⟩
theorem bef_size : ∀ (l : List Oper) (acc : Array Nat), (l.foldl befStep acc).size = acc.size + l.length
  | [], acc => by simp
  | o :: l, acc => by simp only [List.foldl_cons, bef_size l, befStep, Array.size_push, List.length_cons]; omega
theorem bef_old : ∀ (l : List Oper) (acc : Array Nat) (i : Nat), i < acc.size → (l.foldl befStep acc).getD i 0 = acc.getD i 0
  | [], acc, i, _ => rfl
  | o :: l, acc, i, h => by
    simp only [List.foldl_cons]
    rw [bef_old l _ i (by simp [befStep]; omega)]
    simp only [befStep, Array.getD_eq_getD_getElem?, Array.getElem?_push]
    rw [if_neg (by omega)]
theorem bef_new : ∀ (l : List Oper) (acc : Array Nat) (k : Nat) (o : Oper), l[k]? = some o → ∀ j, ((l.foldl befStep acc).getD (acc.size + k) 0).testBit j = true →
    ∃ e ∈ o.after.toList, Go.Region.binds .any e = true ∧ (e.on = j ∨ ((l.foldl befStep acc).getD e.on 0).testBit j = true)
  | [], acc, k, o, h, j, _ => by simp at h
  | o' :: l, acc, 0, o, h, j, hb => by
    simp at h; subst h
    simp only [List.foldl_cons, Nat.add_zero] at hb
    rw [bef_old l _ acc.size (by simp [befStep])] at hb
    have e0 : (befStep acc o').getD acc.size 0 = o'.after.foldl (fun s e => if Go.Region.binds .any e then s ||| 2 ^ e.on ||| acc.getD e.on 0 else s) 0 := by
      simp [befStep]
    rw [e0, ← Array.foldl_toList] at hb
    rcases testBit_fold acc _ _ j hb with h | ⟨e, he, hbi, hj⟩
    · simp at h
    · refine ⟨e, he, hbi, hj.imp id (fun h => ?_)⟩
      have hlt : e.on < acc.size := by
        rcases Nat.lt_or_ge e.on acc.size with h1 | h1
        · exact h1
        · rw [Array.getD_eq_getD_getElem?, Array.getElem?_eq_none (by omega)] at h
          simp at h
      rw [bef_old (o' :: l) acc e.on hlt]
      exact h
  | o' :: l, acc, k + 1, o, h, j, hb => by
    simp only [List.foldl_cons] at hb ⊢
    have hs : (befStep acc o').size = acc.size + 1 := by simp [befStep]
    have := bef_new l (befStep acc o') k o (by simpa using h) j (by rw [hs, show acc.size + 1 + k = acc.size + (k + 1) by omega]; exact hb)
    exact this
theorem before_spec {ops : Array Oper} {i : Nat} {o : Oper} (h : ops[i]? = some o) {j : Nat} (hb : ((Go.Region.before ops).getD i 0).testBit j = true) :
    ∃ e ∈ o.after.toList, Go.Region.binds .any e = true ∧ (e.on = j ∨ ((Go.Region.before ops).getD e.on 0).testBit j = true) := by
  rw [before_eq] at hb ⊢
  exact bef_new ops.toList #[] i o (by simpa using h) j (by simpa using hb)
section
variable {P : Program} {M : Maps} {call : Call}
theorem trOps_get {A : Ann} {rid : Nat} {ops : Array Oper} : ∀ {rest : List Oper} {i : Nat} {l : List Op}, trOps M P A rid ops i rest = some l → l.length = rest.length ∧ ∀ k o, rest[k]? = some o → ∃ q, l[k]? = some q ∧ q.dst = o.dst ∧ gOf ops o.guard = some q.g ∧
    q.k = orStuck (trOp M P A (fun k' => (mvs A rid (i + k)).contains k') (match o.dst with | some d => A.loc.contains d | none => false) o.op)
  | [], i, l, h => by simp only [trOps, Option.some.injEq] at h; subst h; exact ⟨rfl, fun k o h => by simp at h⟩
  | o' :: rest, i, l, h => by
    simp only [trOps] at h
    split at h
    · rename_i g' r hg hr
      simp only [Option.some.injEq] at h
      subst h
      obtain ⟨h1, h2⟩ := trOps_get hr
      refine ⟨by simp [h1], fun k o ho => ?_⟩
      cases k with
      | zero =>
        simp at ho
        subst ho
        exact ⟨_, rfl, rfl, hg, rfl⟩
      | succ k =>
        obtain ⟨q, q1, q2, q3, q4⟩ := h2 k o (by simpa using ho)
        exact ⟨q, by simpa using q1, q2, q3, by rw [show i + (k + 1) = i + 1 + k by omega]; exact q4⟩
    · cases h
def elAt (ops : Array Oper) (l : List Op) (i : Nat) : El := (l.getD i default, flagAt ops l.length (l.getD i default) i, notYet ops l i)
theorem zip_els (ops : Array Oper) (l : List Op) : (l.zipIdx.map fun (o, i) => (o, flagAt ops l.length o i, notYet ops l i)) = (List.range l.length).map (elAt ops l) := by
  apply List.ext_getElem?
  intro k
  simp only [List.getElem?_map, List.getElem?_zipIdx, List.getElem?_range']
  by_cases hk : k < l.length
  · rw [List.getElem?_range hk]
    simp [hk, elAt]
  · rw [List.getElem?_eq_none (by omega), List.getElem?_eq_none (by simp; omega)]
    rfl
theorem killLp_noLp {n : Nat} : ∀ {e : Env}, noLp n e = true → killLp n e = e
  | [], _ => rfl
  | (m, v) :: e, h => by
    have h2 : noLp n e = true := by
      cases v <;> first | exact h | (simp only [noLp, Bool.and_eq_true] at h; exact h.2)
    simp only [killLp, killLp_noLp h2]
    cases v with
    | lp t o =>
      simp only [noLp, Bool.and_eq_true, Bool.not_eq_true'] at h
      simp [h.1]
    | _ => rfl
theorem putD_put {bx : Bool} {no : List Nat} {dst : Option Nat} {v : V} {st st' : St} (h : putD bx no dst v st = some st') : put dst v st = st' := by
  unfold putD at h
  cases dst with
  | none => simpa [put] using h
  | some n =>
    simp only at h
    split at h
    · rw [Bool.cond_eq_ite] at h
      split at h
      · rename_i hb
        simp only [Option.some.injEq] at h
        simp only [Bool.and_eq_true] at hb
        rw [← h]
        simp only [put, killLp_noLp hb.2]
      · cases h
    · rw [Bool.cond_eq_ite] at h
      split at h
      · cases h
      · simpa [put] using h
    · rename_i hb _
      simp only [Option.some.injEq] at h
      rw [← h, put_plain (fun cs e => hb cs e)]
def rem (n : Nat) (listed : Array Bool) : List Nat := (List.range n).filter fun i => !listed.getD i true
theorem rem_sorted (n : Nat) (listed : Array Bool) : (rem n listed).Pairwise (· < ·) := (List.pairwise_lt_range).filter _
theorem mem_rem {n i : Nat} {listed : Array Bool} : i ∈ rem n listed ↔ i < n ∧ listed.getD i true = false := by
  simp [rem, List.mem_filter]
theorem rem_set {n i : Nat} {listed : Array Bool} (hs : listed.size = n) {pre post : List Nat} (h : rem n listed = pre ++ i :: post) : rem n (listed.setIfInBounds i true) = pre ++ post := by
  have hi : i < listed.size := by
    have : i ∈ rem n listed := by rw [h]; simp
    rw [hs]; exact (mem_rem.1 this).1
  have e : rem n (listed.setIfInBounds i true) = (rem n listed).filter (fun k => k != i) := by
    unfold rem
    rw [List.filter_filter]
    apply List.filter_congr
    intro k hk
    by_cases hki : k = i
    · subst hki; simp [hi]
    · have : i ≠ k := fun e => hki e.symm
      simp [Array.getElem?_setIfInBounds_ne this, hki]
  rw [e, h]
  have hp := rem_sorted n listed
  rw [h] at hp
  rw [List.pairwise_append] at hp
  obtain ⟨_, h2, h3⟩ := hp
  rw [List.pairwise_cons] at h2
  rw [List.filter_append, List.filter_cons]
  simp only [bne_self_eq_false, Bool.false_eq_true, if_false]
  congr 1
  · rw [List.filter_eq_self]
    intro k hk
    have := h3 k hk i (by simp)
    simp; omega
  · rw [List.filter_eq_self]
    intro k hk
    have := h2.1 k hk
    simp; omega
theorem sim_any (hcs : CallSim P M call) (hlo : CallLo call) {F : Fence} (hF : WF F) {m : Nat} {A : Ann} {rid nt : Nat} {ops : Array Oper} {l : List Op} (htr : trOps M P A rid ops 0 ops.toList = some l) (hlex : lexI ops = true) (hord : orderOk ops l = true)
    (hdst : ∀ o ∈ ops.toList, ∀ d, o.dst = some d → d < nt) (hnd : ∀ o ∈ ops.toList, F.round = none ∨ notDefer o.op) : ∀ (fuel : Nat) (listed : Array Bool), listed.size = ops.size → (rem ops.size listed).length = fuel →
      (∀ x, listed.getD x false = true → ∀ j, ((Go.Region.before ops).getD x 0).testBit j = true → listed.getD j false = true) →
    ∀ (st stF : St) (g : Gh) (w : World) (β : Nat → Nat) (a : Act), nt ≤ a.tmps.size → runD call ((rem ops.size listed).map (elAt ops l)) st = some stF → Rel M g w β st a.tmps →
    ∀ Q : Exit → Act → World → Prop, (∀ a' w' st', Eqv stF st' → Good True M g w a st' a' w' → Q .normal a' w') → Go.wpAnyIn F m P .any ops Q fuel listed a w := by
  obtain ⟨hlen, hget⟩ := trOps_get htr
  have hll : l.length = ops.size := by simpa using hlen
  -- the least that is left is ready
  have noReady : ∀ {listed : Array Bool}, listed.size = ops.size → Go.Region.ready .any ops listed = [] → rem ops.size listed = [] := by
    intro listed hs hr
    cases hq : rem ops.size listed with
    | nil => rfl
    | cons i t =>
      exfalso
      have hi : i ∈ rem ops.size listed := by rw [hq]; simp
      obtain ⟨h1, h2⟩ := mem_rem.1 hi
      have : i ∈ Go.Region.ready .any ops listed := by
        rw [Go.mem_ready]
        refine ⟨h2, ops[i], by simp [h1], fun e he hb => ?_⟩
        simp only [lexI, List.all_eq_true] at hlex
        have h3 := hlex (ops[i], i) (by rw [List.mem_zipIdx_iff_getElem?]; simp [h1]) e (by simpa using he)
        simp only [hb, Bool.not_true, Bool.false_or, Nat.blt_eq] at h3
        -- it's smaller: listed
        cases hl : listed.getD e.on false with
        | true => rfl
        | false =>
          exfalso
          have : e.on ∈ rem ops.size listed := mem_rem.2 ⟨by omega, by
            have hlt : e.on < listed.size := by omega
            simp only [Array.getD_eq_getD_getElem?, Array.getElem?_eq_getElem hlt, Option.getD_some] at hl ⊢
            exact hl⟩
          have hp := rem_sorted ops.size listed
          rw [hq] at this hp
          rcases List.mem_cons.1 this with h | h
          · omega
          · have := (List.pairwise_cons.1 hp).1 _ h; omega
      rw [hr] at this
      cases this
  intro fuel
  induction fuel with
  | zero =>
    intro listed hs hf hcl st stF g w β a hnt hrun hR Q hQ
    have hrem : rem ops.size listed = [] := List.eq_nil_of_length_eq_zero hf
    rw [hrem] at hrun
    simp only [List.map_nil, runD, Option.some.injEq] at hrun
    subst hrun
    refine ⟨?_, hQ a w st (Eqv.refl _) ⟨⟨g, β, hR, Evo.refl g w, .refl⟩, rfl, fun _ => rfl⟩⟩
    cases hq : Go.Region.ready .any ops listed with
    | nil => rfl
    | cons i t =>
      exfalso
      have hi : i ∈ Go.Region.ready .any ops listed := by rw [hq]; simp
      rw [Go.mem_ready] at hi
      obtain ⟨h1, o, ho, _⟩ := hi
      have : i ∈ rem ops.size listed := mem_rem.2 ⟨(Array.getElem?_eq_some_iff.1 ho).1, h1⟩
      rw [hrem] at this; cases this
  | succ fuel ih =>
    intro listed hs hf hcl st stF g w β a hnt hrun hR Q hQ
    refine ⟨fun hr => ?_, fun i hi => ?_⟩
    · have := noReady hs hr
      rw [this] at hf; simp at hf
    · rw [Go.mem_ready] at hi
      obtain ⟨h1, o, ho, hpre⟩ := hi
      have hilt := (Array.getElem?_eq_some_iff.1 ho).1
      have him : i ∈ rem ops.size listed := mem_rem.2 ⟨hilt, h1⟩
      obtain ⟨pre, post, hrem⟩ := List.append_of_mem him
      -- what stands before i is listed
      have hbef : ∀ j, ((Go.Region.before ops).getD i 0).testBit j = true → listed.getD j false = true := fun j hj => by
        obtain ⟨e, he, hb, hj⟩ := before_spec ho hj
        have hl := hpre e (by simpa using he) hb
        rcases hj with rfl | hj
        · exact hl
        · exact hcl _ hl j hj
      have hwhole : (rem ops.size listed).map (elAt ops l) = pre.map (elAt ops l) ++ elAt ops l i :: post.map (elAt ops l) := by rw [hrem]; simp
      rw [hwhole] at hrun
      obtain ⟨q, hq1, hq2, hq3, hq4⟩ := hget i o (by simpa using ho)
      have hel : (elAt ops l i).1 = q := by simp [elAt, hq1]
      have hsorted := rem_sorted ops.size listed
      obtain ⟨st1, stF', hstep, hrest, heqv⟩ := to_front hlo (x := elAt ops l i) (pre := pre.map (elAt ops l)) (post := post.map (elAt ops l)) (fun y hy => by
          have : ∃ k, y = elAt ops l k := by
            simp only [List.mem_append, List.mem_map, List.mem_cons] at hy
            rcases hy with ⟨k, _, h⟩ | h | ⟨k, _, h⟩
            · exact ⟨k, h.symm⟩
            · exact ⟨i, h⟩
            · exact ⟨k, h.symm⟩
          obtain ⟨k, rfl⟩ := this
          intro hf
          have hf : flagAt ops l.length (l.getD k default) k = false := hf
          unfold flagAt at hf
          simp only [Bool.or_eq_false_iff, Bool.not_eq_false'] at hf
          exact hf.1) (fun y hy => by
          obtain ⟨k, hk, rfl⟩ := List.mem_map.1 hy
          have hkm : k ∈ rem ops.size listed := by rw [hrem]; simp [hk]
          have hki : k < i := by
            rw [hrem, List.pairwise_append] at hsorted
            exact hsorted.2.2 k hk i (by simp)
          have hnb : ((Go.Region.before ops).getD i 0).testBit k = false := by
            cases hq : ((Go.Region.before ops).getD i 0).testBit k with
            | false => rfl
            | true =>
              have := hbef k hq
              have h2 := (mem_rem.1 hkm).2
              have hlt : k < listed.size := by rw [hs]; exact (mem_rem.1 hkm).1
              simp only [Array.getD_eq_getD_getElem?, Array.getElem?_eq_getElem hlt, Option.getD_some] at this h2
              rw [this] at h2; cases h2
          have s1 : serialAt ops l.length i = false := by
            unfold serialAt
            rw [List.all_eq_false]
            refine ⟨k, by rw [List.mem_range]; omega, ?_⟩
            have b1 : Nat.beq k i = false := by
              cases hq : Nat.beq k i with
              | false => rfl
              | true => have := Nat.eq_of_beq_eq_true hq; omega
            have b2 : Nat.blt k i = true := by simpa using hki
            rw [b1, b2, cond_true, hnb]; simp
          have s2 : serialAt ops l.length k = false := by
            unfold serialAt
            rw [List.all_eq_false]
            refine ⟨i, by rw [List.mem_range]; omega, ?_⟩
            have b1 : Nat.beq i k = false := by
              cases hq : Nat.beq i k with
              | false => rfl
              | true => have := Nat.eq_of_beq_eq_true hq; omega
            have b2 : Nat.blt i k = false := by
              cases hq : Nat.blt i k with
              | false => rfl
              | true => have : i < k := by simpa using hq
                        omega
            rw [b1, b2, cond_false, hnb]; simp
          refine ⟨fun hf => ?_, fun hf => ?_⟩
          · show flagAt ops l.length (l.getD k default) k = false
            unfold flagAt
            rw [show (l.getD k default).k.free = true from hf, s2]; rfl
          · show flagAt ops l.length (l.getD i default) i = false
            unfold flagAt
            rw [show (l.getD i default).k.free = true from hf, s1]; rfl) (fun y hy => by
          obtain ⟨k, hk, rfl⟩ := List.mem_map.1 hy
          have hkm : k ∈ rem ops.size listed := by rw [hrem]; simp [hk]
          have hki : k < i := by
            rw [hrem, List.pairwise_append] at hsorted
            exact hsorted.2.2 k hk i (by simp)
          have hnb : ((Go.Region.before ops).getD i 0).testBit k = false := by
            cases hq : ((Go.Region.before ops).getD i 0).testBit k with
            | false => rfl
            | true =>
              have := hbef k hq
              have h2 := (mem_rem.1 hkm).2
              have hlt : k < listed.size := by rw [hs]; exact (mem_rem.1 hkm).1
              simp only [Array.getD_eq_getD_getElem?, Array.getElem?_eq_getElem hlt, Option.getD_some] at this h2
              rw [this] at h2; cases h2
          have hkl : k < l.length := by rw [hll]; omega
          have hil : i < l.length := by rw [hll]; omega
          have ek : (elAt ops l k).1 = l[k] := by simp [elAt, hkl]
          have ei : (elAt ops l i).1 = l[i] := by simp [elAt, hil]
          refine ⟨?_, fun n hn => ?_⟩
          · simp only [orderOk, List.all_eq_true] at hord
            have := hord (l[k], k) (by rw [List.mem_zipIdx_iff_getElem?]; simp [hkl]) (l[i], i) (by rw [List.mem_zipIdx_iff_getElem?]; simp [hil])
            simp only [Bool.or_eq_true, Bool.not_eq_true', hnb, Bool.false_eq_true, or_false] at this
            rw [ek, ei]
            refine apart_spec (this.resolve_left ?_)
            have hbl : Nat.blt k i = true := by simpa using hki
            rw [hbl]; simp
          · refine hasNat_mem ?_
            show n ∈ notYet ops l i
            unfold notYet
            rw [List.mem_flatMap]
            refine ⟨(l[k], k), by rw [List.mem_zipIdx_iff_getElem?]; simp [hkl], ?_⟩
            simp only [hnb, Bool.false_eq_true, if_false]
            rw [ek] at hn
            exact hn) hrun
      have hrem' := rem_set hs hrem
      have hf' : (rem ops.size (listed.setIfInBounds i true)).length = fuel := by
        rw [hrem'] ; rw [hrem] at hf; simp at hf ⊢; omega
      have hcl' : ∀ x, (listed.setIfInBounds i true).getD x false = true → ∀ j, ((Go.Region.before ops).getD x 0).testBit j = true → (listed.setIfInBounds i true).getD j false = true := by
        intro x hx j hj
        by_cases hxi : i = x
        · subst hxi; exact Go.getD_set_true (hbef j hj)
        · rw [Go.getD_set_ne false hxi] at hx
          exact Go.getD_set_true (hcl x hx j hj)
      have go : ∀ {g1 : Gh} {w1 : World} {β1 : Nat → Nat} {a1 : Act}, a1.tmps.size = a.tmps.size → DefOk g1 w w1 a.defers a1.defers → a1.defers = a.defers → Rel M g1 w1 β1 st1 a1.tmps → Evo g w g1 w1 → Go.wpAnyIn F m P .any ops Q fuel (listed.setIfInBounds i true) a1 w1 := by
        intro g1 w1 β1 a1 hs1 hd1 hq1 hR1 hE1
        refine ih _ (by simpa using hs) hf' hcl' st1 stF' g1 w1 β1 a1 (by rw [hs1]; exact hnt) (by rw [hrem', List.map_append]; exact hrest) hR1 Q (fun a' w' st' he hg => ?_)
        exact hQ a' w' st' (heqv.trans he) (hg.trans hE1 hs1 hd1 (fun _ => hq1) id)
      have hd : DstOk o a := fun n hn => Nat.lt_of_lt_of_le (hdst o (by
        have := Array.mem_of_getElem? ho
        simpa using this) n hn) hnt
      unfold Go.wpOpIn
      simp only [ho]
      unfold stepD at hstep
      rw [hel] at hstep
      split at hstep
      · rename_i hw
        rw [wanted_rep hR hq3 hw]
        simp only [if_true]
        refine wpIn_of_wp hF (hnd o (by
          have := Array.mem_of_getElem? ho
          simpa using this)) ?_
        split at hstep
        · rename_i r hr
          rw [Bool.cond_eq_ite] at hstep
          split at hstep
          · cases hstep
          · rename_i hp
            have hpan : r.pan = false := by
              simp only [Bool.or_eq_true, not_or] at hp
              simpa using hp.1
            have hput := putD_put hstep
            have hq5 := hr
            rw [hq4] at hq5
            have hq6 := orStuck_some hq5
            rw [← hq4] at hq6
            refine sim_op hcs hd hR hq6 (fun hloc hn => ?_) hr ⟨fun _ c w1 g1 β1 hR1 hE1 => ?_, fun hp2 => ?_⟩
            · rw [hn] at hloc; simp at hloc
            · rw [← hq2, hput, hq2] at hR1
              exact go (put_size _ _ _) (put_def _ _ _) (put_defers _ _ _) hR1 hE1
            · rw [hpan] at hp2; cases hp2
        · cases hstep
      · rename_i hw
        rw [wanted_rep hR hq3 hw]
        simp only [Bool.false_eq_true, if_false]
        simp only [Option.some.injEq] at hstep
        subst hstep
        refine ⟨fun f _ => hF.fn f, ?_⟩
        exact go (put_size _ _ _) (put_def _ _ _) (put_defers _ _ _) (by rw [hq2]; exact rel_skip hR hd) (Evo.refl g w)
      · cases hstep
theorem openSim (hm : P.follows .mixedOrders = true) (hcs : CallSim P M call) (hlo : CallLo call) : OpenSim P M call := by
  intro A rid ops l htr hlex hord st e st' hrun g w β a nt hdst hnt hR F m hF hnd Q hQ
  obtain ⟨rfl, hrunD⟩ := runOpsD_runD hrun
  have hll : l.length = ops.size := by simpa using (trOps_get htr).1
  refine Go.wpIn_region_any hm ?_
  have hall : ∀ i, i < ops.size → (Array.replicate ops.size false).getD i true = false := fun i hi => by simp [hi]
  have hrem : rem ops.size (Array.replicate ops.size false) = List.range ops.size := by
    unfold rem
    rw [List.filter_eq_self]
    intro i hi
    rw [hall i (by simpa using hi)]; rfl
  have hsm : SameMem w { w with drawn := w.drawn + 1 } := ⟨rfl, rfl, rfl⟩
  refine sim_any hcs hlo hF htr hlex hord hdst (nd_of hnd) ops.size _ (by simp) (by rw [hrem]; simp) (fun x hx => ?_) st st' g { w with drawn := w.drawn + 1 } β a hnt (by rw [hrem, ← hll, ← zip_els]; exact hrunD) (hR.sameMem hsm) Q (fun a' w' st2 he hg => ?_)
  · exfalso
    simp only [Array.getD_eq_getD_getElem?] at hx
    by_cases hlt : x < ops.size
    · simp [hlt] at hx
    · rw [Array.getElem?_eq_none (by simp; omega)] at hx; simp at hx
  · refine hQ .normal a' w' (show Post True M g w a .nrm st' .normal a' w' from ?_)
    obtain ⟨⟨g1, β1, hR1, hE1, hd1⟩, hs1, hq1⟩ := hg
    refine ⟨⟨g1, β1, ⟨?_, fun k => ?_, fun id o ho => ?_, hR1.fresh, hR1.gl⟩, (hsm.evo g).trans hE1, hd1.imp (fun ms h => ⟨h.1, MarksOk.base (w0 := { w with drawn := w.drawn + 1 }) (w0' := w) (Nat.le_refl _) h.2⟩)⟩, hs1, hq1⟩
    · rw [hR1.n, he.H]
    · rw [← he.e k]; exact hR1.e k
    · exact hR1.h id o (by rw [he.H]; exact ho)
theorem sound {pg : Pg} (hm : P.follows .mixedOrders = true) (hT : Tab P M pg) (hx : CallSim P M pg.ext) (hxlo : CallLo pg.ext) (n : Nat) : CallSim P M (callN pg n) := by
  have key : ∀ n, ExSim P M (exec pg n) := sim_exec (fun n h => sim_callWith hT hx (lo_exec hxlo n) h (exec_step n)) (fun n hcs => openSim hm hcs (lo_callWith hxlo (lo_exec hxlo n))) (fun n h => rangeSim hT.2 h)
  exact sim_callWith hT hx (lo_exec hxlo n) (key n) (exec_step n)
theorem sound_calls {pg : Pg} (hm : P.follows .mixedOrders = true) (hT : Tab P M pg) (hx : CallSim P M pg.ext) (hxlo : CallLo pg.ext) {n i : Nat} {vs : List V} {H : List Obj} {r : Cr} (hcall : callN pg n i vs H = some r) {f' : FuncId} (hlook : look M.fm f' = some i) (hext : pg.fn i ≠ none)
    {g : Gh} {w : World} {argv : List Value} (hargs : ArgsRep M g w 0 vs argv) (hH : RelH M g w H) : Go.Calls P f' argv.toArray w (CallPost M g w r) := by
  have key : ∀ n, ExSim P M (exec pg n) := sim_exec (fun n h => sim_callWith hT hx (lo_exec hxlo n) h (exec_step n)) (fun n hcs => openSim hm hcs (lo_callWith hxlo (lo_exec hxlo n))) (fun n h => rangeSim hT.2 h)
  exact (calls_callWith hT (lo_exec hxlo n) (key n) (exec_step n) hcall hlook hext hargs hH).1
end
end W

/-
  What the kernel works out of a call on closed data, as a fact about the call.
-/
set_option linter.unusedSimpArgs false
set_option linter.unusedVariables false
namespace W
open Go (IntKind BinOp UnOp)
mutual
def eqD : D → D → Bool
  | .b x, .b y => x == y
  | .i k x, .i k' y => eqK k k' && eqI x y
  | .s x, .s y => eqT x y
  | .nil, .nil => true
  | .sl x, .sl y => eqDs x y
  | .agg x, .agg y => eqDs x y
  | .np, .np => true
  | .nf, .nf => true
  | .ni, .ni => true
  | .nm, .nm => true
  | _, _ => false
def eqDs : List D → List D → Bool
  | [], [] => true
  | x :: l, y :: r => eqD x y && eqDs l r
  | _, _ => false
end
theorem eqK_id {k k' : IntKind} (h : eqK k k' = true) : k = k' := by cases k <;> cases k' <;> first | rfl | cases h
theorem eqI_id {x y : Int} (h : eqI x y = true) : x = y := by
  cases x <;> cases y <;> first | (have := Nat.eq_of_beq_eq_true h; subst this; rfl) | cases h
theorem eqT_id : ∀ {x y : List Nat}, eqT x y = true → x = y
  | [], [], _ => rfl
  | a :: x, b :: y, h => by
    simp only [eqT, Bool.and_eq_true] at h
    rw [Nat.eq_of_beq_eq_true h.1, eqT_id h.2]
  | [], _ :: _, h => by cases h
  | _ :: _, [], h => by cases h
mutual
theorem eqD_id : ∀ {x y : D}, eqD x y = true → x = y
  | .b x, y, h => by cases y <;> simp only [eqD] at h <;> first | cases h | skip; rw [eq_of_beq h]
  | .i k x, y, h => by
    cases y <;> simp only [eqD] at h <;> first | cases h | skip
    simp only [Bool.and_eq_true] at h
    rw [eqK_id h.1, eqI_id h.2]
  | .s x, y, h => by cases y <;> simp only [eqD] at h <;> first | cases h | skip; rw [eqT_id h]
  | .nil, y, h => by cases y <;> simp only [eqD] at h <;> first | rfl | (cases h; done) | (cases h; rfl)
  | .sl x, y, h => by cases y <;> simp only [eqD] at h <;> first | cases h | skip; rw [eqDs_id h]
  | .agg x, y, h => by cases y <;> simp only [eqD] at h <;> first | cases h | skip; rw [eqDs_id h]
  | .np, y, h => by cases y <;> simp only [eqD] at h <;> first | rfl | (cases h; done) | (cases h; rfl)
  | .nf, y, h => by cases y <;> simp only [eqD] at h <;> first | rfl | (cases h; done) | (cases h; rfl)
  | .ni, y, h => by cases y <;> simp only [eqD] at h <;> first | rfl | (cases h; done) | (cases h; rfl)
  | .nm, y, h => by cases y <;> simp only [eqD] at h <;> first | rfl | (cases h; done) | (cases h; rfl)
theorem eqDs_id : ∀ {x y : List D}, eqDs x y = true → x = y
  | [], [], _ => rfl
  | a :: x, b :: y, h => by
    simp only [eqDs, Bool.and_eq_true] at h
    rw [eqD_id h.1, eqDs_id h.2]
  | [], _ :: _, h => by simp [eqDs] at h
  | _ :: _, [], h => by simp [eqDs] at h
end
def eqVs : List V → List D → Bool
  | [], [] => true
  | .d x :: l, y :: r => eqD x y && eqVs l r
  | _, _ => false
theorem eqVs_id : ∀ {l : List V} {r : List D}, eqVs l r = true → l = r.map .d
  | [], [], _ => rfl
  | v :: l, y :: r, h => by
    cases v with
    | d x =>
      simp only [eqVs, Bool.and_eq_true] at h
      rw [eqD_id h.1, eqVs_id h.2]; rfl
    | _ => cases h
  | [], _ :: _, h => by simp [eqVs] at h
  | v :: _, [], h => by cases v <;> simp [eqVs] at h
def isD (r : Option Cr) (x : D) : Bool := match r with
  | some ⟨false, true, .d y, _, _⟩ => eqD y x
  | _ => false
def isOsl (r : Option Cr) (x : List D) : Bool := match r with
  | some ⟨false, true, .osl y, _, _⟩ => eqDs y x
  | _ => false
def isTup (r : Option Cr) (x : List D) : Bool := match r with
  | some ⟨false, true, .tup y, _, _⟩ => eqVs y x
  | _ => false
theorem call_same {pg : Pg} (hx : CallLo pg.ext) {f : Nat} {vs : List V} {H H' : List Obj} {v : V} {lo : Nat} (h : callL pg f vs H = some ⟨false, true, v, H', lo⟩) : callL pg f vs H = some ⟨false, true, v, H, lo⟩ := by
  obtain ⟨n, hn⟩ := callL_iff.1 h
  have hlo := (lo_callWith hx (lo_exec hx n) _ _ _ _ hn).2.2 rfl
  simp only at hlo
  rw [hlo] at h
  exact h
theorem isD_call {pg : Pg} (hx : CallLo pg.ext) {N f : Nat} {vs : List V} {H : List Obj} {x : D} (h : isD (callJ pg N f vs H) x = true) : ∃ lo, callL pg f vs H = some ⟨false, true, .d x, H, lo⟩ := by
  unfold isD at h
  split at h
  · rename_i y H' lo hr
    rw [eqD_id h] at hr
    exact ⟨lo, call_same hx (callJ_lim hr)⟩
  · cases h
theorem isOsl_call {pg : Pg} (hx : CallLo pg.ext) {N f : Nat} {vs : List V} {H : List Obj} {x : List D} (h : isOsl (callJ pg N f vs H) x = true) : ∃ lo, callL pg f vs H = some ⟨false, true, .osl x, H, lo⟩ := by
  unfold isOsl at h
  split at h
  · rename_i y H' lo hr
    rw [eqDs_id h] at hr
    exact ⟨lo, call_same hx (callJ_lim hr)⟩
  · cases h
theorem isTup_call {pg : Pg} (hx : CallLo pg.ext) {N f : Nat} {vs : List V} {H : List Obj} {x : List D} (h : isTup (callJ pg N f vs H) x = true) : ∃ lo, callL pg f vs H = some ⟨false, true, .tup (x.map .d), H, lo⟩ := by
  unfold isTup at h
  split at h
  · rename_i y H' lo hr
    rw [eqVs_id h] at hr
    exact ⟨lo, call_same hx (callJ_lim hr)⟩
  · cases h
theorem noExt_lo {fn : Nat → Option Fn} : CallLo (Pg.mk fn fun _ _ _ => none).ext := fun _ _ _ _ h => by cases h
end W

set_option linter.unusedSimpArgs false
set_option linter.unusedVariables false
namespace W
open Go (IntKind BinOp UnOp)
set_option maxRecDepth 20000
def pg : Pg := ⟨prog, fun _ _ _ => none⟩
theorem ext_lo : CallLo pg.ext := noExt_lo
theorem basic_call {n : Int} {H : List Obj} : callL pg 19 [.d (.i .i64 n)] H = some ⟨false, true, .d (.agg [.i .i64 n, .i .i64 0, .s [], .nil]), H, H.length⟩ := by
  rw [callL_fn (fn := f_waferref11_Basic) rfl rfl]
  simp only [f_waferref11_Basic, argEnv_cons, Nat.zero_add, argEnv_nil, exL_seq, exL_ops, runOps_n, evalK_allocL, List.map_cons, List.map_nil, opC_ok, put_box, killLp_cons, killV_d, killLp_nil, runOps_nil, thenC_nrm, evalK_mov, rd_t, reduceCtorEq, get_ne, get_eq, readV_d, spent_t, put_d, evalK_build, one_i, cells_d1, vone_d, List.length_cons, List.length_nil, Nat.reduceAdd, Nat.reduceLT, fillC_1, List.set_cons_zero, fillC_nil, aggO_some, mkAgg_eq, allD_d, allD_nil, consD_some, aggV_some, okS_some, evalK_store, Nat.reduceEqDiff, readV_box, storeV_lp, cells_agg, ones_cons, one_s, one_nil, ones_nil, Bool.and_self, storeB_box, setCells_all, storeR_some, put_none, exL_ret, finC_ret, resultVs_cons, resultV_cell, resC_box, Nat.reduceLeDiff, boxV_A, List.drop_zero, List.take_succ_cons, List.take_zero, copy1_d, resultVs_nil, consO_some, leaveC_1, leaves_d, ref_d, settle_d, leave_pure]
  all_goals rfl
theorem arr_call {n f m : Int} {s : List Nat} {o : D} (ho : o = .nil ∨ ∃ l, o = .sl l) {H : List Obj} : callL pg 16 [.d (.i .i64 n), .d (.agg [.i .i64 f, .i .i64 m, .s s, o])] H = some ⟨false, true, .d (.agg [.i .i64 7, .i .i64 n, .s [], .sl [.agg [.i .i64 f, .i .i64 m, .s s, o]]]), H, H.length⟩ := by
  rw [callL_fn (fn := f_waferref11_Arr) rfl rfl]
  rcases ho with rfl | ⟨l, rfl⟩
  all_goals simp only [f_waferref11_Arr, argEnv_cons, Nat.zero_add, Nat.reduceAdd, argEnv_nil, exL_seq, exL_ops, runOps_n, evalK_box, rd_t, reduceCtorEq, get_ne, get_eq, readV_d, spent_t, cells_agg, List.map_cons, List.map_nil, ones_cons, vone_d, one_i, one_s, one_nil, ones_nil, Bool.and_self, boxN_t, opC_ok, put_box, killLp_cons, killV_d, killLp_nil, evalK_allocL, killV_box, runOps_nil, thenC_nrm, evalK_mov, put_d, evalK_load, Nat.reduceEqDiff, readV_box, loadV_lp, List.length_cons, List.length_nil, Nat.reduceLeDiff, boxV_A, List.drop_zero, List.take_succ_cons, List.take_zero, copy1_d, mkAgg_eq, allD_d, allD_nil, consD_some, aggV_some, okS_some, evalK_buildSlice, dcells_agg, List.reduceReplicate, Nat.reduceLT, fillD_cons, List.set_cons_zero, fillD_nil, wfs_cons, wf_agg, dones_cons, dones_nil, wfs_nil, slO_some, put_osl, evalK_build, rd_c, readV_osl, cells_d1, fillC_1, List.set_cons_succ, one_sl, fillC_nil, aggO_some, evalK_store, storeV_lp, storeB_box, setCells_all, storeR_some, put_none, exL_ret, finC_ret, resultVs_cons, resultV_cell, resC_box, resultVs_nil, consO_some, leaveC_1, leaves_d, ref_d, settle_d, leave_pure]
  all_goals rfl
theorem known_run : isD (callJ pg 3000 7 [] []) (.b true) = true := by decide +kernel
theorem known_call : ∃ lo, callL pg 7 [] [] = some ⟨false, true, .d (.b true), [], lo⟩ := isD_call ext_lo known_run
def itemsD : D → List D
  | .sl l => l
  | _ => []
def TyOk : Nat → D → Prop
  | 0, _ => False
  | n + 1, x => ∃ f m s o, x = .agg [.i .i64 f, .i .i64 m, .s s, o] ∧ (o = .nil ∨ ∃ l, o = .sl l) ∧ ((itemsD o).length : Int) ≤ 9223372036854775807 ∧ ∀ y ∈ itemsD o, TyOk n y
theorem TyOk.up : ∀ {n : Nat} {x : D}, TyOk n x → TyOk (n + 1) x
  | 0, x, h => h.elim
  | n + 1, x, h => by
    obtain ⟨f, m, s, o, rfl, ho, hl, hi⟩ := h
    exact ⟨f, m, s, o, rfl, ho, hl, fun y hy => (hi y hy).up⟩
theorem TyOk.le {n m : Nat} (h : n ≤ m) {x : D} (hx : TyOk n x) : TyOk m x := by
  induction h with
  | refl => exact hx
  | step _ ih => exact ih.up
theorem TyOk.cells {n : Nat} {x : D} (h : TyOk n x) : x.cells.length = 4 := by
  cases n with
  | zero => exact h.elim
  | succ n => obtain ⟨f, m, s, o, rfl, _⟩ := h; rfl
structure OfOk (o : D) : Prop where
  is : o = .nil ∨ ∃ l, o = .sl l
  len : ∀ H, lenV .lenL (.d o) H = some (.d (.i .i64 ((itemsD o).length : Nat)))
  load : ∀ st, loadV none ⟨1, false⟩ st (.cp o) = some (.d o)
  one : o.one = true
theorem ofOk {o : D} (h : o = .nil ∨ ∃ l, o = .sl l) : OfOk o := by
  rcases h with rfl | ⟨l, rfl⟩
  · exact ⟨.inl rfl, fun _ => rfl, fun _ => rfl, rfl⟩
  · exact ⟨.inr ⟨l, rfl⟩, fun _ => rfl, fun _ => rfl, rfl⟩
theorem of_ix {o y : D} {n : Nat} (hy : (itemsD o)[n]? = some y) (hc : y.cells.length = 4) {k : IntKind} : iaV (.d o) (.d (.i k (n : Nat))) 4 none = some (.cp y) := by
  cases o with
  | sl l => exact iaV_sl (by omega) (by simpa [itemsD] using hy) (eq_true hc)
  | _ => simp [itemsD] at hy
theorem load4 {a b c d : D} {st : St} : loadV none ⟨4, true⟩ st (.cp (.agg [a, b, c, d])) = some (.d (.agg [a, b, c, d])) := rfl
def all2 (f : D → D → Bool) : List D → List D → Bool
  | [], [] => true
  | a :: l, b :: r => f a b && all2 f l r
  | _, _ => false
def sameN : Nat → D → D → Bool
  | n + 1, .agg [.i _ f, .i _ m, .s s, o], .agg [.i _ f', .i _ m', .s s', o'] =>
    if f = f' then (if f = 7 then decide (m = m') && all2 (sameN n) (itemsD o) (itemsD o') else if f = 8 ∨ f = 9 then decide (s = s') else true) else false
  | _, _, _ => false
theorem all2_len {f : D → D → Bool} : ∀ {l r : List D}, l.length ≠ r.length → all2 f l r = false
  | [], [], h => by simp at h
  | [], _ :: _, _ => rfl
  | _ :: _, [], _ => rfl
  | a :: l, b :: r, h => by
    simp only [all2]
    rw [all2_len (by simpa using h)]
    simp
theorem drop_cons {l : List D} {i : Nat} {y : D} (h : l[i]? = some y) : l.drop i = y :: l.drop (i + 1) := by
  obtain ⟨hi, rfl⟩ := List.getElem?_eq_some_iff.1 h
  exact List.drop_eq_getElem_cons hi
end W

set_option linter.unusedSimpArgs false
set_option linter.unusedVariables false
namespace W
open Go (IntKind BinOp UnOp)
set_option maxRecDepth 20000
theorem plain_call {f : Int} {H : List Obj} : callL pg 33 [.d (.i .i64 f)] H = some ⟨false, true, .d (.b (decide (1 ≤ f ∧ f ≤ 4))), H, H.length⟩ := by
  rw [callL_fn (fn := f_types_plain) rfl rfl]
  by_cases h1 : (1 : Int) ≤ f
  · by_cases h2 : f ≤ 4
    · simp only [f_types_plain, argEnv_cons, Nat.zero_add, argEnv_nil, exL_seq, exL_ops, runOps_n, evalK_mov, rd_c, spent_c, opC_ok, put_d, runOps_nil, thenC_nrm, rd_t, reduceCtorEq, get_ne, get_eq, readV_d, spent_t, evalK_bin, isC_t, isC_c, Bool.or_true, bin_geq, eq_true h1, decide_true, okS_some, runOps_g, wantG_bt, wantC_b, ↓reduceIte, Nat.reduceEqDiff, bin_leq, eq_true h2, evalK_pick, pickV_b, exL_ret, finC_ret, resultVs_cons, resultV_t, ownV_d, resultVs_nil, consO_some, leaveC_1, leaves_d, ref_d, settle_d, leave_pure]
      all_goals simp [*]
    · simp only [f_types_plain, argEnv_cons, Nat.zero_add, argEnv_nil, exL_seq, exL_ops, runOps_n, evalK_mov, rd_c, spent_c, opC_ok, put_d, runOps_nil, thenC_nrm, rd_t, reduceCtorEq, get_ne, get_eq, readV_d, spent_t, evalK_bin, isC_t, isC_c, Bool.or_true, bin_geq, eq_true h1, decide_true, okS_some, runOps_g, wantG_bt, wantC_b, ↓reduceIte, Nat.reduceEqDiff, bin_leq, eq_false h2, decide_false, evalK_pick, pickV_b, exL_ret, finC_ret, resultVs_cons, resultV_t, ownV_d, resultVs_nil, consO_some, leaveC_1, leaves_d, ref_d, settle_d, leave_pure]
      all_goals simp [*]
  · simp only [f_types_plain, argEnv_cons, Nat.zero_add, argEnv_nil, exL_seq, exL_ops, runOps_n, evalK_mov, rd_c, spent_c, opC_ok, put_d, runOps_nil, thenC_nrm, rd_t, reduceCtorEq, get_ne, get_eq, readV_d, spent_t, evalK_bin, isC_t, isC_c, Bool.or_true, bin_geq, eq_false h1, decide_false, okS_some, runOps_g, wantG_bt, wantC_b, Bool.false_eq_true, ↓reduceIte, put_tup, Nat.reduceEqDiff, evalK_pick, readV_tup, pickV_f, exL_ret, finC_ret, resultVs_cons, resultV_t, ownV_d, resultVs_nil, consO_some, leaveC_1, leaves_d, ref_d, settle_d, leave_pure]
    all_goals simp [*]
structure RecE where
  k : List Nat
  nm : List Nat
  ex : Bool
  base : List Nat
  fs : D
def recD (r : RecE) : D := .agg [.s r.nm, .b r.ex, .s r.base, r.fs]
def esR (R : List RecE) : List (D × V) := R.map fun r => (.s r.k, .d (recD r))
def findR (a : List Nat) : List RecE → Option RecE
  | [] => none
  | r :: R => if a = r.k then some r else findR a R
def nextR (R : List RecE) (a : List Nat) : Option (List Nat) := match findR a R with
  | none => none
  | some r => if r.base = [] then none else some r.base
def extF (R : List RecE) : Nat → List Nat → List Nat → Bool
  | 0, _, _ => false
  | n + 1, a, b => if a = b then true else match nextR R a with
    | none => false
    | some a' => extF R n a' b
theorem same_s (a b : List Nat) : D.same (.s a) (.s b) = some (decide (a = b)) := by simp only [D.same, eqT_d]
theorem keyFind_esR (a : List Nat) : ∀ R : List RecE, keyFind (.s a) (esR R) = some ((findR a R).map fun r => .d (recD r))
  | [] => rfl
  | r :: R => by
    have ih := keyFind_esR a R
    simp only [esR, List.map_cons, keyFind, same_s, findR] at ih ⊢
    by_cases h : a = r.k
    · simp [h]
    · simp only [h, decide_false, if_false]
      exact ih
theorem findR_mem {a : List Nat} : ∀ {R : List RecE} {r : RecE}, findR a R = some r → r ∈ R ∧ r.k = a
  | [], r, h => by cases h
  | x :: R, r, h => by
    simp only [findR] at h
    split at h
    · rename_i e
      cases h
      exact ⟨by simp, e.symm⟩
    · obtain ⟨h1, h2⟩ := findR_mem h
      exact ⟨by simp [h1], h2⟩
def seenE (vis : List (List Nat)) : List (D × V) := vis.map fun a => (.s a, .d (.b true))
theorem keyFind_seen (a : List Nat) : ∀ vis : List (List Nat), keyFind (.s a) (seenE vis) = some (if a ∈ vis then some (.d (.b true)) else none)
  | [] => rfl
  | x :: vis => by
    have ih := keyFind_seen a vis
    simp only [seenE, List.map_cons, keyFind, same_s] at ih ⊢
    by_cases h : a = x
    · simp [h]
    · simp only [h, decide_false]
      rw [ih]
      simp [h]
theorem keySet_seen {a : List Nat} : ∀ {vis : List (List Nat)}, a ∉ vis → keySet (.s a) (.d (.b true)) (seenE vis) = some (seenE (vis ++ [a]))
  | [], _ => rfl
  | x :: vis, h => by
    have h1 : a ≠ x := fun e => h (by simp [e])
    have ih := keySet_seen (a := a) (vis := vis) (fun hm => h (by simp [hm]))
    simp only [seenE, List.map_cons, List.cons_append, keySet, same_s, h1, decide_false] at ih ⊢
    rw [ih]
theorem setAt_push {H : List Obj} {o o' : Obj} : setAt (H ++ [o]) H.length o' = H ++ [o'] := by simp [setAt]
theorem nodup_sub {α : Type} [DecidableEq α] : ∀ {l m : List α}, l.Nodup → (∀ x ∈ l, x ∈ m) → l.length ≤ m.length
  | [], m, _, _ => by simp
  | a :: l, m, h, hs => by
    have h' := List.nodup_cons.1 h
    have ha := hs a (by simp)
    have := nodup_sub (l := l) (m := m.erase a) h'.2 (fun x hx => by
      have : x ≠ a := fun e => h'.1 (e ▸ hx)
      exact (List.mem_erase_of_ne this).2 (hs x (by simp [hx])))
    rw [List.length_erase_of_mem ha] at this
    have : 0 < m.length := List.length_pos_of_mem ha
    simp only [List.length_cons]; omega
theorem extF_cyc {R : List RecE} {vis : List (List Nat)} {b : List Nat} (h : ∀ x ∈ vis, x ≠ b ∧ ∃ y, nextR R x = some y ∧ y ∈ vis) : ∀ (n : Nat) (a : List Nat), a ∈ vis → extF R n a b = false
  | 0, _, _ => rfl
  | n + 1, a, ha => by
    obtain ⟨h1, y, h2, h3⟩ := h a ha
    simp only [extF, if_neg h1, h2]
    exact extF_cyc h n y h3
structure InvX (R : List RecE) (b : List Nat) (vis : List (List Nat)) (a : List Nat) : Prop where
  nd : vis.Nodup
  st : ∀ x ∈ vis, x ≠ b ∧ ∃ y, nextR R x = some y ∧ (y ∈ vis ∨ y = a)
theorem InvX.len {R : List RecE} {b : List Nat} {vis : List (List Nat)} {a : List Nat} (h : InvX R b vis a) : vis.length ≤ R.length := by
  have := nodup_sub (m := R.map (·.k)) h.nd (fun x hx => by
    obtain ⟨_, y, hy, _⟩ := h.st x hx
    unfold nextR at hy
    split at hy
    · cases hy
    · rename_i r hr
      obtain ⟨h1, h2⟩ := findR_mem hr
      exact List.mem_map.2 ⟨r, h1, h2⟩)
  simpa using this
theorem InvX.step {R : List RecE} {b : List Nat} {vis : List (List Nat)} {a a' : List Nat} (h : InvX R b vis a) (hn : a ∉ vis) (hb : a ≠ b) (ha : nextR R a = some a') : InvX R b (vis ++ [a]) a' := by
  refine ⟨?_, fun x hx => ?_⟩
  · rw [List.nodup_append]
    exact ⟨h.nd, by simp, fun x hx y hy => by simp at hy; subst hy; exact fun e => hn (e ▸ hx)⟩
  · rw [List.mem_append] at hx
    rcases hx with hx | hx
    · obtain ⟨h1, y, h2, h3⟩ := h.st x hx
      refine ⟨h1, y, h2, .inl ?_⟩
      rcases h3 with h3 | rfl
      · simp [h3]
      · simp
    · simp at hx; subst hx
      exact ⟨hb, a', ha, .inr rfl⟩
theorem InvX.cyc {R : List RecE} {b : List Nat} {vis : List (List Nat)} {a : List Nat} (h : InvX R b vis a) (hm : a ∈ vis) (n : Nat) : extF R n a b = false :=
  extF_cyc (fun x hx => by
    obtain ⟨h1, y, h2, h3⟩ := h.st x hx
    exact ⟨h1, y, h2, by rcases h3 with h3 | rfl <;> assumption⟩) n a hm
theorem ext_loop {H : List Obj} {R : List RecE} {id : Nat} (hid : H[id]? = some (.map (esR R))) (hfs : ∀ r ∈ R, r.fs.one = true) {b : List Nat} : ∀ (k : Nat) (vis : List (List Nat)) (a : List Nat), R.length - vis.length = k → InvX R b vis a →
    finC H true [.t 6] (thenC pg (blockC 0 [] (f_types_Extends_l0 pg (.d (.s a)) (.d (.s b)) (.map id) (.map H.length) (H ++ [.map (seenE vis)]) H.length)) f_types_Extends_R1)
      = some ⟨false, true, .d (.b (extF R (R.length + 1 - vis.length) a b)), H, H.length⟩ := by
  intro k
  induction k using Nat.strongRecOn with
  | ind k ih =>
    intro vis a hk inv
    have hold : ∀ l, (H ++ l)[id]? = some (.map (esR R)) := fun l => push_old hid
    have hlen := inv.len
    rw [f_types_Extends_l0_eq]
    by_cases hm : a ∈ vis
    · rw [inv.cyc hm]
      simp only [f_types_Extends_B0, keepV_d, keepV_map, exL_seq, exL_ops, runOps_n, evalK_mov, rd_t, reduceCtorEq, get_ne, Nat.reduceEqDiff, get_eq, readV_map, spent_t, opC_ok, put_map, readV_d, put_d, evalK_lookup, lookV_sE, push_get, lookE_map, keyFind_seen, eq_true hm, ↓reduceIte, findV_f, copy_d, okS_some, evalK_un, un_not, Bool.not_true, Option.map_some, runOps_nil, thenC_nrm, exL_cond, condC_b, Bool.false_eq_true, exL_exit, thenC_exit, blockC_exit, restrict_nil, f_types_Extends_R1, rd_c, spent_c, exL_ret, finC_ret, resultVs_cons, resultV_t, ownV_d, resultVs_nil, consO_some, leaveC_1, leaves_d, ref_d, settle_d, leave_pure]
    · have hs := keySet_seen hm
      rw [show R.length + 1 - vis.length = (R.length - vis.length) + 1 by omega]
      simp only [extF]
      by_cases hb : a = b
      · simp only [f_types_Extends_B0, keepV_d, keepV_map, exL_seq, exL_ops, runOps_n, evalK_mov, rd_t, reduceCtorEq, get_ne, Nat.reduceEqDiff, get_eq, readV_map, spent_t, opC_ok, put_map, readV_d, put_d, evalK_lookup, lookV_sE, push_get, lookE_map, keyFind_seen, eq_false hm, ↓reduceIte, findV_f0, okS_some, evalK_un, un_not, Bool.not_false, Option.map_some, runOps_nil, thenC_nrm, exL_cond, condC_b, exL_skip, exL_block, evalK_bin, isC_t, Bool.or_self, bin_seql, eq_true hb, decide_true, rd_c, spent_c, exL_ret, thenC_ret, blockC_ret, finC_ret, resultVs_cons, resultV_t, ownV_d, resultVs_nil, consO_some, leaveC_1, leaves_d, ref_d, settle_d, leave_pure]
      · simp only [nextR]
        cases hr : findR a R with
        | none =>
          simp only [f_types_Extends_B0, keepV_d, keepV_map, exL_seq, exL_ops, runOps_n, evalK_mov, rd_t, reduceCtorEq, get_ne, Nat.reduceEqDiff, get_eq, readV_map, spent_t, opC_ok, put_map, readV_d, put_d, evalK_lookup, lookV_sE, push_get, lookE_map, keyFind_seen, eq_false hm, ↓reduceIte, findV_f0, okS_some, evalK_un, un_not, Bool.not_false, Option.map_some, runOps_nil, thenC_nrm, exL_cond, condC_b, exL_skip, exL_block, evalK_bin, isC_t, Bool.or_self, bin_seql, eq_false hb, decide_false, Bool.false_eq_true, evalK_mapUpdate, spent_c, rd_c, ok_d, updV_sE, updE_map, hs, setO_some, setAt_push, Nat.min_self, put_none, hold, keyFind_esR, hr, Option.map_none, findV_t0, put_tup, readV_tup, evalK_extract, extV_0, copy_d, extV_1, evalK_allocL, List.map_cons, List.map_nil, put_box, killLp_cons, killV_d, killV_tup, killV_map, killLp_nil, evalK_store, readV_box, storeV_lp, cells_agg, List.length_cons, List.length_nil, Nat.zero_add, Nat.reduceAdd, ones_cons, vone_d, one_s, one_b, one_nil, ones_nil, Bool.and_self, storeB_box, setCells_all, storeR_some, runOps_g, wantG_bf, Bool.not_true, wantC_b, evalK_pick, pickV_t, exL_ret, thenC_ret, blockC_ret, finC_ret, resultVs_cons, resultV_t, ownV_d, resultVs_nil, consO_some, leaveC_1, leaves_d, ref_d, settle_d, leave_pure]
        | some r =>
          obtain ⟨k0, nm, ex, base, fs⟩ := r
          have hf1 : fs.one = true := hfs _ (findR_mem hr).1
          by_cases h0 : base = []
          · simp only [f_types_Extends_B0, keepV_d, keepV_map, exL_seq, exL_ops, runOps_n, evalK_mov, rd_t, reduceCtorEq, get_ne, Nat.reduceEqDiff, get_eq, readV_map, spent_t, opC_ok, put_map, readV_d, put_d, evalK_lookup, lookV_sE, push_get, lookE_map, keyFind_seen, eq_false hm, ↓reduceIte, findV_f0, okS_some, evalK_un, un_not, Bool.not_false, Option.map_some, runOps_nil, thenC_nrm, exL_cond, condC_b, exL_skip, exL_block, evalK_bin, isC_t, Bool.or_self, bin_seql, eq_false hb, decide_false, Bool.false_eq_true, evalK_mapUpdate, spent_c, rd_c, ok_d, updV_sE, updE_map, hs, setO_some, setAt_push, Nat.min_self, put_none, hold, keyFind_esR, recD, hr, findV_t, copy_d, put_tup, readV_tup, evalK_extract, extV_0, extV_1, evalK_allocL, List.map_cons, List.map_nil, put_box, killLp_cons, killV_d, killV_tup, killV_map, killLp_nil, evalK_store, readV_box, storeV_lp, cells_agg, List.length_cons, List.length_nil, Nat.zero_add, Nat.reduceAdd, ones_cons, vone_d, one_s, one_b, hf1, ones_nil, Bool.and_self, storeB_box, setCells_all, storeR_some, Bool.not_true, runOps_g, wantG_bf, wantC_b, evalK_fieldAddr, faV_lp, put_lp, evalK_load, readV_lp, loadV_lp, boxV_1, List.getElem?_cons_succ, List.getElem?_cons_zero, copy1_d, isC_c, Bool.or_true, eq_true h0, decide_true, evalK_pick, pickV_b, exL_ret, thenC_ret, blockC_ret, finC_ret, resultVs_cons, resultV_t, ownV_d, resultVs_nil, consO_some, leaveC_1, leaves_d, ref_d, settle_d, leave_pure]
          · have inv' := inv.step hm hb (a' := base) (by simp [nextR, hr, h0])
            have hl' := inv'.len
            simp only [List.length_append, List.length_cons, List.length_nil] at hl'
            have ih' := ih (R.length - (vis ++ [a]).length) (by simp; omega) (vis ++ [a]) base rfl inv'
            simp only [f_types_Extends_B0, keepV_d, keepV_map, exL_seq, exL_ops, runOps_n, evalK_mov, rd_t, reduceCtorEq, get_ne, Nat.reduceEqDiff, get_eq, readV_map, spent_t, opC_ok, put_map, readV_d, put_d, evalK_lookup, lookV_sE, push_get, lookE_map, keyFind_seen, eq_false hm, ↓reduceIte, findV_f0, okS_some, evalK_un, un_not, Bool.not_false, Option.map_some, runOps_nil, thenC_nrm, exL_cond, condC_b, exL_skip, exL_block, evalK_bin, isC_t, Bool.or_self, bin_seql, eq_false hb, decide_false, Bool.false_eq_true, evalK_mapUpdate, spent_c, rd_c, ok_d, updV_sE, updE_map, hs, setO_some, setAt_push, Nat.min_self, put_none, hold, keyFind_esR, recD, hr, findV_t, copy_d, put_tup, readV_tup, evalK_extract, extV_0, extV_1, evalK_allocL, List.map_cons, List.map_nil, put_box, killLp_cons, killV_d, killV_tup, killV_map, killLp_nil, evalK_store, readV_box, storeV_lp, cells_agg, List.length_cons, List.length_nil, Nat.zero_add, Nat.reduceAdd, ones_cons, vone_d, one_s, one_b, hf1, ones_nil, Bool.and_self, storeB_box, setCells_all, storeR_some, Bool.not_true, runOps_g, wantG_bf, wantC_b, evalK_fieldAddr, faV_lp, put_lp, evalK_load, readV_lp, loadV_lp, boxV_1, List.getElem?_cons_succ, List.getElem?_cons_zero, copy1_d, isC_c, Bool.or_true, eq_false h0, evalK_pick, pickV_b, blockC_nrm, restrict_cons, restrict_nil, f_types_Extends_l0_in]
            refine ih'.trans ?_
            simp only [List.length_append, List.length_cons, List.length_nil]
            rw [show R.length + 1 - (vis.length + (0 + 1)) = R.length - vis.length by omega]
theorem ext_call {H : List Obj} {R : List RecE} {id : Nat} (hid : H[id]? = some (.map (esR R))) (hfs : ∀ r ∈ R, r.fs.one = true) {a b : List Nat} :
    callL pg 13 [.d (.s a), .d (.s b), .map id] H = some ⟨false, true, .d (.b (extF R (R.length + 1) a b)), H, H.length⟩ := by
  rw [callL_fn (fn := f_types_Extends) rfl rfl]
  have hl := ext_loop hid hfs (b := b) _ [] a rfl ⟨by simp, fun x hx => by cases hx⟩
  simp only [f_types_Extends, argEnv_cons, Nat.zero_add, Nat.reduceAdd, argEnv_nil, exL_seq, exL_ops, runOps_n, evalK_mov, rd_c, spent_c, opC_ok, put_d, runOps_nil, thenC_nrm, evalK_mkMap, put_map, rd_t, get_eq, readV_map, spent_t, exL_block, f_types_Extends_l0_in, reduceCtorEq, get_ne, keepV_d, Nat.reduceEqDiff, keepV_map]
  exact hl
theorem evalK_lenM {call : Call} {x : O} {st : St} : evalK call (.bi .lenM [x]) st = okS (lenV .lenM (rd st.env x) st.H) st := by
  show eLenM x st = _
  unfold eLenM lenV
  cases rd st.env x with
  | d w => cases w <;> rfl
  | map id =>
    simp only
    cases st.H[id]? with
    | none => rfl
    | some o => cases o <;> rfl
  | _ => rfl
theorem refext_loop {H : List Obj} {R : List RecE} {id : Nat} (hid : H[id]? = some (.map (esR R))) (hfs : ∀ r ∈ R, r.fs.one = true) (hR : R.length ≤ 1000) {b : List Nat} : ∀ (k i : Nat) (a : List Nat), R.length + 1 - i = k → i ≤ R.length + 1 →
    finC H true [.t 6] (thenC pg (blockC 0 [] (f_waferref11_Extends_l0 pg (.d (.s a)) (.d (.s b)) (.map id) (.d (.i .i64 (i : Nat))) H H.length)) f_waferref11_Extends_R1)
      = some ⟨false, true, .d (.b (extF R (R.length + 1 - i) a b)), H, H.length⟩
  | 0, i, a, hk, hi => by
    have hm : lenV .lenM (.map id) H = some (.d (.i .i64 (R.length : Nat))) := by simp [lenV, hid, esR]
    have hlt : ((i : Int) ≤ ((R.length : Nat) : Int)) = False := eq_false (by omega)
    rw [hk, f_waferref11_Extends_l0_eq]
    simp only [f_waferref11_Extends_B0, keepV_d, keepV_map, exL_seq, exL_ops, runOps_n, evalK_mov, rd_t, reduceCtorEq, get_ne, Nat.reduceEqDiff, get_eq, readV_d, spent_t, opC_ok, put_d, readV_map, put_map, evalK_lenM, hm, okS_some, evalK_bin, isC_t, Bool.or_self, bin_leq, hlt, decide_false, runOps_nil, thenC_nrm, exL_cond, condC_b, Bool.false_eq_true, ↓reduceIte, exL_exit, thenC_exit, blockC_exit, restrict_nil, f_waferref11_Extends_R1, rd_c, spent_c, exL_ret, finC_ret, resultVs_cons, resultV_t, ownV_d, resultVs_nil, consO_some, leaveC_1, leaves_d, ref_d, settle_d, leave_pure, extF]
  | k + 1, i, a, hk, hi => by
    have hm : lenV .lenM (.map id) H = some (.d (.i .i64 (R.length : Nat))) := by simp [lenV, hid, esR]
    have hlt : ((i : Int) ≤ ((R.length : Nat) : Int)) = True := eq_true (by omega)
    have hw : wr .i64 ((i : Int) + 1) = ((i + 1 : Nat) : Int) := by rw [wr_i64 (by omega) (by omega)]; omega
    rw [hk, f_waferref11_Extends_l0_eq]
    simp only [extF]
    by_cases hb : a = b
    · simp only [f_waferref11_Extends_B0, keepV_d, keepV_map, exL_seq, exL_ops, runOps_n, evalK_mov, rd_t, reduceCtorEq, get_ne, Nat.reduceEqDiff, get_eq, readV_d, spent_t, opC_ok, put_d, readV_map, put_map, evalK_lenM, hm, okS_some, evalK_bin, isC_t, Bool.or_self, bin_leq, hlt, decide_true, runOps_nil, thenC_nrm, exL_cond, condC_b, ↓reduceIte, exL_skip, exL_block, bin_seql, eq_true hb, rd_c, spent_c, exL_ret, thenC_ret, blockC_ret, finC_ret, resultVs_cons, resultV_t, ownV_d, resultVs_nil, consO_some, leaveC_1, leaves_d, ref_d, settle_d, leave_pure]
    · simp only [nextR]
      cases hr : findR a R with
      | none => simp only [f_waferref11_Extends_B0, keepV_d, keepV_map, exL_seq, exL_ops, runOps_n, evalK_mov, rd_t, reduceCtorEq, get_ne, Nat.reduceEqDiff, get_eq, readV_d, spent_t, opC_ok, put_d, readV_map, put_map, evalK_lenM, hm, okS_some, evalK_bin, isC_t, Bool.or_self, bin_leq, hlt, decide_true, runOps_nil, thenC_nrm, exL_cond, condC_b, ↓reduceIte, exL_skip, exL_block, bin_seql, eq_false hb, decide_false, Bool.false_eq_true, evalK_lookup, lookV_sE, hid, lookE_map, keyFind_esR, hr, Option.map_none, findV_t0, put_tup, readV_tup, evalK_extract, extV_0, copy_d, extV_1, evalK_allocL, List.map_cons, List.map_nil, put_box, killLp_cons, killV_d, killV_tup, killV_map, killLp_nil, evalK_store, readV_box, storeV_lp, cells_agg, List.length_cons, List.length_nil, Nat.zero_add, Nat.reduceAdd, ones_cons, vone_d, one_s, one_b, one_nil, ones_nil, Bool.and_self, storeB_box, setCells_all, storeR_some, put_none, evalK_un, un_not, Bool.not_false, Option.map_some, runOps_g, wantG_bf, Bool.not_true, wantC_b, evalK_pick, rd_c, pickV_t, spent_c, exL_ret, thenC_ret, blockC_ret, finC_ret, resultVs_cons, resultV_t, ownV_d, resultVs_nil, consO_some, leaveC_1, leaves_d, ref_d, settle_d, leave_pure]
      | some r =>
        obtain ⟨k0, nm, ex, base, fs⟩ := r
        have hf1 : fs.one = true := hfs _ (findR_mem hr).1
        by_cases h0 : base = []
        · simp only [f_waferref11_Extends_B0, keepV_d, keepV_map, exL_seq, exL_ops, runOps_n, evalK_mov, rd_t, reduceCtorEq, get_ne, Nat.reduceEqDiff, get_eq, readV_d, spent_t, opC_ok, put_d, readV_map, put_map, evalK_lenM, hm, okS_some, evalK_bin, isC_t, Bool.or_self, bin_leq, hlt, decide_true, runOps_nil, thenC_nrm, exL_cond, condC_b, ↓reduceIte, exL_skip, exL_block, bin_seql, eq_false hb, decide_false, Bool.false_eq_true, evalK_lookup, lookV_sE, hid, lookE_map, keyFind_esR, recD, hr, Option.map_some, findV_t, copy_d, put_tup, readV_tup, evalK_extract, extV_0, extV_1, evalK_allocL, List.map_cons, List.map_nil, put_box, killLp_cons, killV_d, killV_tup, killV_map, killLp_nil, evalK_store, readV_box, storeV_lp, cells_agg, List.length_cons, List.length_nil, Nat.zero_add, Nat.reduceAdd, ones_cons, vone_d, one_s, one_b, hf1, ones_nil, Bool.and_self, storeB_box, setCells_all, storeR_some, put_none, evalK_un, un_not, Bool.not_true, runOps_g, wantG_bf, Bool.not_false, wantC_b, evalK_fieldAddr, faV_lp, put_lp, evalK_load, readV_lp, loadV_lp, boxV_1, List.getElem?_cons_succ, List.getElem?_cons_zero, copy1_d, isC_c, Bool.or_true, rd_c, eq_true h0, evalK_pick, pickV_b, spent_c, exL_ret, thenC_ret, blockC_ret, finC_ret, resultVs_cons, resultV_t, ownV_d, resultVs_nil, consO_some, leaveC_1, leaves_d, ref_d, settle_d, leave_pure]
        · have ih' := refext_loop hid hfs hR (b := b) k (i + 1) base (by omega) (by omega)
          simp only [f_waferref11_Extends_B0, keepV_d, keepV_map, exL_seq, exL_ops, runOps_n, evalK_mov, rd_t, reduceCtorEq, get_ne, Nat.reduceEqDiff, get_eq, readV_d, spent_t, opC_ok, put_d, readV_map, put_map, evalK_lenM, hm, okS_some, evalK_bin, isC_t, Bool.or_self, bin_leq, hlt, decide_true, runOps_nil, thenC_nrm, exL_cond, condC_b, ↓reduceIte, exL_skip, exL_block, bin_seql, eq_false hb, decide_false, Bool.false_eq_true, evalK_lookup, lookV_sE, hid, lookE_map, keyFind_esR, recD, hr, Option.map_some, findV_t, copy_d, put_tup, readV_tup, evalK_extract, extV_0, extV_1, evalK_allocL, List.map_cons, List.map_nil, put_box, killLp_cons, killV_d, killV_tup, killV_map, killLp_nil, evalK_store, readV_box, storeV_lp, cells_agg, List.length_cons, List.length_nil, Nat.zero_add, Nat.reduceAdd, ones_cons, vone_d, one_s, one_b, hf1, ones_nil, Bool.and_self, storeB_box, setCells_all, storeR_some, put_none, evalK_un, un_not, Bool.not_true, runOps_g, wantG_bf, Bool.not_false, wantC_b, evalK_fieldAddr, faV_lp, put_lp, evalK_load, readV_lp, loadV_lp, boxV_1, List.getElem?_cons_succ, List.getElem?_cons_zero, copy1_d, isC_c, Bool.or_true, rd_c, eq_false h0, evalK_pick, pickV_b, blockC_nrm, restrict_cons, restrict_nil, bin_add, hw, f_waferref11_Extends_l0_in]
          refine ih'.trans ?_
          rw [show R.length + 1 - (i + 1) = k by omega]
theorem refext_call {H : List Obj} {R : List RecE} {id : Nat} (hid : H[id]? = some (.map (esR R))) (hfs : ∀ r ∈ R, r.fs.one = true) (hR : R.length ≤ 1000) {a b : List Nat} :
    callL pg 14 [.d (.s a), .d (.s b), .map id] H = some ⟨false, true, .d (.b (extF R (R.length + 1) a b)), H, H.length⟩ := by
  rw [callL_fn (fn := f_waferref11_Extends) rfl rfl]
  have hl := refext_loop hid hfs hR (b := b) _ 0 a rfl (by omega)
  simp only [f_waferref11_Extends, argEnv_cons, Nat.zero_add, Nat.reduceAdd, argEnv_nil, exL_seq, exL_ops, runOps_n, evalK_mov, rd_c, spent_c, opC_ok, put_d, runOps_nil, thenC_nrm, exL_block, f_waferref11_Extends_l0_in, reduceCtorEq, get_ne, get_eq, keepV_d, Nat.reduceEqDiff, keepV_map]
  exact hl
def bD (f : Int) : D := .agg [.i .i64 f, .i .i64 0, .s [], .nil]
theorem text1 {c : Int} (h0 : 0 ≤ c) (h1 : c < 256) {H : List Obj} : textV (.d (.sl [.i .u8 c])) H = some (.d (.s [c.toNat])) := by
  have : bytesOf [D.i .u8 c] = some [c.toNat] := by simp [bytesOf, h0, h1]
  simp only [textV, this]; rfl
theorem sadd {a b : List Nat} (h : a.length + b.length ≤ 1000) {c : Bool} : binV .add .num c (.d (.s a)) (.d (.s b)) = some (.d (.s (a ++ b))) := bin_sadd (by omega)
def RiOk (n : Nat) (x : D) : Prop := ∃ b fs f m s o, x = .agg [.i .u8 b, fs, .i .i64 f, .i .i64 m, .s s, o] ∧ 0 ≤ b ∧ b < 256 ∧ (fs = .nil ∨ ∃ l, fs = .sl l) ∧ ((itemsD fs).length : Int) ≤ 9223372036854775807 ∧
  (∀ y ∈ itemsD fs, ∃ c, y = .i .u8 c ∧ 0 ≤ c ∧ c < 256) ∧ TyOk n (.agg [.i .i64 f, .i .i64 m, .s s, o])
theorem RiOk.cells {n : Nat} {x : D} (h : RiOk n x) : x.cells.length = 6 := by obtain ⟨b, fs, f, m, s, o, rfl, _⟩ := h; rfl
theorem of_ix' {o y : D} {n z : Nat} (hy : (itemsD o)[n]? = some y) (hc : y.cells.length = z) {k : IntKind} : iaV (.d o) (.d (.i k (n : Nat))) z none = some (.cp y) := by
  cases o with
  | sl l => exact iaV_sl (by omega) (by simpa [itemsD] using hy) (eq_true hc)
  | _ => simp [itemsD] at hy
abbrev D6 := {x : D // x.cells.length = 6}
def e6 (x : D6) : D := x.1
theorem e6_cells (x : D6) : (e6 x).cells.length = 6 := x.2
def mvB (s : Nat) (st : St) (o : Nat) (r : Option V) (cs : List V) : Option Or :=
  match r with
  | some v => some ⟨false, true, v, ⟨(s, .box (cs.set o .undef)) :: st.env, st.H, st.lo⟩⟩
  | none => none
def mvL (s o : Nat) (st : St) (b : V) : Option Or :=
  match b with
  | .box cs => mvB s st o (cs[o]?) cs
  | _ => none
def mvA (n : Nat) (st : St) (a : V) : Option Or :=
  match a with
  | .lp s o => bif Nat.beq n s then mvL s o st (get s st.env) else none
  | _ => none
theorem evalK_loadMvL {call : Call} {n : Nat} {a : O} {st : St} : evalK call (.load true (some n) ⟨1, false⟩ a) st = mvA n st (rd st.env a) := by
  show eLoad true (some n) ⟨1, false⟩ a st = _
  unfold eLoad mvA
  cases rd st.env a with
  | lp s o =>
    simp only [slotIs, loadMv]
    cases Nat.beq n s with
    | false => rfl
    | true =>
      simp only [Bool.not_true, cond_false, cond_true, mvL]
      cases get s st.env with
      | box cs =>
        simp only [mvB]
        cases cs[o]? <;> rfl
      | _ => rfl
  | _ => simp [slotIs]
theorem mvA_lp {n o : Nat} {st : St} : mvA n st (.lp n o) = mvL n o st (get n st.env) := by simp [mvA]
theorem mvL_box {s o : Nat} {st : St} {cs : List V} : mvL s o st (.box cs) = mvB s st o (cs[o]?) cs := (rfl)
theorem mvB_some {s o : Nat} {st : St} {cs : List V} {v : V} : mvB s st o (some v) cs = some ⟨false, true, v, ⟨(s, .box (cs.set o .undef)) :: st.env, st.H, st.lo⟩⟩ := (rfl)
theorem boxK_load {mv : Bool} {sl : Option Nat} {l : L} {a : O} : boxK (.load mv sl l a) = false := (rfl)
end W

set_option linter.unusedSimpArgs false
set_option linter.unusedVariables false
namespace W
open Go (IntKind BinOp UnOp)
set_option maxRecDepth 20000
def rightN : Nat → D → Bool
  | n + 1, .agg [.i _ f, .i _ m, .s s, o] =>
    if 1 ≤ f ∧ f ≤ 4 then decide (m = 0 ∧ s = [] ∧ (itemsD o).length = 0)
    else if f = 7 then (if 1 ≤ m ∧ m ≤ 1024 ∧ s = [] then (match itemsD o with | [y] => rightN n y | _ => false) else false)
    else if f = 8 ∨ f = 9 then decide (m = 0 ∧ s ≠ [] ∧ (itemsD o).length = 0) else false
  | _, _ => false
theorem one_item {o : D} (h : (itemsD o).length = 1) : ∃ y, itemsD o = [y] := by
  match itemsD o, h with
  | [y], _ => exact ⟨y, rfl⟩
theorem right_call : ∀ {n : Nat} {a : D} {H : List Obj}, TyOk n a → callL pg 23 [.d a] H = some ⟨false, true, .d (.b (rightN n a)), H, H.length⟩
  | 0, _, _, h => h.elim
  | n + 1, _, H, h => by
    obtain ⟨f, m, s, o, rfl, ho, hl, hi⟩ := h
    have ho1 := (ofOk ho).one
    have h1 := (ofOk ho).len
    have hp := fun f => plain_call (f := f) (H := H)
    rw [callL_fn (fn := f_types_Right) rfl rfl]
    simp only [rightN]
    by_cases hpl : 1 ≤ f ∧ f ≤ 4
    · rw [if_pos hpl]
      by_cases hm : m = 0
      · by_cases hs : s = []
        · by_cases hc : (((itemsD o).length : Nat) : Int) = 0
          · simp only [f_types_Right, argEnv_cons, Nat.zero_add, argEnv_nil, exL_seq, exL_ops, runOps_n, evalK_box, rd_t, get_eq, readV_d, spent_t, cells_agg, List.map_cons, List.map_nil, ones_cons, vone_d, one_i, one_s, ho1, ones_nil, Bool.and_self, boxN_t, opC_ok, put_box, killLp_cons, killV_d, killLp_nil, evalK_mov, rd_c, spent_c, put_d, runOps_nil, thenC_nrm, exL_block, evalK_fieldAddr, Nat.reduceEqDiff, get_ne, readV_box, faV_lp, Nat.add_zero, okS_some, put_lp, evalK_load, readV_lp, loadV_lp, boxV_1, List.getElem?_cons_zero, Option.map_some, copy1_d, evalK_call, allLeave_cons, leaves_d, allLeave_nil, eCall_f, hp, eq_true hpl, decide_true, callC_some, spentAll_cons, spentAll_nil, Nat.min_self, rd_mv, takeV_d, spent_mv, exL_cond, condC_b, ↓reduceIte, List.getElem?_cons_succ, evalK_bin, isC_t, isC_c, Bool.or_true, bin_eql, eq_true hm, runOps_g, wantG_bt, wantC_b, bin_seql, eq_true hs, evalK_pick, pickV_b, evalK_lenL, h1, eq_true hc, exL_ret, blockC_ret, thenC_ret, finC_ret, resultVs_cons, resultV_t, ownV_d, resultVs_nil, consO_some, leaveC_1, ref_d, settle_d, leave_pure]
            all_goals (have : (itemsD o).length = 0 := by omega); simp [*]
          · simp only [f_types_Right, argEnv_cons, Nat.zero_add, argEnv_nil, exL_seq, exL_ops, runOps_n, evalK_box, rd_t, get_eq, readV_d, spent_t, cells_agg, List.map_cons, List.map_nil, ones_cons, vone_d, one_i, one_s, ho1, ones_nil, Bool.and_self, boxN_t, opC_ok, put_box, killLp_cons, killV_d, killLp_nil, evalK_mov, rd_c, spent_c, put_d, runOps_nil, thenC_nrm, exL_block, evalK_fieldAddr, Nat.reduceEqDiff, get_ne, readV_box, faV_lp, Nat.add_zero, okS_some, put_lp, evalK_load, readV_lp, loadV_lp, boxV_1, List.getElem?_cons_zero, Option.map_some, copy1_d, evalK_call, allLeave_cons, leaves_d, allLeave_nil, eCall_f, hp, eq_true hpl, decide_true, callC_some, spentAll_cons, spentAll_nil, Nat.min_self, rd_mv, takeV_d, spent_mv, exL_cond, condC_b, ↓reduceIte, List.getElem?_cons_succ, evalK_bin, isC_t, isC_c, Bool.or_true, bin_eql, eq_true hm, runOps_g, wantG_bt, wantC_b, bin_seql, eq_true hs, evalK_pick, pickV_b, evalK_lenL, h1, eq_false hc, decide_false, exL_ret, blockC_ret, thenC_ret, finC_ret, resultVs_cons, resultV_t, ownV_d, resultVs_nil, consO_some, leaveC_1, ref_d, settle_d, leave_pure]
            all_goals (have : ¬ (itemsD o).length = 0 := by omega); simp [*]
        · simp only [f_types_Right, argEnv_cons, Nat.zero_add, argEnv_nil, exL_seq, exL_ops, runOps_n, evalK_box, rd_t, get_eq, readV_d, spent_t, cells_agg, List.map_cons, List.map_nil, ones_cons, vone_d, one_i, one_s, ho1, ones_nil, Bool.and_self, boxN_t, opC_ok, put_box, killLp_cons, killV_d, killLp_nil, evalK_mov, rd_c, spent_c, put_d, runOps_nil, thenC_nrm, exL_block, evalK_fieldAddr, Nat.reduceEqDiff, get_ne, readV_box, faV_lp, Nat.add_zero, okS_some, put_lp, evalK_load, readV_lp, loadV_lp, boxV_1, List.getElem?_cons_zero, Option.map_some, copy1_d, evalK_call, allLeave_cons, leaves_d, allLeave_nil, eCall_f, hp, eq_true hpl, decide_true, callC_some, spentAll_cons, spentAll_nil, Nat.min_self, rd_mv, takeV_d, spent_mv, exL_cond, condC_b, ↓reduceIte, List.getElem?_cons_succ, evalK_bin, isC_t, isC_c, Bool.or_true, bin_eql, eq_true hm, runOps_g, wantG_bt, wantC_b, bin_seql, eq_false hs, decide_false, evalK_pick, pickV_b, Bool.false_eq_true, put_tup, readV_tup, pickV_f, exL_ret, blockC_ret, thenC_ret, finC_ret, resultVs_cons, resultV_t, ownV_d, resultVs_nil, consO_some, leaveC_1, ref_d, settle_d, leave_pure]
          all_goals simp [*]
      · simp only [f_types_Right, argEnv_cons, Nat.zero_add, argEnv_nil, exL_seq, exL_ops, runOps_n, evalK_box, rd_t, get_eq, readV_d, spent_t, cells_agg, List.map_cons, List.map_nil, ones_cons, vone_d, one_i, one_s, ho1, ones_nil, Bool.and_self, boxN_t, opC_ok, put_box, killLp_cons, killV_d, killLp_nil, evalK_mov, rd_c, spent_c, put_d, runOps_nil, thenC_nrm, exL_block, evalK_fieldAddr, Nat.reduceEqDiff, get_ne, readV_box, faV_lp, Nat.add_zero, okS_some, put_lp, evalK_load, readV_lp, loadV_lp, boxV_1, List.getElem?_cons_zero, Option.map_some, copy1_d, evalK_call, allLeave_cons, leaves_d, allLeave_nil, eCall_f, hp, eq_true hpl, decide_true, callC_some, spentAll_cons, spentAll_nil, Nat.min_self, rd_mv, takeV_d, spent_mv, exL_cond, condC_b, ↓reduceIte, List.getElem?_cons_succ, evalK_bin, isC_t, isC_c, Bool.or_true, bin_eql, eq_false hm, decide_false, runOps_g, wantG_bt, wantC_b, Bool.false_eq_true, put_tup, evalK_pick, readV_tup, pickV_f, exL_ret, blockC_ret, thenC_ret, finC_ret, resultVs_cons, resultV_t, ownV_d, resultVs_nil, consO_some, leaveC_1, ref_d, settle_d, leave_pure]
        all_goals simp [*]
    · rw [if_neg hpl]
      by_cases h7 : f = 7
      · subst h7
        by_cases hm1 : 1 ≤ m
        · by_cases hm2 : m ≤ 1024
          · by_cases hs : s = []
            · by_cases hc : (((itemsD o).length : Nat) : Int) = 1
              · obtain ⟨y, hy⟩ := one_item (o := o) (by omega)
                have hyo := hi y (by rw [hy]; simp)
                have hx := of_ix (o := o) (n := 0) (y := y) (by rw [hy]; rfl) hyo.cells (k := .i64)
                have hr := right_call hyo (H := H)
                obtain ⟨ny, hty⟩ : ∃ n, TyOk (n + 1) y := ⟨n, hyo.up⟩
                obtain ⟨f', m', s', o', rfl, ho', _, _⟩ := hty
                rw [show ((0 : Nat) : Int) = 0 from rfl] at hx
                simp only [f_types_Right, argEnv_cons, Nat.zero_add, argEnv_nil, exL_seq, exL_ops, runOps_n, evalK_box, rd_t, get_eq, readV_d, spent_t, cells_agg, List.map_cons, List.map_nil, ones_cons, vone_d, one_i, one_s, ho1, ones_nil, Bool.and_self, boxN_t, opC_ok, put_box, killLp_cons, killV_d, killLp_nil, evalK_mov, rd_c, spent_c, put_d, runOps_nil, thenC_nrm, exL_block, evalK_fieldAddr, Nat.reduceEqDiff, get_ne, readV_box, faV_lp, Nat.add_zero, okS_some, put_lp, evalK_load, readV_lp, loadV_lp, boxV_1, List.getElem?_cons_zero, Option.map_some, copy1_d, evalK_call, allLeave_cons, leaves_d, allLeave_nil, eCall_f, hp, Int.reduceLE, and_false, decide_false, callC_some, spentAll_cons, spentAll_nil, Nat.min_self, rd_mv, takeV_d, spent_mv, exL_cond, condC_b, Bool.false_eq_true, ↓reduceIte, evalK_bin, isC_t, isC_c, Bool.or_true, bin_eql, decide_true, List.getElem?_cons_succ, bin_geq, eq_true hm1, runOps_g, wantG_bt, wantC_b, bin_leq, eq_true hm2, evalK_pick, pickV_b, bin_seql, eq_true hs, evalK_lenL, h1, eq_true hc, evalK_indexAddr, hx, put_cp, readV_cp, List.length_cons, List.length_nil, Nat.reduceAdd, loadV_cp_agg, hr, exL_ret, blockC_ret, thenC_ret, finC_ret, resultVs_cons, resultV_t, ownV_d, resultVs_nil, consO_some, leaveC_1, ref_d, settle_d, leave_pure]
                all_goals simp [*]
              · simp only [f_types_Right, argEnv_cons, Nat.zero_add, argEnv_nil, exL_seq, exL_ops, runOps_n, evalK_box, rd_t, get_eq, readV_d, spent_t, cells_agg, List.map_cons, List.map_nil, ones_cons, vone_d, one_i, one_s, ho1, ones_nil, Bool.and_self, boxN_t, opC_ok, put_box, killLp_cons, killV_d, killLp_nil, evalK_mov, rd_c, spent_c, put_d, runOps_nil, thenC_nrm, exL_block, evalK_fieldAddr, Nat.reduceEqDiff, get_ne, readV_box, faV_lp, Nat.add_zero, okS_some, put_lp, evalK_load, readV_lp, loadV_lp, boxV_1, List.getElem?_cons_zero, Option.map_some, copy1_d, evalK_call, allLeave_cons, leaves_d, allLeave_nil, eCall_f, hp, Int.reduceLE, and_false, decide_false, callC_some, spentAll_cons, spentAll_nil, Nat.min_self, rd_mv, takeV_d, spent_mv, exL_cond, condC_b, Bool.false_eq_true, ↓reduceIte, evalK_bin, isC_t, isC_c, Bool.or_true, bin_eql, decide_true, List.getElem?_cons_succ, bin_geq, eq_true hm1, runOps_g, wantG_bt, wantC_b, bin_leq, eq_true hm2, evalK_pick, pickV_b, bin_seql, eq_true hs, evalK_lenL, h1, eq_false hc, put_tup, readV_tup, pickV_f, exL_ret, blockC_ret, thenC_ret, finC_ret, resultVs_cons, resultV_t, ownV_d, resultVs_nil, consO_some, leaveC_1, ref_d, settle_d, leave_pure]
                have : ∀ y, itemsD o ≠ [y] := fun y hy => hc (by rw [hy]; rfl)
                all_goals (try simp only [and_self, if_true])
                all_goals (split <;> first | rfl | (rename_i y hy; exact absurd hy (this y)))
            · simp only [f_types_Right, argEnv_cons, Nat.zero_add, argEnv_nil, exL_seq, exL_ops, runOps_n, evalK_box, rd_t, get_eq, readV_d, spent_t, cells_agg, List.map_cons, List.map_nil, ones_cons, vone_d, one_i, one_s, ho1, ones_nil, Bool.and_self, boxN_t, opC_ok, put_box, killLp_cons, killV_d, killLp_nil, evalK_mov, rd_c, spent_c, put_d, runOps_nil, thenC_nrm, exL_block, evalK_fieldAddr, Nat.reduceEqDiff, get_ne, readV_box, faV_lp, Nat.add_zero, okS_some, put_lp, evalK_load, readV_lp, loadV_lp, boxV_1, List.getElem?_cons_zero, Option.map_some, copy1_d, evalK_call, allLeave_cons, leaves_d, allLeave_nil, eCall_f, hp, Int.reduceLE, and_false, decide_false, callC_some, spentAll_cons, spentAll_nil, Nat.min_self, rd_mv, takeV_d, spent_mv, exL_cond, condC_b, Bool.false_eq_true, ↓reduceIte, evalK_bin, isC_t, isC_c, Bool.or_true, bin_eql, decide_true, List.getElem?_cons_succ, bin_geq, eq_true hm1, runOps_g, wantG_bt, wantC_b, bin_leq, eq_true hm2, evalK_pick, pickV_b, bin_seql, eq_false hs, put_tup, readV_tup, pickV_f, exL_ret, blockC_ret, thenC_ret, finC_ret, resultVs_cons, resultV_t, ownV_d, resultVs_nil, consO_some, leaveC_1, ref_d, settle_d, leave_pure]
              all_goals simp [*]
          · simp only [f_types_Right, argEnv_cons, Nat.zero_add, argEnv_nil, exL_seq, exL_ops, runOps_n, evalK_box, rd_t, get_eq, readV_d, spent_t, cells_agg, List.map_cons, List.map_nil, ones_cons, vone_d, one_i, one_s, ho1, ones_nil, Bool.and_self, boxN_t, opC_ok, put_box, killLp_cons, killV_d, killLp_nil, evalK_mov, rd_c, spent_c, put_d, runOps_nil, thenC_nrm, exL_block, evalK_fieldAddr, Nat.reduceEqDiff, get_ne, readV_box, faV_lp, Nat.add_zero, okS_some, put_lp, evalK_load, readV_lp, loadV_lp, boxV_1, List.getElem?_cons_zero, Option.map_some, copy1_d, evalK_call, allLeave_cons, leaves_d, allLeave_nil, eCall_f, hp, Int.reduceLE, and_false, decide_false, callC_some, spentAll_cons, spentAll_nil, Nat.min_self, rd_mv, takeV_d, spent_mv, exL_cond, condC_b, Bool.false_eq_true, ↓reduceIte, evalK_bin, isC_t, isC_c, Bool.or_true, bin_eql, decide_true, List.getElem?_cons_succ, bin_geq, eq_true hm1, runOps_g, wantG_bt, wantC_b, bin_leq, eq_false hm2, evalK_pick, pickV_b, put_tup, readV_tup, pickV_f, exL_ret, blockC_ret, thenC_ret, finC_ret, resultVs_cons, resultV_t, ownV_d, resultVs_nil, consO_some, leaveC_1, ref_d, settle_d, leave_pure]
            all_goals simp [*]
        · simp only [f_types_Right, argEnv_cons, Nat.zero_add, argEnv_nil, exL_seq, exL_ops, runOps_n, evalK_box, rd_t, get_eq, readV_d, spent_t, cells_agg, List.map_cons, List.map_nil, ones_cons, vone_d, one_i, one_s, ho1, ones_nil, Bool.and_self, boxN_t, opC_ok, put_box, killLp_cons, killV_d, killLp_nil, evalK_mov, rd_c, spent_c, put_d, runOps_nil, thenC_nrm, exL_block, evalK_fieldAddr, Nat.reduceEqDiff, get_ne, readV_box, faV_lp, Nat.add_zero, okS_some, put_lp, evalK_load, readV_lp, loadV_lp, boxV_1, List.getElem?_cons_zero, Option.map_some, copy1_d, evalK_call, allLeave_cons, leaves_d, allLeave_nil, eCall_f, hp, Int.reduceLE, and_false, decide_false, callC_some, spentAll_cons, spentAll_nil, Nat.min_self, rd_mv, takeV_d, spent_mv, exL_cond, condC_b, Bool.false_eq_true, ↓reduceIte, evalK_bin, isC_t, isC_c, Bool.or_true, bin_eql, decide_true, List.getElem?_cons_succ, bin_geq, eq_false hm1, runOps_g, wantG_bt, wantC_b, put_tup, evalK_pick, readV_tup, pickV_f, exL_ret, blockC_ret, thenC_ret, finC_ret, resultVs_cons, resultV_t, ownV_d, resultVs_nil, consO_some, leaveC_1, ref_d, settle_d, leave_pure]
          all_goals simp [*]
      · by_cases h89 : f = 8 ∨ f = 9
        · rw [if_neg h7, if_pos h89]
          by_cases hm : m = 0
          · by_cases hs : s = []
            · rcases h89 with rfl | rfl
              all_goals simp only [f_types_Right, argEnv_cons, Nat.zero_add, argEnv_nil, exL_seq, exL_ops, runOps_n, evalK_box, rd_t, get_eq, readV_d, spent_t, cells_agg, List.map_cons, List.map_nil, ones_cons, vone_d, one_i, one_s, ho1, ones_nil, Bool.and_self, boxN_t, opC_ok, put_box, killLp_cons, killV_d, killLp_nil, evalK_mov, rd_c, spent_c, put_d, runOps_nil, thenC_nrm, exL_block, evalK_fieldAddr, Nat.reduceEqDiff, get_ne, readV_box, faV_lp, Nat.add_zero, okS_some, put_lp, evalK_load, readV_lp, loadV_lp, boxV_1, List.getElem?_cons_zero, Option.map_some, copy1_d, evalK_call, allLeave_cons, leaves_d, allLeave_nil, eCall_f, hp, Int.reduceLE, and_false, decide_false, callC_some, spentAll_cons, spentAll_nil, Nat.min_self, rd_mv, takeV_d, spent_mv, exL_cond, condC_b, Bool.false_eq_true, ↓reduceIte, evalK_bin, isC_t, isC_c, Bool.or_true, bin_eql, Int.reduceEq, decide_true, runOps_g, wantG_bf, Bool.not_true, wantC_b, put_tup, evalK_pick, readV_tup, pickV_t, List.getElem?_cons_succ, eq_true hm, wantG_bt, bin_sneq, eq_true hs, pickV_b, pickV_f, exL_ret, blockC_ret, thenC_ret, finC_ret, resultVs_cons, resultV_t, ownV_d, resultVs_nil, consO_some, leaveC_1, ref_d, settle_d, leave_pure, ne_eq, not_true_eq_false, Bool.not_false]
              all_goals simp [*]
            · by_cases hc : (((itemsD o).length : Nat) : Int) = 0
              · have hz : (itemsD o).length = 0 := by omega
                rcases h89 with rfl | rfl
                all_goals simp only [f_types_Right, argEnv_cons, Nat.zero_add, argEnv_nil, exL_seq, exL_ops, runOps_n, evalK_box, rd_t, get_eq, readV_d, spent_t, cells_agg, List.map_cons, List.map_nil, ones_cons, vone_d, one_i, one_s, ho1, ones_nil, Bool.and_self, boxN_t, opC_ok, put_box, killLp_cons, killV_d, killLp_nil, evalK_mov, rd_c, spent_c, put_d, runOps_nil, thenC_nrm, exL_block, evalK_fieldAddr, Nat.reduceEqDiff, get_ne, readV_box, faV_lp, Nat.add_zero, okS_some, put_lp, evalK_load, readV_lp, loadV_lp, boxV_1, List.getElem?_cons_zero, Option.map_some, copy1_d, evalK_call, allLeave_cons, leaves_d, allLeave_nil, eCall_f, hp, Int.reduceLE, and_false, decide_false, callC_some, spentAll_cons, spentAll_nil, Nat.min_self, rd_mv, takeV_d, spent_mv, exL_cond, condC_b, Bool.false_eq_true, ↓reduceIte, evalK_bin, isC_t, isC_c, Bool.or_true, bin_eql, Int.reduceEq, decide_true, runOps_g, wantG_bf, Bool.not_true, wantC_b, put_tup, evalK_pick, readV_tup, pickV_t, List.getElem?_cons_succ, eq_true hm, wantG_bt, bin_sneq, eq_false hs, Bool.not_false, pickV_b, evalK_lenL, h1, eq_true hc, exL_ret, blockC_ret, thenC_ret, finC_ret, resultVs_cons, resultV_t, ownV_d, resultVs_nil, consO_some, leaveC_1, ref_d, settle_d, leave_pure, ne_eq, not_false_eq_true]
                all_goals simp [*]
              · have hz : ¬ (itemsD o).length = 0 := by omega
                rcases h89 with rfl | rfl
                all_goals simp only [f_types_Right, argEnv_cons, Nat.zero_add, argEnv_nil, exL_seq, exL_ops, runOps_n, evalK_box, rd_t, get_eq, readV_d, spent_t, cells_agg, List.map_cons, List.map_nil, ones_cons, vone_d, one_i, one_s, ho1, ones_nil, Bool.and_self, boxN_t, opC_ok, put_box, killLp_cons, killV_d, killLp_nil, evalK_mov, rd_c, spent_c, put_d, runOps_nil, thenC_nrm, exL_block, evalK_fieldAddr, Nat.reduceEqDiff, get_ne, readV_box, faV_lp, Nat.add_zero, okS_some, put_lp, evalK_load, readV_lp, loadV_lp, boxV_1, List.getElem?_cons_zero, Option.map_some, copy1_d, evalK_call, allLeave_cons, leaves_d, allLeave_nil, eCall_f, hp, Int.reduceLE, and_false, decide_false, callC_some, spentAll_cons, spentAll_nil, Nat.min_self, rd_mv, takeV_d, spent_mv, exL_cond, condC_b, Bool.false_eq_true, ↓reduceIte, evalK_bin, isC_t, isC_c, Bool.or_true, bin_eql, Int.reduceEq, decide_true, runOps_g, wantG_bf, Bool.not_true, wantC_b, put_tup, evalK_pick, readV_tup, pickV_t, List.getElem?_cons_succ, eq_true hm, wantG_bt, bin_sneq, eq_false hs, Bool.not_false, pickV_b, evalK_lenL, h1, eq_false hc, exL_ret, blockC_ret, thenC_ret, finC_ret, resultVs_cons, resultV_t, ownV_d, resultVs_nil, consO_some, leaveC_1, ref_d, settle_d, leave_pure, ne_eq, not_false_eq_true]
                all_goals simp [*]
          · rcases h89 with rfl | rfl
            all_goals simp only [f_types_Right, argEnv_cons, Nat.zero_add, argEnv_nil, exL_seq, exL_ops, runOps_n, evalK_box, rd_t, get_eq, readV_d, spent_t, cells_agg, List.map_cons, List.map_nil, ones_cons, vone_d, one_i, one_s, ho1, ones_nil, Bool.and_self, boxN_t, opC_ok, put_box, killLp_cons, killV_d, killLp_nil, evalK_mov, rd_c, spent_c, put_d, runOps_nil, thenC_nrm, exL_block, evalK_fieldAddr, Nat.reduceEqDiff, get_ne, readV_box, faV_lp, Nat.add_zero, okS_some, put_lp, evalK_load, readV_lp, loadV_lp, boxV_1, List.getElem?_cons_zero, Option.map_some, copy1_d, evalK_call, allLeave_cons, leaves_d, allLeave_nil, eCall_f, hp, Int.reduceLE, and_false, decide_false, callC_some, spentAll_cons, spentAll_nil, Nat.min_self, rd_mv, takeV_d, spent_mv, exL_cond, condC_b, Bool.false_eq_true, ↓reduceIte, evalK_bin, isC_t, isC_c, Bool.or_true, bin_eql, Int.reduceEq, decide_true, runOps_g, wantG_bf, Bool.not_true, wantC_b, put_tup, evalK_pick, readV_tup, pickV_t, List.getElem?_cons_succ, eq_false hm, wantG_bt, pickV_f, exL_ret, blockC_ret, thenC_ret, finC_ret, resultVs_cons, resultV_t, ownV_d, resultVs_nil, consO_some, leaveC_1, ref_d, settle_d, leave_pure, ne_eq, Bool.not_false, pickV_b]
            all_goals simp [*]
        · have h8 : ¬ f = 8 := fun e => h89 (.inl e)
          have h9 : ¬ f = 9 := fun e => h89 (.inr e)
          rw [if_neg h7, if_neg h89]
          simp only [f_types_Right, argEnv_cons, Nat.zero_add, argEnv_nil, exL_seq, exL_ops, runOps_n, evalK_box, rd_t, get_eq, readV_d, spent_t, cells_agg, List.map_cons, List.map_nil, ones_cons, vone_d, one_i, one_s, ho1, ones_nil, Bool.and_self, boxN_t, opC_ok, put_box, killLp_cons, killV_d, killLp_nil, evalK_mov, rd_c, spent_c, put_d, runOps_nil, thenC_nrm, exL_block, evalK_fieldAddr, Nat.reduceEqDiff, get_ne, readV_box, faV_lp, Nat.add_zero, okS_some, put_lp, evalK_load, readV_lp, loadV_lp, boxV_1, List.getElem?_cons_zero, Option.map_some, copy1_d, evalK_call, allLeave_cons, leaves_d, allLeave_nil, eCall_f, hp, eq_false hpl, decide_false, callC_some, spentAll_cons, spentAll_nil, Nat.min_self, rd_mv, takeV_d, spent_mv, exL_cond, condC_b, Bool.false_eq_true, ↓reduceIte, evalK_bin, isC_t, isC_c, Bool.or_true, bin_eql, eq_false h7, eq_false h8, runOps_g, wantG_bf, Bool.not_false, wantC_b, eq_false h9, evalK_pick, pickV_b, exL_skip, blockC_nrm, restrict_nil, exL_ret, finC_ret, resultVs_cons, resultV_t, ownV_d, resultVs_nil, consO_some, leaveC_1, ref_d, settle_d, leave_pure]
end W

set_option linter.unusedSimpArgs false
set_option linter.unusedVariables false
namespace W
open Go (IntKind BinOp UnOp)
set_option maxRecDepth 20000
theorem refRight_call : ∀ {n : Nat} {a : D} {H : List Obj}, TyOk n a → callL pg 39 [.d a] H = some ⟨false, true, .d (.b (rightN n a)), H, H.length⟩
  | 0, _, _, h => h.elim
  | n + 1, _, H, h => by
    obtain ⟨f, m, s, o, rfl, ho, hl, hi⟩ := h
    have ho1 := (ofOk ho).one
    have h1 := (ofOk ho).len
    rw [callL_fn (fn := f_waferref11_Right) rfl rfl]
    simp only [rightN]
    by_cases hpl : 1 ≤ f ∧ f ≤ 4
    · have hf : f = 1 ∨ f = 2 ∨ f = 3 ∨ f = 4 := by omega
      rw [if_pos hpl]
      by_cases hm : m = 0
      · by_cases hs : s = []
        · by_cases hc : (((itemsD o).length : Nat) : Int) = 0
          · rcases hf with rfl | rfl | rfl | rfl
            all_goals simp only [f_waferref11_Right, argEnv_cons, Nat.zero_add, argEnv_nil, exL_seq, exL_ops, runOps_n, evalK_box, rd_t, get_eq, readV_d, spent_t, cells_agg, List.map_cons, List.map_nil, ones_cons, vone_d, one_i, one_s, ho1, ones_nil, Bool.and_self, boxN_t, opC_ok, put_box, killLp_cons, killV_d, killLp_nil, evalK_mov, rd_c, spent_c, put_d, runOps_nil, thenC_nrm, evalK_fieldAddr, Nat.reduceEqDiff, get_ne, readV_box, faV_lp, Nat.add_zero, okS_some, put_lp, evalK_load, readV_lp, loadV_lp, boxV_1, List.getElem?_cons_zero, Option.map_some, copy1_d, exL_block, evalK_bin, isC_t, isC_c, Bool.or_true, bin_eql, decide_true, exL_cond, condC_b, ↓reduceIte, exL_skip, List.getElem?_cons_succ, eq_true hm, runOps_g, wantG_bt, wantC_b, bin_seql, eq_true hs, evalK_pick, pickV_b, evalK_lenL, h1, eq_true hc, exL_ret, blockC_ret, thenC_ret, finC_ret, resultVs_cons, resultV_t, ownV_d, resultVs_nil, consO_some, leaveC_1, leaves_d, ref_d, settle_d, leave_pure, Int.reduceEq, decide_false, Bool.false_eq_true]
            all_goals (have : (itemsD o).length = 0 := by omega); simp [*]
          · rcases hf with rfl | rfl | rfl | rfl
            all_goals simp only [f_waferref11_Right, argEnv_cons, Nat.zero_add, argEnv_nil, exL_seq, exL_ops, runOps_n, evalK_box, rd_t, get_eq, readV_d, spent_t, cells_agg, List.map_cons, List.map_nil, ones_cons, vone_d, one_i, one_s, ho1, ones_nil, Bool.and_self, boxN_t, opC_ok, put_box, killLp_cons, killV_d, killLp_nil, evalK_mov, rd_c, spent_c, put_d, runOps_nil, thenC_nrm, evalK_fieldAddr, Nat.reduceEqDiff, get_ne, readV_box, faV_lp, Nat.add_zero, okS_some, put_lp, evalK_load, readV_lp, loadV_lp, boxV_1, List.getElem?_cons_zero, Option.map_some, copy1_d, exL_block, evalK_bin, isC_t, isC_c, Bool.or_true, bin_eql, decide_true, exL_cond, condC_b, ↓reduceIte, exL_skip, List.getElem?_cons_succ, eq_true hm, runOps_g, wantG_bt, wantC_b, bin_seql, eq_true hs, evalK_pick, pickV_b, evalK_lenL, h1, eq_false hc, decide_false, exL_ret, blockC_ret, thenC_ret, finC_ret, resultVs_cons, resultV_t, ownV_d, resultVs_nil, consO_some, leaveC_1, leaves_d, ref_d, settle_d, leave_pure, Int.reduceEq, Bool.false_eq_true]
            all_goals (have : ¬ (itemsD o).length = 0 := by omega); simp [*]
        · rcases hf with rfl | rfl | rfl | rfl
          all_goals simp only [f_waferref11_Right, argEnv_cons, Nat.zero_add, argEnv_nil, exL_seq, exL_ops, runOps_n, evalK_box, rd_t, get_eq, readV_d, spent_t, cells_agg, List.map_cons, List.map_nil, ones_cons, vone_d, one_i, one_s, ho1, ones_nil, Bool.and_self, boxN_t, opC_ok, put_box, killLp_cons, killV_d, killLp_nil, evalK_mov, rd_c, spent_c, put_d, runOps_nil, thenC_nrm, evalK_fieldAddr, Nat.reduceEqDiff, get_ne, readV_box, faV_lp, Nat.add_zero, okS_some, put_lp, evalK_load, readV_lp, loadV_lp, boxV_1, List.getElem?_cons_zero, Option.map_some, copy1_d, exL_block, evalK_bin, isC_t, isC_c, Bool.or_true, bin_eql, decide_true, exL_cond, condC_b, ↓reduceIte, exL_skip, List.getElem?_cons_succ, eq_true hm, runOps_g, wantG_bt, wantC_b, bin_seql, eq_false hs, decide_false, evalK_pick, pickV_b, Bool.false_eq_true, put_tup, readV_tup, pickV_f, exL_ret, blockC_ret, thenC_ret, finC_ret, resultVs_cons, resultV_t, ownV_d, resultVs_nil, consO_some, leaveC_1, leaves_d, ref_d, settle_d, leave_pure, Int.reduceEq]
          all_goals simp [*]
      · rcases hf with rfl | rfl | rfl | rfl
        all_goals simp only [f_waferref11_Right, argEnv_cons, Nat.zero_add, argEnv_nil, exL_seq, exL_ops, runOps_n, evalK_box, rd_t, get_eq, readV_d, spent_t, cells_agg, List.map_cons, List.map_nil, ones_cons, vone_d, one_i, one_s, ho1, ones_nil, Bool.and_self, boxN_t, opC_ok, put_box, killLp_cons, killV_d, killLp_nil, evalK_mov, rd_c, spent_c, put_d, runOps_nil, thenC_nrm, evalK_fieldAddr, Nat.reduceEqDiff, get_ne, readV_box, faV_lp, Nat.add_zero, okS_some, put_lp, evalK_load, readV_lp, loadV_lp, boxV_1, List.getElem?_cons_zero, Option.map_some, copy1_d, exL_block, evalK_bin, isC_t, isC_c, Bool.or_true, bin_eql, decide_true, exL_cond, condC_b, ↓reduceIte, exL_skip, List.getElem?_cons_succ, eq_false hm, decide_false, runOps_g, wantG_bt, wantC_b, Bool.false_eq_true, put_tup, evalK_pick, readV_tup, pickV_f, exL_ret, blockC_ret, thenC_ret, finC_ret, resultVs_cons, resultV_t, ownV_d, resultVs_nil, consO_some, leaveC_1, leaves_d, ref_d, settle_d, leave_pure, Int.reduceEq]
        all_goals simp [*]
    · rw [if_neg hpl]
      have n1 : ¬ f = 1 := by omega
      have n2 : ¬ f = 2 := by omega
      have n3 : ¬ f = 3 := by omega
      have n4 : ¬ f = 4 := by omega
      by_cases h7 : f = 7
      · subst h7
        by_cases hm1 : 1 ≤ m
        · by_cases hm2 : m ≤ 1024
          · by_cases hs : s = []
            · by_cases hc : (((itemsD o).length : Nat) : Int) = 1
              · obtain ⟨y, hy⟩ := one_item (o := o) (by omega)
                have hyo := hi y (by rw [hy]; simp)
                have hx := of_ix (o := o) (n := 0) (y := y) (by rw [hy]; rfl) hyo.cells (k := .i64)
                have hr := refRight_call hyo (H := H)
                obtain ⟨ny, hty⟩ : ∃ n, TyOk (n + 1) y := ⟨n, hyo.up⟩
                obtain ⟨f', m', s', o', rfl, ho', _, _⟩ := hty
                rw [show ((0 : Nat) : Int) = 0 from rfl] at hx
                simp only [f_waferref11_Right, argEnv_cons, Nat.zero_add, argEnv_nil, exL_seq, exL_ops, runOps_n, evalK_box, rd_t, get_eq, readV_d, spent_t, cells_agg, List.map_cons, List.map_nil, ones_cons, vone_d, one_i, one_s, ho1, ones_nil, Bool.and_self, boxN_t, opC_ok, put_box, killLp_cons, killV_d, killLp_nil, evalK_mov, rd_c, spent_c, put_d, runOps_nil, thenC_nrm, evalK_fieldAddr, Nat.reduceEqDiff, get_ne, readV_box, faV_lp, Nat.add_zero, okS_some, put_lp, evalK_load, readV_lp, loadV_lp, boxV_1, List.getElem?_cons_zero, Option.map_some, copy1_d, exL_block, evalK_bin, isC_t, isC_c, Bool.or_true, bin_eql, Int.reduceEq, decide_false, exL_cond, condC_b, Bool.false_eq_true, ↓reduceIte, decide_true, List.getElem?_cons_succ, bin_geq, eq_true hm1, runOps_g, wantG_bt, wantC_b, bin_leq, eq_true hm2, evalK_pick, pickV_b, bin_seql, eq_true hs, evalK_lenL, h1, eq_true hc, evalK_indexAddr, hx, put_cp, readV_cp, List.length_cons, List.length_nil, Nat.reduceAdd, loadV_cp_agg, evalK_call, allLeave_cons, leaves_d, allLeave_nil, eCall_f, hr, callC_some, spentAll_cons, spentAll_nil, Nat.min_self, exL_ret, blockC_ret, thenC_ret, finC_ret, resultVs_cons, resultV_t, ownV_d, resultVs_nil, consO_some, leaveC_1, ref_d, settle_d, leave_pure]
                all_goals simp [*]
              · simp only [f_waferref11_Right, argEnv_cons, Nat.zero_add, argEnv_nil, exL_seq, exL_ops, runOps_n, evalK_box, rd_t, get_eq, readV_d, spent_t, cells_agg, List.map_cons, List.map_nil, ones_cons, vone_d, one_i, one_s, ho1, ones_nil, Bool.and_self, boxN_t, opC_ok, put_box, killLp_cons, killV_d, killLp_nil, evalK_mov, rd_c, spent_c, put_d, runOps_nil, thenC_nrm, evalK_fieldAddr, Nat.reduceEqDiff, get_ne, readV_box, faV_lp, Nat.add_zero, okS_some, put_lp, evalK_load, readV_lp, loadV_lp, boxV_1, List.getElem?_cons_zero, Option.map_some, copy1_d, exL_block, evalK_bin, isC_t, isC_c, Bool.or_true, bin_eql, Int.reduceEq, decide_false, exL_cond, condC_b, Bool.false_eq_true, ↓reduceIte, decide_true, List.getElem?_cons_succ, bin_geq, eq_true hm1, runOps_g, wantG_bt, wantC_b, bin_leq, eq_true hm2, evalK_pick, pickV_b, bin_seql, eq_true hs, evalK_lenL, h1, eq_false hc, put_tup, readV_tup, pickV_f, exL_ret, blockC_ret, thenC_ret, finC_ret, resultVs_cons, resultV_t, ownV_d, resultVs_nil, consO_some, leaveC_1, leaves_d, ref_d, settle_d, leave_pure]
                have : ∀ y, itemsD o ≠ [y] := fun y hy => hc (by rw [hy]; rfl)
                all_goals (try simp only [and_self, if_true])
                all_goals (split <;> first | rfl | (rename_i y hy; exact absurd hy (this y)))
            · simp only [f_waferref11_Right, argEnv_cons, Nat.zero_add, argEnv_nil, exL_seq, exL_ops, runOps_n, evalK_box, rd_t, get_eq, readV_d, spent_t, cells_agg, List.map_cons, List.map_nil, ones_cons, vone_d, one_i, one_s, ho1, ones_nil, Bool.and_self, boxN_t, opC_ok, put_box, killLp_cons, killV_d, killLp_nil, evalK_mov, rd_c, spent_c, put_d, runOps_nil, thenC_nrm, evalK_fieldAddr, Nat.reduceEqDiff, get_ne, readV_box, faV_lp, Nat.add_zero, okS_some, put_lp, evalK_load, readV_lp, loadV_lp, boxV_1, List.getElem?_cons_zero, Option.map_some, copy1_d, exL_block, evalK_bin, isC_t, isC_c, Bool.or_true, bin_eql, Int.reduceEq, decide_false, exL_cond, condC_b, Bool.false_eq_true, ↓reduceIte, decide_true, List.getElem?_cons_succ, bin_geq, eq_true hm1, runOps_g, wantG_bt, wantC_b, bin_leq, eq_true hm2, evalK_pick, pickV_b, bin_seql, eq_false hs, put_tup, readV_tup, pickV_f, exL_ret, blockC_ret, thenC_ret, finC_ret, resultVs_cons, resultV_t, ownV_d, resultVs_nil, consO_some, leaveC_1, leaves_d, ref_d, settle_d, leave_pure, and_false]
              all_goals simp [*]
          · simp only [f_waferref11_Right, argEnv_cons, Nat.zero_add, argEnv_nil, exL_seq, exL_ops, runOps_n, evalK_box, rd_t, get_eq, readV_d, spent_t, cells_agg, List.map_cons, List.map_nil, ones_cons, vone_d, one_i, one_s, ho1, ones_nil, Bool.and_self, boxN_t, opC_ok, put_box, killLp_cons, killV_d, killLp_nil, evalK_mov, rd_c, spent_c, put_d, runOps_nil, thenC_nrm, evalK_fieldAddr, Nat.reduceEqDiff, get_ne, readV_box, faV_lp, Nat.add_zero, okS_some, put_lp, evalK_load, readV_lp, loadV_lp, boxV_1, List.getElem?_cons_zero, Option.map_some, copy1_d, exL_block, evalK_bin, isC_t, isC_c, Bool.or_true, bin_eql, Int.reduceEq, decide_false, exL_cond, condC_b, Bool.false_eq_true, ↓reduceIte, decide_true, List.getElem?_cons_succ, bin_geq, eq_true hm1, runOps_g, wantG_bt, wantC_b, bin_leq, eq_false hm2, evalK_pick, pickV_b, put_tup, readV_tup, pickV_f, exL_ret, blockC_ret, thenC_ret, finC_ret, resultVs_cons, resultV_t, ownV_d, resultVs_nil, consO_some, leaveC_1, leaves_d, ref_d, settle_d, leave_pure]
            all_goals simp [*]
        · simp only [f_waferref11_Right, argEnv_cons, Nat.zero_add, argEnv_nil, exL_seq, exL_ops, runOps_n, evalK_box, rd_t, get_eq, readV_d, spent_t, cells_agg, List.map_cons, List.map_nil, ones_cons, vone_d, one_i, one_s, ho1, ones_nil, Bool.and_self, boxN_t, opC_ok, put_box, killLp_cons, killV_d, killLp_nil, evalK_mov, rd_c, spent_c, put_d, runOps_nil, thenC_nrm, evalK_fieldAddr, Nat.reduceEqDiff, get_ne, readV_box, faV_lp, Nat.add_zero, okS_some, put_lp, evalK_load, readV_lp, loadV_lp, boxV_1, List.getElem?_cons_zero, Option.map_some, copy1_d, exL_block, evalK_bin, isC_t, isC_c, Bool.or_true, bin_eql, Int.reduceEq, decide_false, exL_cond, condC_b, Bool.false_eq_true, ↓reduceIte, decide_true, List.getElem?_cons_succ, bin_geq, eq_false hm1, runOps_g, wantG_bt, wantC_b, put_tup, evalK_pick, readV_tup, pickV_f, exL_ret, blockC_ret, thenC_ret, finC_ret, resultVs_cons, resultV_t, ownV_d, resultVs_nil, consO_some, leaveC_1, leaves_d, ref_d, settle_d, leave_pure]
          all_goals simp [*]
      · by_cases h89 : f = 8 ∨ f = 9
        · rw [if_neg h7, if_pos h89]
          by_cases hm : m = 0
          · by_cases hs : s = []
            · rcases h89 with rfl | rfl
              all_goals simp only [f_waferref11_Right, argEnv_cons, Nat.zero_add, argEnv_nil, exL_seq, exL_ops, runOps_n, evalK_box, rd_t, get_eq, readV_d, spent_t, cells_agg, List.map_cons, List.map_nil, ones_cons, vone_d, one_i, one_s, ho1, ones_nil, Bool.and_self, boxN_t, opC_ok, put_box, killLp_cons, killV_d, killLp_nil, evalK_mov, rd_c, spent_c, put_d, runOps_nil, thenC_nrm, evalK_fieldAddr, Nat.reduceEqDiff, get_ne, readV_box, faV_lp, Nat.add_zero, okS_some, put_lp, evalK_load, readV_lp, loadV_lp, boxV_1, List.getElem?_cons_zero, Option.map_some, copy1_d, exL_block, evalK_bin, isC_t, isC_c, Bool.or_true, bin_eql, Int.reduceEq, decide_false, exL_cond, condC_b, Bool.false_eq_true, ↓reduceIte, decide_true, exL_skip, List.getElem?_cons_succ, eq_true hm, runOps_g, wantG_bt, wantC_b, bin_sneq, eq_true hs, Bool.not_true, evalK_pick, pickV_b, put_tup, readV_tup, pickV_f, exL_ret, blockC_ret, thenC_ret, finC_ret, resultVs_cons, resultV_t, ownV_d, resultVs_nil, consO_some, leaveC_1, leaves_d, ref_d, settle_d, leave_pure, ne_eq, not_true_eq_false]
              all_goals simp [*]
            · by_cases hc : (((itemsD o).length : Nat) : Int) = 0
              · have hz : (itemsD o).length = 0 := by omega
                rcases h89 with rfl | rfl
                all_goals simp only [f_waferref11_Right, argEnv_cons, Nat.zero_add, argEnv_nil, exL_seq, exL_ops, runOps_n, evalK_box, rd_t, get_eq, readV_d, spent_t, cells_agg, List.map_cons, List.map_nil, ones_cons, vone_d, one_i, one_s, ho1, ones_nil, Bool.and_self, boxN_t, opC_ok, put_box, killLp_cons, killV_d, killLp_nil, evalK_mov, rd_c, spent_c, put_d, runOps_nil, thenC_nrm, evalK_fieldAddr, Nat.reduceEqDiff, get_ne, readV_box, faV_lp, Nat.add_zero, okS_some, put_lp, evalK_load, readV_lp, loadV_lp, boxV_1, List.getElem?_cons_zero, Option.map_some, copy1_d, exL_block, evalK_bin, isC_t, isC_c, Bool.or_true, bin_eql, Int.reduceEq, decide_false, exL_cond, condC_b, Bool.false_eq_true, ↓reduceIte, decide_true, exL_skip, List.getElem?_cons_succ, eq_true hm, runOps_g, wantG_bt, wantC_b, bin_sneq, eq_false hs, Bool.not_false, evalK_pick, pickV_b, evalK_lenL, h1, eq_true hc, exL_ret, blockC_ret, thenC_ret, finC_ret, resultVs_cons, resultV_t, ownV_d, resultVs_nil, consO_some, leaveC_1, leaves_d, ref_d, settle_d, leave_pure, ne_eq, not_false_eq_true]
                all_goals simp [*]
              · have hz : ¬ (itemsD o).length = 0 := by omega
                rcases h89 with rfl | rfl
                all_goals simp only [f_waferref11_Right, argEnv_cons, Nat.zero_add, argEnv_nil, exL_seq, exL_ops, runOps_n, evalK_box, rd_t, get_eq, readV_d, spent_t, cells_agg, List.map_cons, List.map_nil, ones_cons, vone_d, one_i, one_s, ho1, ones_nil, Bool.and_self, boxN_t, opC_ok, put_box, killLp_cons, killV_d, killLp_nil, evalK_mov, rd_c, spent_c, put_d, runOps_nil, thenC_nrm, evalK_fieldAddr, Nat.reduceEqDiff, get_ne, readV_box, faV_lp, Nat.add_zero, okS_some, put_lp, evalK_load, readV_lp, loadV_lp, boxV_1, List.getElem?_cons_zero, Option.map_some, copy1_d, exL_block, evalK_bin, isC_t, isC_c, Bool.or_true, bin_eql, Int.reduceEq, decide_false, exL_cond, condC_b, Bool.false_eq_true, ↓reduceIte, decide_true, exL_skip, List.getElem?_cons_succ, eq_true hm, runOps_g, wantG_bt, wantC_b, bin_sneq, eq_false hs, Bool.not_false, evalK_pick, pickV_b, evalK_lenL, h1, eq_false hc, exL_ret, blockC_ret, thenC_ret, finC_ret, resultVs_cons, resultV_t, ownV_d, resultVs_nil, consO_some, leaveC_1, leaves_d, ref_d, settle_d, leave_pure, ne_eq, not_false_eq_true]
                all_goals simp [*]
          · rcases h89 with rfl | rfl
            all_goals simp only [f_waferref11_Right, argEnv_cons, Nat.zero_add, argEnv_nil, exL_seq, exL_ops, runOps_n, evalK_box, rd_t, get_eq, readV_d, spent_t, cells_agg, List.map_cons, List.map_nil, ones_cons, vone_d, one_i, one_s, ho1, ones_nil, Bool.and_self, boxN_t, opC_ok, put_box, killLp_cons, killV_d, killLp_nil, evalK_mov, rd_c, spent_c, put_d, runOps_nil, thenC_nrm, evalK_fieldAddr, Nat.reduceEqDiff, get_ne, readV_box, faV_lp, Nat.add_zero, okS_some, put_lp, evalK_load, readV_lp, loadV_lp, boxV_1, List.getElem?_cons_zero, Option.map_some, copy1_d, exL_block, evalK_bin, isC_t, isC_c, Bool.or_true, bin_eql, Int.reduceEq, decide_false, exL_cond, condC_b, Bool.false_eq_true, ↓reduceIte, decide_true, exL_skip, List.getElem?_cons_succ, eq_false hm, runOps_g, wantG_bt, wantC_b, put_tup, evalK_pick, readV_tup, pickV_f, exL_ret, blockC_ret, thenC_ret, finC_ret, resultVs_cons, resultV_t, ownV_d, resultVs_nil, consO_some, leaveC_1, leaves_d, ref_d, settle_d, leave_pure, ne_eq]
            all_goals simp [*]
        · have h8 : ¬ f = 8 := fun e => h89 (.inl e)
          have h9 : ¬ f = 9 := fun e => h89 (.inr e)
          rw [if_neg h7, if_neg h89]
          simp only [f_waferref11_Right, argEnv_cons, Nat.zero_add, argEnv_nil, exL_seq, exL_ops, runOps_n, evalK_box, rd_t, get_eq, readV_d, spent_t, cells_agg, List.map_cons, List.map_nil, ones_cons, vone_d, one_i, one_s, ho1, ones_nil, Bool.and_self, boxN_t, opC_ok, put_box, killLp_cons, killV_d, killLp_nil, evalK_mov, rd_c, spent_c, put_d, runOps_nil, thenC_nrm, evalK_fieldAddr, Nat.reduceEqDiff, get_ne, readV_box, faV_lp, Nat.add_zero, okS_some, put_lp, evalK_load, readV_lp, loadV_lp, boxV_1, List.getElem?_cons_zero, Option.map_some, copy1_d, exL_block, evalK_bin, isC_t, isC_c, Bool.or_true, bin_eql, eq_false n1, decide_false, exL_cond, condC_b, Bool.false_eq_true, ↓reduceIte, eq_false n2, eq_false n3, eq_false n4, eq_false h7, eq_false h8, eq_false h9, exL_skip, blockC_nrm, restrict_nil, exL_ret, finC_ret, resultVs_cons, resultV_t, ownV_d, resultVs_nil, consO_some, leaveC_1, leaves_d, ref_d, settle_d, leave_pure]
end W

set_option linter.unusedSimpArgs false
set_option linter.unusedVariables false
namespace W
open Go (IntKind BinOp UnOp)
set_option maxRecDepth 20000
def Lt : Nat → D → Prop
  | 0, _ => False
  | n + 1, x => ∃ f m s o, x = .agg [.i .i64 f, .i .i64 m, .s s, o] ∧ (o = .nil ∨ ∃ l, o = .sl l) ∧ (itemsD o).length ≤ 5 ∧ ∀ y ∈ itemsD o, Lt n y
theorem Lt.ok : ∀ {n : Nat} {x : D}, Lt n x → TyOk n x
  | 0, x, h => h.elim
  | n + 1, x, h => by
    obtain ⟨f, m, s, o, rfl, ho, hl, hi⟩ := h
    exact ⟨f, m, s, o, rfl, ho, by omega, fun y hy => (hi y hy).ok⟩
theorem Lt.up : ∀ {n : Nat} {x : D}, Lt n x → Lt (n + 1) x
  | 0, x, h => h.elim
  | n + 1, x, h => by
    obtain ⟨f, m, s, o, rfl, ho, hl, hi⟩ := h
    exact ⟨f, m, s, o, rfl, ho, hl, fun y hy => (hi y hy).up⟩
theorem Lt.le {n m : Nat} (h : n ≤ m) {x : D} (hx : Lt n x) : Lt m x := by
  induction h with
  | refl => exact hx
  | step _ ih => exact ih.up
theorem light_loop2 {H : List Obj} {f m k : Int} {s : List Nat} {o : D} {n : Nat} (ho : o = .nil ∨ ∃ l, o = .sl l) (hl : ∀ y ∈ itemsD o, TyOk n y) (hlim : ((itemsD o).length : Int) ≤ 9223372036854775807)
    (hg : ∀ a ∈ itemsD o, ∃ z, callL pg 8 [.d a, .d (.i .i64 (wr .i64 (k - 1)))] H = some ⟨false, true, .d (.b z), H, H.length⟩ ∧ (z = true → Lt n a)) : ∀ (j i : Nat), (itemsD o).length - i = j → i ≤ (itemsD o).length →
    ∃ z, finC H true [.t 4] (thenC pg (blockC 0 [] (f_waferlaw12_light_l0 pg (.d (.i .i64 k)) (.box [.d (.i .i64 f), .d (.i .i64 m), .d (.s s), .d o]) (.d (.i .i64 (i : Nat))) H H.length)) f_waferlaw12_light_R1)
      = some ⟨false, true, .d (.b z), H, H.length⟩ ∧ (z = true → ∀ y ∈ (itemsD o).drop i, Lt n y)
  | 0, i, hn, hi => by
    have hlt : ((i : Int) < ((itemsD o).length : Int)) = False := by rw [eq_iff_iff]; simp; omega
    have h1 := (ofOk ho).len
    refine ⟨true, ?_, fun _ y hy => by rw [List.drop_eq_nil_of_le (by omega)] at hy; cases hy⟩
    rw [f_waferlaw12_light_l0_eq]
    simp only [f_waferlaw12_light_B0, keepV_d, keepV_box, exL_seq, exL_ops, runOps_n, evalK_mov, rd_t, Nat.reduceEqDiff, get_ne, get_eq, readV_d, spent_t, opC_ok, put_d, evalK_fieldAddr, readV_box, faV_lp, Nat.zero_add, okS_some, put_lp, evalK_load, readV_lp, loadV_lp, boxV_1, List.getElem?_cons_succ, List.getElem?_cons_zero, Option.map_some, copy1_d, evalK_lenL, h1, evalK_bin, isC_t, Bool.or_self, bin_lss, hlt, decide_false, runOps_nil, thenC_nrm, exL_cond, condC_b, Bool.false_eq_true, ↓reduceIte, exL_exit, thenC_exit, blockC_exit, restrict_nil, f_waferlaw12_light_R1, rd_c, spent_c, exL_ret, finC_ret, resultVs_cons, resultV_t, ownV_d, resultVs_nil, consO_some, leaveC_1, leaves_d, ref_d, settle_d, leave_pure]
  | j + 1, i, hn, hi => by
    have hlt : ((i : Int) < ((itemsD o).length : Int)) = True := by rw [eq_iff_iff]; simp; omega
    have h1 := (ofOk ho).len
    obtain ⟨a, ha⟩ : ∃ a, (itemsD o)[i]? = some a := ⟨(itemsD o)[i]'(by omega), by simp⟩
    have ha' := List.mem_of_getElem? ha
    have hx := of_ix ha (hl a ha').cells (k := .i64)
    obtain ⟨z, hc, hz⟩ := hg a ha'
    obtain ⟨na, hta⟩ : ∃ n, TyOk (n + 1) a := ⟨n, (hl a ha').up⟩
    obtain ⟨fa, ma, sa, oa, rfl, hoa, _, _⟩ := hta
    have ho1 := (ofOk hoa).one
    have hw : wr .i64 ((i : Int) + 1) = ((i + 1 : Nat) : Int) := by rw [wr_i64 (by omega) (by omega)]; omega
    obtain ⟨z', ih, ihz⟩ := light_loop2 (f := f) (m := m) (s := s) ho hl hlim hg j (i + 1) (by omega) (by omega)
    cases z
    · refine ⟨false, ?_, fun h => by cases h⟩
      rw [f_waferlaw12_light_l0_eq]
      simp only [f_waferlaw12_light_B0, keepV_d, keepV_box, exL_seq, exL_ops, runOps_n, evalK_mov, rd_t, Nat.reduceEqDiff, get_ne, get_eq, readV_d, spent_t, opC_ok, put_d, evalK_fieldAddr, readV_box, faV_lp, Nat.zero_add, okS_some, put_lp, evalK_load, readV_lp, loadV_lp, boxV_1, List.getElem?_cons_succ, List.getElem?_cons_zero, Option.map_some, copy1_d, evalK_lenL, h1, evalK_bin, isC_t, Bool.or_self, bin_lss, hlt, decide_true, runOps_nil, thenC_nrm, exL_cond, condC_b, ↓reduceIte, exL_skip, exL_block, evalK_indexAddr, hx, put_cp, readV_cp, List.length_cons, List.length_nil, Nat.reduceAdd, loadV_cp_agg, isC_c, Bool.or_true, rd_c, bin_sub, evalK_call, List.map_cons, List.map_nil, allLeave_cons, leaves_d, allLeave_nil, Bool.and_self, eCall_f, hc, callC_some, spentAll_cons, spentAll_nil, Nat.min_self, evalK_un, un_not, Bool.not_false, spent_c, exL_ret, blockC_ret, thenC_ret, finC_ret, resultVs_cons, resultV_t, ownV_d, resultVs_nil, consO_some, leaveC_1, ref_d, settle_d, leave_pure]
    · refine ⟨z', ?_, fun h y hy => ?_⟩
      · rw [f_waferlaw12_light_l0_eq]
        simp only [f_waferlaw12_light_B0, keepV_d, keepV_box, exL_seq, exL_ops, runOps_n, evalK_mov, rd_t, Nat.reduceEqDiff, get_ne, get_eq, readV_d, spent_t, opC_ok, put_d, evalK_fieldAddr, readV_box, faV_lp, Nat.zero_add, okS_some, put_lp, evalK_load, readV_lp, loadV_lp, boxV_1, List.getElem?_cons_succ, List.getElem?_cons_zero, Option.map_some, copy1_d, evalK_lenL, h1, evalK_bin, isC_t, Bool.or_self, bin_lss, hlt, decide_true, runOps_nil, thenC_nrm, exL_cond, condC_b, ↓reduceIte, exL_skip, exL_block, evalK_indexAddr, hx, put_cp, readV_cp, List.length_cons, List.length_nil, Nat.reduceAdd, loadV_cp_agg, isC_c, Bool.or_true, rd_c, bin_sub, evalK_call, List.map_cons, List.map_nil, allLeave_cons, leaves_d, allLeave_nil, Bool.and_self, eCall_f, hc, callC_some, spentAll_cons, spentAll_nil, Nat.min_self, evalK_un, un_not, Bool.not_true, Bool.false_eq_true, blockC_nrm, restrict_cons, restrict_nil, bin_add, hw, f_waferlaw12_light_l0_in]
        exact ih
      · rw [drop_cons ha] at hy
        simp at hy
        rcases hy with rfl | hy
        · exact hz rfl
        · exact ihz h y hy
theorem light_call2 : ∀ {n : Nat} {k : Int} {a : D} {H : List Obj}, TyOk n a → 0 ≤ k → k < 1000 → ∃ z, callL pg 8 [.d a, .d (.i .i64 k)] H = some ⟨false, true, .d (.b z), H, H.length⟩ ∧ (z = true → Lt n a)
  | 0, _, _, _, h, _, _ => h.elim
  | n + 1, k, _, H, h, hk, hk2 => by
    obtain ⟨f, m, s, o, rfl, ho, hl, hi⟩ := h
    have ho1 := (ofOk ho).one
    have h1 := (ofOk ho).len
    rw [callL_fn (fn := f_waferlaw12_light) rfl rfl]
    by_cases hz : k = 0
    · refine ⟨false, ?_, fun h => by cases h⟩
      subst hz
      simp only [f_waferlaw12_light, argEnv_cons, Nat.zero_add, Nat.reduceAdd, argEnv_nil, exL_seq, exL_ops, runOps_n, evalK_box, rd_t, get_eq, readV_d, spent_t, cells_agg, List.map_cons, List.map_nil, ones_cons, vone_d, one_i, one_s, ho1, ones_nil, Bool.and_self, boxN_t, opC_ok, put_box, killLp_cons, killV_d, killLp_nil, evalK_mov, rd_c, spent_c, put_d, runOps_nil, thenC_nrm, Nat.reduceEqDiff, get_ne, reduceCtorEq, evalK_bin, isC_t, isC_c, Bool.or_true, bin_eql, decide_true, okS_some, runOps_g, wantG_bf, Bool.not_true, wantC_b, Bool.false_eq_true, ↓reduceIte, put_tup, evalK_pick, readV_tup, pickV_t, exL_cond, condC_b, exL_ret, thenC_ret, finC_ret, resultVs_cons, resultV_t, ownV_d, resultVs_nil, consO_some, leaveC_1, leaves_d, ref_d, settle_d, leave_pure]
    · by_cases h5 : (5 : Int) < ((itemsD o).length : Nat)
      · refine ⟨false, ?_, fun h => by cases h⟩
        simp only [f_waferlaw12_light, argEnv_cons, Nat.zero_add, Nat.reduceAdd, argEnv_nil, exL_seq, exL_ops, runOps_n, evalK_box, rd_t, get_eq, readV_d, spent_t, cells_agg, List.map_cons, List.map_nil, ones_cons, vone_d, one_i, one_s, ho1, ones_nil, Bool.and_self, boxN_t, opC_ok, put_box, killLp_cons, killV_d, killLp_nil, evalK_mov, rd_c, spent_c, put_d, runOps_nil, thenC_nrm, Nat.reduceEqDiff, get_ne, reduceCtorEq, evalK_bin, isC_t, isC_c, Bool.or_true, bin_eql, eq_false hz, decide_false, okS_some, runOps_g, wantG_bf, Bool.not_false, wantC_b, ↓reduceIte, evalK_fieldAddr, readV_box, faV_lp, put_lp, evalK_load, readV_lp, loadV_lp, boxV_1, List.getElem?_cons_succ, List.getElem?_cons_zero, Option.map_some, copy1_d, evalK_lenL, h1, bin_gtr, eq_true h5, decide_true, evalK_pick, pickV_b, Bool.false_eq_true, exL_cond, condC_b, exL_ret, thenC_ret, finC_ret, resultVs_cons, resultV_t, ownV_d, resultVs_nil, consO_some, leaveC_1, leaves_d, ref_d, settle_d, leave_pure]
      · have hw : wr .i64 (k - 1) = k - 1 := wr_i64 (by omega) (by omega)
        obtain ⟨z, hlp, hzz⟩ := light_loop2 (H := H) (f := f) (m := m) (s := s) (k := k) ho hi hl (fun a ha => by rw [hw]; exact light_call2 (hi a ha) (by omega) (by omega)) _ 0 rfl (by omega)
        refine ⟨z, ?_, fun h => ⟨f, m, s, o, rfl, ho, by omega, fun y hy => hzz h y (by simpa using hy)⟩⟩
        simp only [f_waferlaw12_light, argEnv_cons, Nat.zero_add, Nat.reduceAdd, argEnv_nil, exL_seq, exL_ops, runOps_n, evalK_box, rd_t, get_eq, readV_d, spent_t, cells_agg, List.map_cons, List.map_nil, ones_cons, vone_d, one_i, one_s, ho1, ones_nil, Bool.and_self, boxN_t, opC_ok, put_box, killLp_cons, killV_d, killLp_nil, evalK_mov, rd_c, spent_c, put_d, runOps_nil, thenC_nrm, Nat.reduceEqDiff, get_ne, reduceCtorEq, evalK_bin, isC_t, isC_c, Bool.or_true, bin_eql, eq_false hz, decide_false, okS_some, runOps_g, wantG_bf, Bool.not_false, wantC_b, ↓reduceIte, evalK_fieldAddr, readV_box, faV_lp, put_lp, evalK_load, readV_lp, loadV_lp, boxV_1, List.getElem?_cons_succ, List.getElem?_cons_zero, Option.map_some, copy1_d, evalK_lenL, h1, bin_gtr, eq_false h5, evalK_pick, pickV_b, Bool.false_eq_true, exL_cond, condC_b, exL_skip, exL_block, f_waferlaw12_light_l0_in, keepV_d, keepV_box]
        exact hlp
theorem bD_lt (f : Int) (n : Nat) : Lt (n + 1) (bD f) := ⟨f, 0, [], .nil, rfl, .inl rfl, by simp [itemsD], fun y hy => by simp [itemsD] at hy⟩
theorem nD_lt (f : Int) (s : List Nat) (n : Nat) : Lt (n + 1) (.agg [.i .i64 f, .i .i64 0, .s s, .nil]) := ⟨f, 0, s, .nil, rfl, .inl rfl, by simp [itemsD], fun y hy => by simp [itemsD] at hy⟩
theorem aD_lt {k : Int} {t : D} {n : Nat} (h : Lt n t) : Lt (n + 1) (.agg [.i .i64 7, .i .i64 k, .s [], .sl [t]]) := ⟨7, k, [], _, rfl, .inr ⟨_, rfl⟩, by simp [itemsD], fun y hy => by simp [itemsD] at hy; subst hy; exact h⟩
theorem typeOf_call2 {k : Int} (h0 : 0 ≤ k) (h1 : k < 256) {n : Nat} {t : D} (ht : Lt n t) {H : List Obj} : ∃ y, callL pg 15 [.d (.i .u8 k), .d t] H = some ⟨false, true, .d y, H, H.length⟩ ∧ Lt (n + 2) y := by
  have e1 := Int.tdiv_eq_ediv_of_nonneg (b := 16) h0
  have e2 := Int.tmod_eq_emod_of_nonneg (b := 7) (a := k.tdiv 16) (by omega)
  have e3 := Int.tmod_eq_emod_of_nonneg (b := 10) h0
  have hq : wr .u8 (k.tdiv 16) = k.tdiv 16 := wr_u8 (by omega) (by omega)
  have hc : wr .u8 (48 + (k.tdiv 16).tmod 7) = 48 + (k.tdiv 16).tmod 7 := wr_u8 (by omega) (by omega)
  have htx := fun H => text1 (c := 48 + (k.tdiv 16).tmod 7) (by omega) (by omega) (H := H)
  have hs1 : ∀ c, binV .add .num c (.d (.s [77, 46, 82])) (.d (.s [(48 + (k.tdiv 16).tmod 7).toNat])) = some (.d (.s [77, 46, 82, (48 + (k.tdiv 16).tmod 7).toNat])) := fun c => sadd (by simp)
  have h10 : k.tmod 10 = 0 ∨ k.tmod 10 = 1 ∨ k.tmod 10 = 2 ∨ k.tmod 10 = 3 ∨ k.tmod 10 = 4 ∨ k.tmod 10 = 5 ∨ k.tmod 10 = 6 ∨ k.tmod 10 = 7 ∨ k.tmod 10 = 8 ∨ k.tmod 10 = 9 := by omega
  have b1 := fun (n : Int) (H : List Obj) => basic_call (n := n) (H := H)
  have a1 := fun (n f m : Int) (s : List Nat) (H : List Obj) => arr_call (n := n) (f := f) (m := m) (s := s) (o := .nil) (.inl rfl) (H := H)
  obtain ⟨nt, htt⟩ : ∃ n, TyOk (n + 1) t := ⟨n, ht.ok.up⟩
  obtain ⟨f, m, s, o, rfl, ho, _, _⟩ := htt
  have ho1 := (ofOk ho).one
  rw [callL_fn (fn := f_waferlaw12_typeOf) rfl rfl]
  rcases h10 with h | h | h | h | h | h | h | h | h | h
  · refine ⟨bD 1, ?_, bD_lt _ _⟩
    simp only [f_waferlaw12_typeOf, argEnv_cons, Nat.zero_add, Nat.reduceAdd, argEnv_nil, exL_seq, exL_ops, runOps_n, evalK_box, rd_t, reduceCtorEq, get_ne, get_eq, readV_d, spent_t, cells_agg, List.map_cons, List.map_nil, ones_cons, vone_d, one_i, one_s, ho1, ones_nil, Bool.and_self, boxN_t, opC_ok, put_box, killLp_cons, killV_d, killLp_nil, evalK_allocL, killV_box, runOps_nil, thenC_nrm, evalK_mov, put_d, evalK_bin, isC_t, isC_c, Bool.or_true, rd_c, Int.reduceEq, bin_quo, hq, okS_some, bin_rem, Bool.or_false, bin_add, hc, evalK_buildSlice, dcells_i, List.length_cons, List.length_nil, List.reduceReplicate, Nat.reduceLT, fillD_cons, List.set_cons_zero, fillD_nil, wfs_cons, wf_one, wfs_nil, slO_some, put_osl, evalK_text, readV_osl, htx, hs1, h, exL_block, bin_eql, decide_true, exL_cond, condC_b, ↓reduceIte, exL_skip, evalK_call, allLeave_cons, leaves_d, allLeave_nil, eCall_f, b1, callC_some, spentAll_cons, spent_c, spentAll_nil, Nat.min_self, evalK_store, rd_mv, takeV_d, Nat.reduceEqDiff, readV_box, spent_mv, storeV_lp, one_nil, storeB_box, setCells_all, storeR_some, put_none, exL_ret, blockC_ret, thenC_ret, finC_ret, resultVs_cons, resultV_cell, resC_box, Nat.reduceLeDiff, boxV_A, List.drop_zero, List.take_succ_cons, List.take_zero, copy1_d, mkAgg_eq, allD_d, allD_nil, consD_some, aggV_some, resultVs_nil, consO_some, leaveC_1, ref_d, settle_d, leave_pure, bD]
  · refine ⟨bD 1, ?_, bD_lt _ _⟩
    simp only [f_waferlaw12_typeOf, argEnv_cons, Nat.zero_add, Nat.reduceAdd, argEnv_nil, exL_seq, exL_ops, runOps_n, evalK_box, rd_t, reduceCtorEq, get_ne, get_eq, readV_d, spent_t, cells_agg, List.map_cons, List.map_nil, ones_cons, vone_d, one_i, one_s, ho1, ones_nil, Bool.and_self, boxN_t, opC_ok, put_box, killLp_cons, killV_d, killLp_nil, evalK_allocL, killV_box, runOps_nil, thenC_nrm, evalK_mov, put_d, evalK_bin, isC_t, isC_c, Bool.or_true, rd_c, Int.reduceEq, bin_quo, hq, okS_some, bin_rem, Bool.or_false, bin_add, hc, evalK_buildSlice, dcells_i, List.length_cons, List.length_nil, List.reduceReplicate, Nat.reduceLT, fillD_cons, List.set_cons_zero, fillD_nil, wfs_cons, wf_one, wfs_nil, slO_some, put_osl, evalK_text, readV_osl, htx, hs1, h, exL_block, bin_eql, decide_false, exL_cond, condC_b, Bool.false_eq_true, ↓reduceIte, Nat.reduceEqDiff, decide_true, evalK_call, allLeave_cons, leaves_d, allLeave_nil, eCall_f, b1, callC_some, spentAll_cons, spent_c, spentAll_nil, Nat.min_self, evalK_store, rd_mv, takeV_d, readV_box, spent_mv, storeV_lp, one_nil, storeB_box, setCells_all, storeR_some, put_none, exL_ret, blockC_ret, thenC_ret, finC_ret, resultVs_cons, resultV_cell, resC_box, Nat.reduceLeDiff, boxV_A, List.drop_zero, List.take_succ_cons, List.take_zero, copy1_d, mkAgg_eq, allD_d, allD_nil, consD_some, aggV_some, resultVs_nil, consO_some, leaveC_1, ref_d, settle_d, leave_pure, bD]
  · refine ⟨bD (wr .i64 (2 + wr .i64 ((k.tdiv 16).tmod 3))), ?_, bD_lt _ _⟩
    simp only [f_waferlaw12_typeOf, argEnv_cons, Nat.zero_add, Nat.reduceAdd, argEnv_nil, exL_seq, exL_ops, runOps_n, evalK_box, rd_t, reduceCtorEq, get_ne, get_eq, readV_d, spent_t, cells_agg, List.map_cons, List.map_nil, ones_cons, vone_d, one_i, one_s, ho1, ones_nil, Bool.and_self, boxN_t, opC_ok, put_box, killLp_cons, killV_d, killLp_nil, evalK_allocL, killV_box, runOps_nil, thenC_nrm, evalK_mov, put_d, evalK_bin, isC_t, isC_c, Bool.or_true, rd_c, Int.reduceEq, bin_quo, hq, okS_some, bin_rem, Bool.or_false, bin_add, hc, evalK_buildSlice, dcells_i, List.length_cons, List.length_nil, List.reduceReplicate, Nat.reduceLT, fillD_cons, List.set_cons_zero, fillD_nil, wfs_cons, wf_one, wfs_nil, slO_some, put_osl, evalK_text, readV_osl, htx, hs1, h, exL_block, bin_eql, decide_false, exL_cond, condC_b, Bool.false_eq_true, ↓reduceIte, Nat.reduceEqDiff, decide_true, evalK_conv, evalK_call, allLeave_cons, leaves_d, allLeave_nil, eCall_f, b1, callC_some, spentAll_cons, spentAll_nil, Nat.min_self, evalK_store, rd_mv, takeV_d, readV_box, spent_mv, storeV_lp, one_nil, storeB_box, setCells_all, storeR_some, put_none, exL_ret, blockC_ret, thenC_ret, finC_ret, resultVs_cons, resultV_cell, resC_box, Nat.reduceLeDiff, boxV_A, List.drop_zero, List.take_succ_cons, List.take_zero, copy1_d, mkAgg_eq, allD_d, allD_nil, consD_some, aggV_some, resultVs_nil, consO_some, leaveC_1, ref_d, settle_d, leave_pure, bD]
  · refine ⟨_, ?_, nD_lt 9 [77, 46, 82, (48 + (k.tdiv 16).tmod 7).toNat] _⟩
    simp only [f_waferlaw12_typeOf, argEnv_cons, Nat.zero_add, Nat.reduceAdd, argEnv_nil, exL_seq, exL_ops, runOps_n, evalK_box, rd_t, reduceCtorEq, get_ne, get_eq, readV_d, spent_t, cells_agg, List.map_cons, List.map_nil, ones_cons, vone_d, one_i, one_s, ho1, ones_nil, Bool.and_self, boxN_t, opC_ok, put_box, killLp_cons, killV_d, killLp_nil, evalK_allocL, killV_box, runOps_nil, thenC_nrm, evalK_mov, put_d, evalK_bin, isC_t, isC_c, Bool.or_true, rd_c, Int.reduceEq, bin_quo, hq, okS_some, bin_rem, Bool.or_false, bin_add, hc, evalK_buildSlice, dcells_i, List.length_cons, List.length_nil, List.reduceReplicate, Nat.reduceLT, fillD_cons, List.set_cons_zero, fillD_nil, wfs_cons, wf_one, wfs_nil, slO_some, put_osl, evalK_text, readV_osl, htx, hs1, h, exL_block, bin_eql, decide_false, exL_cond, condC_b, Bool.false_eq_true, ↓reduceIte, Nat.reduceEqDiff, decide_true, exL_skip, evalK_build, cells_d1, fillC_1, List.set_cons_succ, fillC_nil, aggO_some, mkAgg_eq, allD_d, allD_nil, consD_some, aggV_some, evalK_store, readV_box, storeV_lp, one_nil, storeB_box, setCells_all, storeR_some, put_none, exL_ret, blockC_ret, thenC_ret, finC_ret, resultVs_cons, resultV_cell, resC_box, Nat.reduceLeDiff, boxV_A, List.drop_zero, List.take_succ_cons, List.take_zero, copy1_d, resultVs_nil, consO_some, leaveC_1, leaves_d, ref_d, settle_d, leave_pure]
  · refine ⟨_, ?_, nD_lt 9 [77, 46, 82, (48 + (k.tdiv 16).tmod 7).toNat] _⟩
    simp only [f_waferlaw12_typeOf, argEnv_cons, Nat.zero_add, Nat.reduceAdd, argEnv_nil, exL_seq, exL_ops, runOps_n, evalK_box, rd_t, reduceCtorEq, get_ne, get_eq, readV_d, spent_t, cells_agg, List.map_cons, List.map_nil, ones_cons, vone_d, one_i, one_s, ho1, ones_nil, Bool.and_self, boxN_t, opC_ok, put_box, killLp_cons, killV_d, killLp_nil, evalK_allocL, killV_box, runOps_nil, thenC_nrm, evalK_mov, put_d, evalK_bin, isC_t, isC_c, Bool.or_true, rd_c, Int.reduceEq, bin_quo, hq, okS_some, bin_rem, Bool.or_false, bin_add, hc, evalK_buildSlice, dcells_i, List.length_cons, List.length_nil, List.reduceReplicate, Nat.reduceLT, fillD_cons, List.set_cons_zero, fillD_nil, wfs_cons, wf_one, wfs_nil, slO_some, put_osl, evalK_text, readV_osl, htx, hs1, h, exL_block, bin_eql, decide_false, exL_cond, condC_b, Bool.false_eq_true, ↓reduceIte, Nat.reduceEqDiff, decide_true, evalK_build, cells_d1, fillC_1, List.set_cons_succ, fillC_nil, aggO_some, mkAgg_eq, allD_d, allD_nil, consD_some, aggV_some, evalK_store, readV_box, storeV_lp, one_nil, storeB_box, setCells_all, storeR_some, put_none, exL_ret, blockC_ret, thenC_ret, finC_ret, resultVs_cons, resultV_cell, resC_box, Nat.reduceLeDiff, boxV_A, List.drop_zero, List.take_succ_cons, List.take_zero, copy1_d, resultVs_nil, consO_some, leaveC_1, leaves_d, ref_d, settle_d, leave_pure]
  · refine ⟨_, ?_, nD_lt 8 [77, 46, 82, (48 + (k.tdiv 16).tmod 7).toNat] _⟩
    simp only [f_waferlaw12_typeOf, argEnv_cons, Nat.zero_add, Nat.reduceAdd, argEnv_nil, exL_seq, exL_ops, runOps_n, evalK_box, rd_t, reduceCtorEq, get_ne, get_eq, readV_d, spent_t, cells_agg, List.map_cons, List.map_nil, ones_cons, vone_d, one_i, one_s, ho1, ones_nil, Bool.and_self, boxN_t, opC_ok, put_box, killLp_cons, killV_d, killLp_nil, evalK_allocL, killV_box, runOps_nil, thenC_nrm, evalK_mov, put_d, evalK_bin, isC_t, isC_c, Bool.or_true, rd_c, Int.reduceEq, bin_quo, hq, okS_some, bin_rem, Bool.or_false, bin_add, hc, evalK_buildSlice, dcells_i, List.length_cons, List.length_nil, List.reduceReplicate, Nat.reduceLT, fillD_cons, List.set_cons_zero, fillD_nil, wfs_cons, wf_one, wfs_nil, slO_some, put_osl, evalK_text, readV_osl, htx, hs1, h, exL_block, bin_eql, decide_false, exL_cond, condC_b, Bool.false_eq_true, ↓reduceIte, Nat.reduceEqDiff, decide_true, evalK_build, cells_d1, fillC_1, List.set_cons_succ, fillC_nil, aggO_some, mkAgg_eq, allD_d, allD_nil, consD_some, aggV_some, evalK_store, readV_box, storeV_lp, one_nil, storeB_box, setCells_all, storeR_some, put_none, exL_ret, blockC_ret, thenC_ret, finC_ret, resultVs_cons, resultV_cell, resC_box, Nat.reduceLeDiff, boxV_A, List.drop_zero, List.take_succ_cons, List.take_zero, copy1_d, resultVs_nil, consO_some, leaveC_1, leaves_d, ref_d, settle_d, leave_pure]
  · refine ⟨_, ?_, aD_lt (k := wr .i64 (wr .i64 (k.tmod 64) * 20)) (bD_lt 1 n)⟩
    simp only [f_waferlaw12_typeOf, argEnv_cons, Nat.zero_add, Nat.reduceAdd, argEnv_nil, exL_seq, exL_ops, runOps_n, evalK_box, rd_t, reduceCtorEq, get_ne, get_eq, readV_d, spent_t, cells_agg, List.map_cons, List.map_nil, ones_cons, vone_d, one_i, one_s, ho1, ones_nil, Bool.and_self, boxN_t, opC_ok, put_box, killLp_cons, killV_d, killLp_nil, evalK_allocL, killV_box, runOps_nil, thenC_nrm, evalK_mov, put_d, evalK_bin, isC_t, isC_c, Bool.or_true, rd_c, Int.reduceEq, bin_quo, hq, okS_some, bin_rem, Bool.or_false, bin_add, hc, evalK_buildSlice, dcells_i, List.length_cons, List.length_nil, List.reduceReplicate, Nat.reduceLT, fillD_cons, List.set_cons_zero, fillD_nil, wfs_cons, wf_one, wfs_nil, slO_some, put_osl, evalK_text, readV_osl, htx, hs1, h, exL_block, bin_eql, decide_false, exL_cond, condC_b, Bool.false_eq_true, ↓reduceIte, Nat.reduceEqDiff, decide_true, exL_skip, evalK_conv, bin_mul, evalK_call, allLeave_cons, leaves_d, allLeave_nil, eCall_f, b1, callC_some, spentAll_cons, spent_c, spentAll_nil, Nat.min_self, a1, evalK_store, rd_mv, takeV_d, readV_box, spent_mv, storeV_lp, one_sl, storeB_box, setCells_all, storeR_some, put_none, exL_ret, blockC_ret, thenC_ret, finC_ret, resultVs_cons, resultV_cell, resC_box, Nat.reduceLeDiff, boxV_A, List.drop_zero, List.take_succ_cons, List.take_zero, copy1_d, mkAgg_eq, allD_d, allD_nil, consD_some, aggV_some, resultVs_nil, consO_some, leaveC_1, ref_d, settle_d, leave_pure, bD]
  · refine ⟨_, ?_, aD_lt (k := wr .i64 (wr .i64 (k.tmod 64) * 20)) (bD_lt 1 n)⟩
    simp only [f_waferlaw12_typeOf, argEnv_cons, Nat.zero_add, Nat.reduceAdd, argEnv_nil, exL_seq, exL_ops, runOps_n, evalK_box, rd_t, reduceCtorEq, get_ne, get_eq, readV_d, spent_t, cells_agg, List.map_cons, List.map_nil, ones_cons, vone_d, one_i, one_s, ho1, ones_nil, Bool.and_self, boxN_t, opC_ok, put_box, killLp_cons, killV_d, killLp_nil, evalK_allocL, killV_box, runOps_nil, thenC_nrm, evalK_mov, put_d, evalK_bin, isC_t, isC_c, Bool.or_true, rd_c, Int.reduceEq, bin_quo, hq, okS_some, bin_rem, Bool.or_false, bin_add, hc, evalK_buildSlice, dcells_i, List.length_cons, List.length_nil, List.reduceReplicate, Nat.reduceLT, fillD_cons, List.set_cons_zero, fillD_nil, wfs_cons, wf_one, wfs_nil, slO_some, put_osl, evalK_text, readV_osl, htx, hs1, h, exL_block, bin_eql, decide_false, exL_cond, condC_b, Bool.false_eq_true, ↓reduceIte, Nat.reduceEqDiff, decide_true, evalK_conv, bin_mul, evalK_call, allLeave_cons, leaves_d, allLeave_nil, eCall_f, b1, callC_some, spentAll_cons, spent_c, spentAll_nil, Nat.min_self, a1, evalK_store, rd_mv, takeV_d, readV_box, spent_mv, storeV_lp, one_sl, storeB_box, setCells_all, storeR_some, put_none, exL_ret, blockC_ret, thenC_ret, finC_ret, resultVs_cons, resultV_cell, resC_box, Nat.reduceLeDiff, boxV_A, List.drop_zero, List.take_succ_cons, List.take_zero, copy1_d, mkAgg_eq, allD_d, allD_nil, consD_some, aggV_some, resultVs_nil, consO_some, leaveC_1, ref_d, settle_d, leave_pure, bD]
  · refine ⟨_, ?_, aD_lt (k := wr .i64 (k.tmod 9)) (nD_lt 8 [77, 46, 82, (48 + (k.tdiv 16).tmod 7).toNat] n)⟩
    simp only [f_waferlaw12_typeOf, argEnv_cons, Nat.zero_add, Nat.reduceAdd, argEnv_nil, exL_seq, exL_ops, runOps_n, evalK_box, rd_t, reduceCtorEq, get_ne, get_eq, readV_d, spent_t, cells_agg, List.map_cons, List.map_nil, ones_cons, vone_d, one_i, one_s, ho1, ones_nil, Bool.and_self, boxN_t, opC_ok, put_box, killLp_cons, killV_d, killLp_nil, evalK_allocL, killV_box, runOps_nil, thenC_nrm, evalK_mov, put_d, evalK_bin, isC_t, isC_c, Bool.or_true, rd_c, Int.reduceEq, bin_quo, hq, okS_some, bin_rem, Bool.or_false, bin_add, hc, evalK_buildSlice, dcells_i, List.length_cons, List.length_nil, List.reduceReplicate, Nat.reduceLT, fillD_cons, List.set_cons_zero, fillD_nil, wfs_cons, wf_one, wfs_nil, slO_some, put_osl, evalK_text, readV_osl, htx, hs1, h, exL_block, bin_eql, decide_false, exL_cond, condC_b, Bool.false_eq_true, ↓reduceIte, Nat.reduceEqDiff, decide_true, evalK_conv, evalK_build, cells_d1, fillC_1, List.set_cons_succ, fillC_nil, aggO_some, mkAgg_eq, allD_d, allD_nil, consD_some, aggV_some, evalK_call, allLeave_cons, leaves_d, allLeave_nil, eCall_f, a1, callC_some, spentAll_cons, spentAll_nil, Nat.min_self, evalK_store, rd_mv, takeV_d, readV_box, spent_mv, storeV_lp, one_sl, storeB_box, setCells_all, storeR_some, put_none, exL_ret, blockC_ret, thenC_ret, finC_ret, resultVs_cons, resultV_cell, resC_box, Nat.reduceLeDiff, boxV_A, List.drop_zero, List.take_succ_cons, List.take_zero, copy1_d, resultVs_nil, consO_some, leaveC_1, ref_d, settle_d, leave_pure]
  · refine ⟨_, ?_, ht.up.up⟩
    simp only [f_waferlaw12_typeOf, argEnv_cons, Nat.zero_add, Nat.reduceAdd, argEnv_nil, exL_seq, exL_ops, runOps_n, evalK_box, rd_t, reduceCtorEq, get_ne, get_eq, readV_d, spent_t, cells_agg, List.map_cons, List.map_nil, ones_cons, vone_d, one_i, one_s, ho1, ones_nil, Bool.and_self, boxN_t, opC_ok, put_box, killLp_cons, killV_d, killLp_nil, evalK_allocL, killV_box, runOps_nil, thenC_nrm, evalK_mov, put_d, evalK_bin, isC_t, isC_c, Bool.or_true, rd_c, Int.reduceEq, bin_quo, hq, okS_some, bin_rem, Bool.or_false, bin_add, hc, evalK_buildSlice, dcells_i, List.length_cons, List.length_nil, List.reduceReplicate, Nat.reduceLT, fillD_cons, List.set_cons_zero, fillD_nil, wfs_cons, wf_one, wfs_nil, slO_some, put_osl, evalK_text, readV_osl, htx, hs1, h, exL_block, bin_eql, decide_false, exL_cond, condC_b, Bool.false_eq_true, ↓reduceIte, Nat.reduceEqDiff, exL_skip, blockC_nrm, restrict_cons, keepV_box, restrict_nil, evalK_load, readV_box, loadV_lp, Nat.reduceLeDiff, boxV_A, List.drop_zero, List.take_succ_cons, List.take_zero, copy1_d, mkAgg_eq, allD_d, allD_nil, consD_some, aggV_some, evalK_store, storeV_lp, storeB_box, setCells_all, storeR_some, put_none, exL_ret, finC_ret, resultVs_cons, resultV_cell, resC_box, resultVs_nil, consO_some, leaveC_1, leaves_d, ref_d, settle_d, leave_pure]
inductive P2 {α β : Type} (R : α → β → Prop) : List α → List β → Prop
  | nil : P2 R [] []
  | cons {a : α} {b : β} {l : List α} {r : List β} (h : R a b) (t : P2 R l r) : P2 R (a :: l) (b :: r)
theorem P2.len {α β : Type} {R : α → β → Prop} {l : List α} {r : List β} (h : P2 R l r) : l.length = r.length := by
  induction h with
  | nil => rfl
  | cons _ _ ih => simp [ih]
theorem P2.append {α β : Type} {R : α → β → Prop} {l l' : List α} {r r' : List β} (h : P2 R l r) (h' : P2 R l' r') : P2 R (l ++ l') (r ++ r') := by
  induction h with
  | nil => exact h'
  | cons h _ ih => exact .cons h ih
theorem P2.get {α β : Type} {R : α → β → Prop} {l : List α} {r : List β} (h : P2 R l r) : ∀ {i : Nat} {a : α} {b : β}, l[i]? = some a → r[i]? = some b → R a b := by
  induction h with
  | nil => intro i a b h; simp at h
  | cons h _ ih =>
    intro i a b h1 h2
    cases i with
    | zero => simp at h1 h2; subst h1; subst h2; exact h
    | succ i => exact ih (by simpa using h1) (by simpa using h2)
def Ali : Nat → D → D → Prop
  | 0, _, _ => False
  | n + 1, x, y => ∃ f m s o o', x = .agg [.i .i64 f, .i .i64 m, .s s, o] ∧ y = .agg [.i .i64 f, .i .i64 m, .s s, o'] ∧ P2 (Ali n) (itemsD o) (itemsD o')
abbrev D4 := {x : D // x.cells.length = 4}
def e4 (x : D4) : D := x.1
theorem e4_cells (x : D4) : (e4 x).cells.length = 4 := x.2
theorem items_slD {α : Type} {e : α → D} {L : List α} : itemsD (slD e L) = L.map e := by cases L <;> rfl
theorem slD_is {α : Type} {e : α → D} {L : List α} : slD e L = .nil ∨ ∃ l, slD e L = .sl l := by cases L <;> simp [slD]
theorem take_snoc {l : List D} {i : Nat} {y : D} (h : l[i]? = some y) : l.take (i + 1) = l.take i ++ [y] := by
  obtain ⟨hi, rfl⟩ := List.getElem?_eq_some_iff.1 h
  rw [List.take_add_one, h]; rfl
theorem clone_loop {H : List Obj} {f m : Int} {s : List Nat} {o : D} {n : Nat} {z2 : List V} (ho : o = .nil ∨ ∃ l, o = .sl l) (hl : ∀ y ∈ itemsD o, Lt n y) (hlim : (itemsD o).length ≤ 5)
    (hg : ∀ a ∈ itemsD o, ∃ y, callL pg 28 [.d a] H = some ⟨false, true, .d y, H, H.length⟩ ∧ Ali n y a ∧ Lt n y) : ∀ (j i : Nat) (acc : List D4), (itemsD o).length - i = j → i ≤ (itemsD o).length → P2 (Ali n) (acc.map e4) ((itemsD o).take i) → (∀ y ∈ acc, Lt n y.1) →
    ∃ acc', blockC 0 [2, 3] (f_types_Clone_l0 pg (.box z2) (.box [.d (.i .i64 f), .d (.i .i64 m), .d (.s s), slV e4 acc]) (.d o) (.d (.i .i64 ((itemsD o).length : Nat))) (.d (.i .i64 (i : Nat))) H H.length)
      = some (.nrm, ⟨[(2, .box z2), (3, .box [.d (.i .i64 f), .d (.i .i64 m), .d (.s s), slV e4 acc'])], H, H.length⟩) ∧ P2 (Ali n) (acc'.map e4) (itemsD o) ∧ (∀ y ∈ acc', Lt n y.1)
  | 0, i, acc, hn, hi, hp, ha => by
    have hlt : ((i : Int) < ((itemsD o).length : Int)) = False := by rw [eq_iff_iff]; simp; omega
    rw [List.take_of_length_le (by omega)] at hp
    refine ⟨acc, ?_, hp, ha⟩
    rw [f_types_Clone_l0_eq]
    simp only [f_types_Clone_B0, keepV_box, keepV_d, exL_seq, exL_ops, runOps_n, evalK_bin, isC_t, Bool.or_self, rd_t, Nat.reduceEqDiff, get_ne, get_eq, readV_d, bin_lss, hlt, decide_false, okS_some, opC_ok, put_d, runOps_nil, thenC_nrm, exL_cond, condC_b, Bool.false_eq_true, ↓reduceIte, exL_exit, thenC_exit, blockC_exit, restrict_cons, restrict_nil]
  | j + 1, i, acc, hn, hi, hp, ha => by
    have hlt : ((i : Int) < ((itemsD o).length : Int)) = True := by rw [eq_iff_iff]; simp; omega
    obtain ⟨a, haa⟩ : ∃ a, (itemsD o)[i]? = some a := ⟨(itemsD o)[i]'(by omega), by simp⟩
    have ha' := List.mem_of_getElem? haa
    have hx := of_ix haa (hl a ha').ok.cells (k := .i64)
    obtain ⟨y, hc, hya, hyl⟩ := hg a ha'
    obtain ⟨na, hta⟩ : ∃ n, TyOk (n + 1) a := ⟨n, (hl a ha').ok.up⟩
    obtain ⟨fa, ma, sa, oa, rfl, hoa, _, _⟩ := hta
    obtain ⟨nb, htb⟩ : ∃ n, TyOk (n + 1) y := ⟨n, hyl.ok.up⟩
    obtain ⟨fb, mb, sb, ob, rfl, hob, _, _⟩ := htb
    have ho1 := (ofOk hoa).one
    have ho2 := (ofOk hob).one
    have hal : acc.length = i := by have := hp.len; simp at this; omega
    have hw : wr .i64 ((i : Int) + 1) = ((i + 1 : Nat) : Int) := by rw [wr_i64 (by omega) (by omega)]; omega
    have happ : appendV 4 56 (slV e4 acc) (.d (.sl [.agg [.i .i64 fb, .i .i64 mb, .s sb, ob]])) = some (slV e4 (acc ++ [⟨.agg [.i .i64 fb, .i .i64 mb, .s sb, ob], rfl⟩])) :=
      app_slV1 (e := e4) (x := ⟨.agg [.i .i64 fb, .i .i64 mb, .s sb, ob], rfl⟩) e4_cells (roomy_of (by omega) (by omega))
    obtain ⟨acc', ih, ihp, iha⟩ := clone_loop (f := f) (m := m) (s := s) (z2 := z2) ho hl hlim hg j (i + 1) (acc ++ [⟨.agg [.i .i64 fb, .i .i64 mb, .s sb, ob], rfl⟩]) (by omega) (by omega)
      (by rw [take_snoc haa, List.map_append]; exact hp.append (.cons hya .nil)) (fun q hq => by
        simp at hq
        rcases hq with hq | rfl
        · exact ha q hq
        · exact hyl)
    refine ⟨acc', ?_, ihp, iha⟩
    rw [f_types_Clone_l0_eq]
    simp only [f_types_Clone_B0, keepV_box, keepV_d, exL_seq, exL_ops, runOps_n, evalK_bin, isC_t, Bool.or_self, rd_t, Nat.reduceEqDiff, get_ne, get_eq, readV_d, bin_lss, hlt, decide_true, okS_some, opC_ok, put_d, runOps_nil, thenC_nrm, exL_cond, condC_b, ↓reduceIte, exL_skip, exL_block, evalK_indexAddr, hx, put_cp, evalK_load, readV_cp, List.length_cons, List.length_nil, Nat.zero_add, Nat.reduceAdd, loadV_cp_agg, evalK_allocL, List.map_cons, List.map_nil, put_box, killLp_cons, killV_d, killV_cp, killV_box, killLp_nil, evalK_store, readV_box, spent_t, storeV_lp, cells_agg, ones_cons, vone_d, one_i, one_s, ho1, ones_nil, Bool.and_self, storeB_box, setCells_all, storeR_some, put_none, exL_opsD, runOpsD_n, evalK_fieldAddr, faV_lp, opDC_same, putD_lp, hasNat_nil, lpD_f, putC_some, evalK_loadMvL, readV_lp, mvA_lp, mvL_box, List.getElem?_cons_succ, List.getElem?_cons_zero, mvB_some, List.set_cons_succ, List.set_cons_zero, boxK_load, putD_slV, loadV_lp, Nat.reduceLeDiff, boxV_A, List.drop_zero, List.take_succ_cons, List.take_zero, copy1_d, mkAgg_eq, allD_d, allD_nil, consD_some, aggV_some, putD_d, evalK_call, allLeave_cons, leaves_d, allLeave_nil, eCall_f, hc, callC_some, spentAll_cons, spentAll_nil, Nat.min_self, evalK_buildSlice, dcells_agg, List.reduceReplicate, Nat.reduceLT, fillD_cons, fillD_nil, wfs_cons, wf_agg, dones_cons, ho2, dones_nil, wfs_nil, slO_some, putD_osl, evalK_append, rd_mv, takeV_slV, readV_osl, happ, spent_mv, appO_some, opDC_serial, cells_slV, vone_slV, setCells_1, putD_none, runOpsD_nil, blockC_nrm, restrict_cons, restrict_nil, isC_c, Bool.or_true, rd_c, bin_add, hw, evalK_mov, f_types_Clone_l0_in]
    exact ih
theorem clone_call : ∀ {n : Nat} {a : D} {H : List Obj}, Lt n a → ∃ y, callL pg 28 [.d a] H = some ⟨false, true, .d y, H, H.length⟩ ∧ Ali n y a ∧ Lt n y
  | 0, _, _, h => h.elim
  | n + 1, _, H, h => by
    obtain ⟨f, m, s, o, rfl, ho, hl, hi⟩ := h
    have ho1 := (ofOk ho).one
    have h1 := (ofOk ho).len
    obtain ⟨acc, hlp, hp, ha⟩ := clone_loop (H := H) (f := f) (m := m) (s := s) (n := n) (z2 := [.d (.i .i64 0), .d (.i .i64 0), .d (.s []), .d .nil]) ho hi hl (fun a ha => clone_call (hi a ha)) _ 0 [] rfl (by omega) (by simpa using P2.nil) (fun y hy => by cases hy)
    have hlp' : blockC 0 [2, 3] (f_types_Clone_l0 pg (.box [.d (.i .i64 0), .d (.i .i64 0), .d (.s []), .d .nil]) (.box [.d (.i .i64 f), .d (.i .i64 m), .d (.s s), .d .nil]) (.d o) (.d (.i .i64 ((itemsD o).length : Nat))) (.d (.i .i64 0)) H H.length)
      = some (.nrm, ⟨[(2, .box [.d (.i .i64 0), .d (.i .i64 0), .d (.s []), .d .nil]), (3, .box [.d (.i .i64 f), .d (.i .i64 m), .d (.s s), slV e4 acc])], H, H.length⟩) := hlp
    have hone : (slD e4 acc).one = true := by cases acc <;> rfl
    refine ⟨.agg [.i .i64 f, .i .i64 m, .s s, slD e4 acc], ?_, ⟨f, m, s, _, _, rfl, rfl, by rw [items_slD]; exact hp⟩, ⟨f, m, s, _, rfl, slD_is, by rw [items_slD]; have := hp.len; omega, fun y hy => by
      rw [items_slD] at hy
      obtain ⟨q, hq, rfl⟩ := List.mem_map.1 hy
      exact ha q hq⟩⟩
    rw [callL_fn (fn := f_types_Clone) rfl rfl]
    simp only [f_types_Clone, f_types_Clone_R1, argEnv_cons, Nat.zero_add, argEnv_nil, exL_seq, exL_ops, runOps_n, evalK_box, rd_t, get_eq, readV_d, spent_t, cells_agg, List.map_cons, List.map_nil, ones_cons, vone_d, one_i, one_s, ho1, ones_nil, Bool.and_self, boxN_t, opC_ok, put_box, killLp_cons, killV_d, killLp_nil, evalK_allocL, killV_box, runOps_nil, thenC_nrm, evalK_load, Nat.reduceEqDiff, get_ne, readV_box, loadV_lp, List.length_cons, List.length_nil, Nat.reduceAdd, Nat.reduceLeDiff, boxV_A, List.drop_zero, List.take_succ_cons, List.take_zero, copy1_d, mkAgg_eq, allD_d, allD_nil, consD_some, aggV_some, okS_some, put_d, evalK_store, storeV_lp, storeB_box, setCells_all, storeR_some, put_none, evalK_fieldAddr, faV_lp, put_lp, rd_c, readV_lp, spent_c, one_nil, cells_d1, Nat.reduceLT, setCells_1, List.set_cons_succ, List.set_cons_zero, boxV_1, List.getElem?_cons_succ, List.getElem?_cons_zero, Option.map_some, evalK_lenL, h1, evalK_mov, exL_block, f_types_Clone_l0_in, keepV_box, keepV_d, hlp', copy1_slV, hone, exL_ret, finC_ret, resultVs_cons, resultV_cell, resC_box, resultVs_nil, consO_some, leaveC_1, leaves_d, ref_d, settle_d, leave_pure]
    all_goals rfl
end W

set_option linter.unusedSimpArgs false
set_option linter.unusedVariables false
namespace W
open Go (IntKind BinOp UnOp)
set_option maxRecDepth 20000
theorem P2.mem_l {α β : Type} {R : α → β → Prop} {l : List α} {r : List β} (h : P2 R l r) : ∀ {a : α}, a ∈ l → ∃ b ∈ r, R a b := by
  induction h with
  | nil => intro a h; cases h
  | cons h _ ih =>
    intro a ha
    simp at ha
    rcases ha with rfl | ha
    · exact ⟨_, by simp, h⟩
    · obtain ⟨b, h1, h2⟩ := ih ha
      exact ⟨b, by simp [h1], h2⟩
theorem alike_loop {H : List Obj} {f m f' m' : Int} {s s' : List Nat} {o o' : D} {n : Nat} (ho : o = .nil ∨ ∃ l, o = .sl l) (ho' : o' = .nil ∨ ∃ l, o' = .sl l) (hl : ∀ y ∈ itemsD o, Lt n y) (hr : ∀ y ∈ itemsD o', Lt n y) (hlim : (itemsD o).length ≤ 5)
    (hp : P2 (Ali n) (itemsD o) (itemsD o')) (hg : ∀ a b, a ∈ itemsD o → b ∈ itemsD o' → Ali n a b → callL pg 30 [.d a, .d b] H = some ⟨false, true, .d (.b true), H, H.length⟩) : ∀ (k i : Nat), (itemsD o).length - i = k → i ≤ (itemsD o).length →
    blockC 0 [] (f_waferref11_Alike_l0 pg (.box [.d (.i .i64 f), .d (.i .i64 m), .d (.s s), .d o]) (.box [.d (.i .i64 f'), .d (.i .i64 m'), .d (.s s'), .d o']) (.d (.i .i64 (i : Nat))) H H.length) = some (.nrm, ⟨[], H, H.length⟩)
  | 0, i, hn, hi => by
    have hlt : ((i : Int) < ((itemsD o).length : Int)) = False := by rw [eq_iff_iff]; simp; omega
    have h1 := (ofOk ho).len
    rw [f_waferref11_Alike_l0_eq]
    simp only [f_waferref11_Alike_B0, keepV_box, keepV_d, exL_seq, exL_ops, runOps_n, evalK_mov, rd_t, Nat.reduceEqDiff, get_ne, get_eq, readV_d, spent_t, opC_ok, put_d, evalK_fieldAddr, readV_box, faV_lp, Nat.zero_add, okS_some, put_lp, evalK_load, readV_lp, loadV_lp, boxV_1, List.getElem?_cons_succ, List.getElem?_cons_zero, Option.map_some, copy1_d, evalK_lenL, h1, evalK_bin, isC_t, Bool.or_self, bin_lss, hlt, decide_false, runOps_nil, thenC_nrm, exL_cond, condC_b, Bool.false_eq_true, ↓reduceIte, exL_exit, thenC_exit, blockC_exit, restrict_nil]
  | k + 1, i, hn, hi => by
    have hlt : ((i : Int) < ((itemsD o).length : Int)) = True := by rw [eq_iff_iff]; simp; omega
    have h1 := (ofOk ho).len
    have hlen := hp.len
    obtain ⟨a, ha⟩ : ∃ a, (itemsD o)[i]? = some a := ⟨(itemsD o)[i]'(by omega), by simp⟩
    obtain ⟨b, hb⟩ : ∃ b, (itemsD o')[i]? = some b := ⟨(itemsD o')[i]'(by omega), by simp⟩
    have ha' := List.mem_of_getElem? ha
    have hb' := List.mem_of_getElem? hb
    have hx := of_ix ha (hl a ha').ok.cells (k := .i64)
    have hx2 := of_ix hb (hr b hb').ok.cells (k := .i64)
    have hc := hg a b ha' hb' (hp.get ha hb)
    obtain ⟨na, hta⟩ : ∃ n, TyOk (n + 1) a := ⟨n, (hl a ha').ok.up⟩
    obtain ⟨nb, htb⟩ : ∃ n, TyOk (n + 1) b := ⟨n, (hr b hb').ok.up⟩
    obtain ⟨fa, ma, sa, oa, rfl, hoa, _, _⟩ := hta
    obtain ⟨fb, mb, sb, ob, rfl, hob, _, _⟩ := htb
    have ho1 := (ofOk hoa).one
    have ho2 := (ofOk hob).one
    have hw : wr .i64 ((i : Int) + 1) = ((i + 1 : Nat) : Int) := by rw [wr_i64 (by omega) (by omega)]; omega
    have ih := alike_loop (f := f) (m := m) (s := s) (f' := f') (m' := m') (s' := s') ho ho' hl hr hlim hp hg k (i + 1) (by omega) (by omega)
    rw [f_waferref11_Alike_l0_eq]
    simp only [f_waferref11_Alike_B0, keepV_box, keepV_d, exL_seq, exL_ops, runOps_n, evalK_mov, rd_t, Nat.reduceEqDiff, get_ne, get_eq, readV_d, spent_t, opC_ok, put_d, evalK_fieldAddr, readV_box, faV_lp, Nat.zero_add, okS_some, put_lp, evalK_load, readV_lp, loadV_lp, boxV_1, List.getElem?_cons_succ, List.getElem?_cons_zero, Option.map_some, copy1_d, evalK_lenL, h1, evalK_bin, isC_t, Bool.or_self, bin_lss, hlt, decide_true, runOps_nil, thenC_nrm, exL_cond, condC_b, ↓reduceIte, exL_skip, exL_block, exL_opsD, runOpsD_n, opDC_same, putD_lp, hasNat_nil, lpD_f, putC_some, putD_d, evalK_indexAddr, hx, putD_cp, readV_cp, List.length_cons, List.length_nil, Nat.reduceAdd, loadV_cp_agg, hx2, evalK_call, List.map_cons, List.map_nil, allLeave_cons, leaves_d, allLeave_nil, Bool.and_self, eCall_f, hc, callC_some, spentAll_cons, spentAll_nil, Nat.min_self, opDC_serial, evalK_un, un_not, Bool.not_true, runOpsD_nil, Bool.false_eq_true, blockC_nrm, restrict_cons, restrict_nil, isC_c, Bool.or_true, rd_c, bin_add, hw, f_waferref11_Alike_l0_in]
    exact ih
theorem alike_call : ∀ {n : Nat} {a b : D} {H : List Obj}, Lt n a → Lt n b → Ali n a b → callL pg 30 [.d a, .d b] H = some ⟨false, true, .d (.b true), H, H.length⟩
  | 0, _, _, _, h, _, _ => h.elim
  | n + 1, _, _, H, h, h', hA => by
    obtain ⟨f, m, s, o, rfl, ho, hl, hi⟩ := h
    obtain ⟨f', m', s', o', rfl, ho', hl', hi'⟩ := h'
    obtain ⟨_, _, _, _, _, e1, e2, hp⟩ := hA
    cases e1; cases e2
    have ho1 := (ofOk ho).one
    have ho2 := (ofOk ho').one
    have h1 := (ofOk ho).len
    have h2 := (ofOk ho').len
    have hlen : ((itemsD o).length : Int) = ((itemsD o').length : Nat) := by have := hp.len; omega
    rw [← hlen] at h2
    have hlp := alike_loop (H := H) (f := f) (m := m) (s := s) (f' := f) (m' := m) (s' := s) ho ho' hi hi' hl hp (fun a b ha hb hab => alike_call (hi a ha) (hi' b hb) hab) _ 0 rfl (by omega)
    rw [show ((0 : Nat) : Int) = 0 from rfl] at hlp
    rw [callL_fn (fn := f_waferref11_Alike) rfl rfl]
    simp only [f_waferref11_Alike, f_waferref11_Alike_R1, argEnv_cons, Nat.zero_add, Nat.reduceAdd, argEnv_nil, exL_seq, exL_ops, runOps_n, evalK_box, rd_t, get_eq, readV_d, spent_t, cells_agg, List.map_cons, List.map_nil, ones_cons, vone_d, one_i, one_s, ho1, ones_nil, Bool.and_self, boxN_t, opC_ok, put_box, killLp_cons, killV_d, killLp_nil, Nat.reduceEqDiff, get_ne, reduceCtorEq, ho2, killV_box, evalK_mov, rd_c, spent_c, put_d, runOps_nil, thenC_nrm, evalK_fieldAddr, readV_box, faV_lp, Nat.add_zero, okS_some, put_lp, evalK_load, readV_lp, loadV_lp, boxV_1, List.getElem?_cons_zero, Option.map_some, copy1_d, evalK_bin, isC_t, Bool.or_self, bin_neq, decide_true, Bool.not_true, runOps_g, wantG_bf, Bool.not_false, wantC_b, ↓reduceIte, List.getElem?_cons_succ, evalK_pick, pickV_b, Bool.false_eq_true, bin_sneq, evalK_lenL, h1, h2, exL_cond, condC_b, exL_skip, exL_block, f_waferref11_Alike_l0_in, keepV_box, keepV_d, hlp, exL_ret, finC_ret, resultVs_cons, resultV_t, ownV_d, resultVs_nil, consO_some, leaveC_1, leaves_d, ref_d, settle_d, leave_pure]
def Fd (n : Nat) (y : D) : Prop := ∃ nm ex f m s o, y = .agg [.s nm, .b ex, .i .i64 f, .i .i64 m, .s s, o] ∧ Lt n (.agg [.i .i64 f, .i .i64 m, .s s, o])
def FdA (n : Nat) (x y : D) : Prop := ∃ nm ex f m s o f' m' s' o', x = .agg [.s nm, .b ex, .i .i64 f, .i .i64 m, .s s, o] ∧ y = .agg [.s nm, .b ex, .i .i64 f', .i .i64 m', .s s', o'] ∧ Ali n (.agg [.i .i64 f, .i .i64 m, .s s, o]) (.agg [.i .i64 f', .i .i64 m', .s s', o'])
theorem Lt.one {n : Nat} {f m : Int} {s : List Nat} {o : D} (h : Lt n (.agg [.i .i64 f, .i .i64 m, .s s, o])) : o.one = true := by
  cases n with
  | zero => exact h.elim
  | succ n =>
    obtain ⟨_, _, _, _, e, ho, _⟩ := h
    cases e
    exact (ofOk ho).one
theorem Fd.cells {n : Nat} {y : D} (h : Fd n y) : y.cells.length = 6 := by obtain ⟨nm, ex, f, m, s, o, rfl, _⟩ := h; rfl
theorem vars_loop {H : List Obj} {L M : List D6} {n : Nat} (hl : ∀ y ∈ L, Fd n y.1) (hr : ∀ y ∈ M, Fd n y.1) (hlim : L.length ≤ 1000) (hp : P2 (FdA n) (L.map e6) (M.map e6)) : ∀ (k i : Nat), L.length - i = k → i ≤ L.length →
    blockC 0 [] (f_waferhelp_Vars_l0 pg (.d (slD e6 L)) (.d (slD e6 M)) (.d (.i .i64 (i : Nat))) H H.length) = some (.nrm, ⟨[], H, H.length⟩)
  | 0, i, hn, hi => by
    have hlt : ((i : Int) < (L.length : Int)) = False := by rw [eq_iff_iff]; simp; omega
    have h1 : ∀ H, lenV .lenL (.d (slD e6 L)) H = some (.d (.i .i64 (L.length : Nat))) := fun H => by have := (ofOk (slD_is (e := e6) (L := L))).len H; rw [items_slD, List.length_map] at this; exact this
    rw [f_waferhelp_Vars_l0_eq]
    simp only [f_waferhelp_Vars_B0, keepV_d, exL_seq, exL_ops, runOps_n, evalK_mov, rd_t, reduceCtorEq, get_ne, Nat.reduceEqDiff, get_eq, readV_d, spent_t, opC_ok, put_d, evalK_lenL, h1, okS_some, evalK_bin, isC_t, Bool.or_self, bin_lss, hlt, decide_false, runOps_nil, thenC_nrm, exL_cond, condC_b, Bool.false_eq_true, ↓reduceIte, exL_exit, thenC_exit, blockC_exit, restrict_nil]
  | k + 1, i, hn, hi => by
    have hlt : ((i : Int) < (L.length : Int)) = True := by rw [eq_iff_iff]; simp; omega
    have h1 : ∀ H, lenV .lenL (.d (slD e6 L)) H = some (.d (.i .i64 (L.length : Nat))) := fun H => by have := (ofOk (slD_is (e := e6) (L := L))).len H; rw [items_slD, List.length_map] at this; exact this
    have hlen := hp.len
    simp at hlen
    obtain ⟨a, ha⟩ : ∃ a, L[i]? = some a := ⟨L[i]'(by omega), by simp⟩
    obtain ⟨b, hb⟩ : ∃ b, M[i]? = some b := ⟨M[i]'(by omega), by simp⟩
    have ha2 : (itemsD (slD e6 L))[i]? = some a.1 := by rw [items_slD]; simp [ha, e6]
    have hb2 : (itemsD (slD e6 M))[i]? = some b.1 := by rw [items_slD]; simp [hb, e6]
    have hA := hp.get (i := i) (a := a.1) (b := b.1) (by simp [ha, e6]) (by simp [hb, e6])
    have hfa := hl a (List.mem_of_getElem? ha)
    have hfb := hr b (List.mem_of_getElem? hb)
    have hx := of_ix' ha2 a.2 (k := .i64)
    have hx2 := of_ix' hb2 b.2 (k := .i64)
    obtain ⟨nm, ex, f, m, s, o, f', m', s', o', e1, e2, hA⟩ := hA
    obtain ⟨_, _, _, _, _, _, q1, la⟩ := hfa
    obtain ⟨_, _, _, _, _, _, q2, lb⟩ := hfb
    rw [e1] at q1 hx; cases q1
    rw [e2] at q2 hx2; cases q2
    have ho1 := la.one
    have ho2 := lb.one
    have hc := alike_call (H := H) la lb hA
    have hw : wr .i64 ((i : Int) + 1) = ((i + 1 : Nat) : Int) := by rw [wr_i64 (by omega) (by omega)]; omega
    have hee : (ex == ex) = true := by simp
    have ih := vars_loop (H := H) hl hr hlim hp k (i + 1) (by omega) (by omega)
    rw [f_waferhelp_Vars_l0_eq]
    simp only [f_waferhelp_Vars_B0, keepV_d, exL_seq, exL_ops, runOps_n, evalK_mov, rd_t, reduceCtorEq, get_ne, Nat.reduceEqDiff, get_eq, readV_d, spent_t, opC_ok, put_d, evalK_lenL, h1, okS_some, evalK_bin, isC_t, Bool.or_self, bin_lss, hlt, decide_true, runOps_nil, thenC_nrm, exL_cond, condC_b, ↓reduceIte, exL_skip, exL_block, exL_opsD, runOpsD_n, opDC_same, putD_d, putC_some, evalK_indexAddr, hx, putD_cp, evalK_fieldAddr, readV_cp, faV_cpc, List.getElem?_cons_zero, cpV_s, evalK_load, loadV_cp_s, hx2, bin_sneq, Bool.not_true, opDC_serial, runOpsD_g, wantG_bf, Bool.not_false, wantDC_b, List.getElem?_cons_succ, cpV_b, loadV_cp_b, bin_bneq, hee, evalK_pick, rd_c, pickV_b, Bool.false_eq_true, Nat.reduceAdd, List.length_cons, List.length_nil, Nat.zero_add, Nat.reduceLeDiff, faV_cpA, List.drop_succ_cons, List.drop_zero, List.take_succ_cons, List.take_zero, loadV_cp_agg, evalK_call, List.map_cons, List.map_nil, allLeave_cons, leaves_d, allLeave_nil, Bool.and_self, eCall_f, hc, callC_some, spentAll_cons, spentAll_nil, Nat.min_self, evalK_un, un_not, Option.map_some, runOpsD_nil, blockC_nrm, restrict_cons, restrict_nil, isC_c, Bool.or_true, bin_add, hw, f_waferhelp_Vars_l0_in]
    exact ih
theorem vars_call {H : List Obj} {L M : List D6} {n : Nat} (hl : ∀ y ∈ L, Fd n y.1) (hr : ∀ y ∈ M, Fd n y.1) (hlim : L.length ≤ 1000) (hp : P2 (FdA n) (L.map e6) (M.map e6)) :
    callL pg 12 [.d (slD e6 L), .d (slD e6 M)] H = some ⟨false, true, .d (.b true), H, H.length⟩ := by
  have h1 : ∀ H, lenV .lenL (.d (slD e6 L)) H = some (.d (.i .i64 (L.length : Nat))) := fun H => by have := (ofOk (slD_is (e := e6) (L := L))).len H; rw [items_slD, List.length_map] at this; exact this
  have hlen := hp.len
  simp at hlen
  have h2 : ∀ H, lenV .lenL (.d (slD e6 M)) H = some (.d (.i .i64 (L.length : Nat))) := fun H => by have := (ofOk (slD_is (e := e6) (L := M))).len H; rw [items_slD, List.length_map, ← hlen] at this; exact this
  have hlp := vars_loop (H := H) hl hr hlim hp _ 0 rfl (by omega)
  rw [show ((0 : Nat) : Int) = 0 from rfl] at hlp
  rw [callL_fn (fn := f_waferhelp_Vars) rfl rfl]
  simp only [f_waferhelp_Vars, f_waferhelp_Vars_R1, argEnv_cons, Nat.zero_add, Nat.reduceAdd, argEnv_nil, exL_seq, exL_ops, runOps_n, evalK_mov, rd_c, spent_c, opC_ok, put_d, runOps_nil, thenC_nrm, rd_t, reduceCtorEq, get_ne, get_eq, readV_d, spent_t, evalK_lenL, h1, okS_some, Nat.reduceEqDiff, h2, evalK_bin, isC_t, Bool.or_self, bin_neq, decide_true, Bool.not_true, exL_cond, condC_b, Bool.false_eq_true, ↓reduceIte, exL_skip, exL_block, f_waferhelp_Vars_l0_in, keepV_d, hlp, exL_ret, finC_ret, resultVs_cons, resultV_t, ownV_d, resultVs_nil, consO_some, leaveC_1, leaves_d, ref_d, settle_d, leave_pure]
end W

set_option linter.unusedSimpArgs false
set_option linter.unusedVariables false
namespace W
open Go (IntKind BinOp UnOp)
set_option maxRecDepth 20000
def FsOk (n : Nat) (fs : D) : Prop := ∃ L : List D6, fs = slD e6 L ∧ L.length ≤ 5 ∧ ∀ y ∈ L, Fd n y.1
def RiLt (n : Nat) (x : D) : Prop := ∃ b fs f m s o, x = .agg [.i .u8 b, fs, .i .i64 f, .i .i64 m, .s s, o] ∧ 0 ≤ b ∧ b < 256 ∧ (fs = .nil ∨ ∃ l, fs = .sl l) ∧ ((itemsD fs).length : Int) ≤ 9223372036854775807 ∧
  (∀ y ∈ itemsD fs, ∃ c, y = .i .u8 c ∧ 0 ≤ c ∧ c < 256) ∧ Lt n (.agg [.i .i64 f, .i .i64 m, .s s, o])
theorem RiLt.cells {n : Nat} {x : D} (h : RiLt n x) : x.cells.length = 6 := by obtain ⟨b, fs, f, m, s, o, rfl, _⟩ := h; rfl
theorem keySet_esP {P : D → Prop} (r : RecE) : ∀ R : List RecE, (∀ x ∈ R, P x.fs) → P r.fs → ∃ R', keySet (.s r.k) (.d (recD r)) (esR R) = some (esR R') ∧ R'.length ≤ R.length + 1 ∧ ∀ x ∈ R', P x.fs
  | [], _, h => ⟨[r], rfl, by simp, fun x hx => by simp at hx; subst hx; exact h⟩
  | x :: R, hR, h => by
    by_cases he : r.k = x.k
    · refine ⟨{ r with k := x.k } :: R, ?_, by simp, fun y hy => ?_⟩
      · simp only [esR, List.map_cons, keySet, same_s, he, decide_true]
        rfl
      · simp at hy
        rcases hy with rfl | hy
        · exact h
        · exact hR y (by simp [hy])
    · obtain ⟨R', h1, h2, h3⟩ := keySet_esP r R (fun y hy => hR y (by simp [hy])) h
      refine ⟨x :: R', ?_, by simp; omega, fun y hy => ?_⟩
      · simp only [esR, List.map_cons, keySet, same_s, he, decide_false] at h1 ⊢
        rw [h1]
      · simp at hy
        rcases hy with rfl | hy
        · exact hR _ (by simp)
        · exact h3 y hy
theorem madeL_loop0 {H : List Obj} {l x : D} {i n mid : Nat} (hi : (itemsD l)[i]? = some x) (hx : RiLt n x) {base : List Nat} {lo : Nat} (hlo : lo ≤ H.length) : ∀ (k j : Nat) (acc : List D6), 5 - j = k → j ≤ 5 → acc.length = j → (∀ y ∈ acc, Fd (n + 2) y.1) →
    ∃ acc' : List D6, (acc'.length ≤ 5 ∧ ∀ y ∈ acc', Fd (n + 2) y.1) ∧ blockC 2 [0, 3, 4, 5] (f_waferlaw12_made_l0 pg (.d l) (.map mid) (.d (.i .i64 (i : Nat))) (.box [.d (.s [82]), .d (.b false), .d (.s base), slV e6 acc]) (.d (.i .i64 (j : Nat))) H lo)
      = some (.nrm, ⟨[(0, .d l), (3, .map mid), (4, .d (.i .i64 (i : Nat))), (5, .box [.d (.s [82]), .d (.b false), .d (.s base), slV e6 acc'])], H, lo⟩) := by
  have hmin : min lo H.length = lo := Nat.min_eq_left hlo
  intro k
  induction k with
  | zero =>
    intro j acc hk hj ha hq
    have hix := of_ix' hi hx.cells (k := .i64)
    obtain ⟨b, fs, f, m, s, o, rfl, hb0, hb1, hfs, hfl, hfi, ht⟩ := hx
    have h1 := (ofOk hfs).len
    have h2 := (ofOk hfs).load
    have h3 := (ofOk hfs).one
    have hcp : cpV (some fs) = some (.cp fs) := by simp [cpV, h3]
    refine ⟨acc, ⟨by omega, hq⟩, ?_⟩
    rw [f_waferlaw12_made_l0_eq]
    have h5 : ((j : Int) < 5) = False := eq_false (by omega)
    by_cases hlt : (j : Int) < ((itemsD fs).length : Nat)
    · simp only [f_waferlaw12_made_B0, keepV_d, keepV_map, keepV_box, exL_seq, exL_ops, runOps_n, evalK_mov, rd_t, reduceCtorEq, get_ne, Nat.reduceEqDiff, get_eq, readV_d, spent_t, opC_ok, put_d, evalK_indexAddr, hix, okS_some, put_cp, evalK_fieldAddr, readV_cp, faV_cpc, List.getElem?_cons_succ, List.getElem?_cons_zero, hcp, evalK_load, h2, evalK_lenL, h1, evalK_bin, isC_t, Bool.or_self, bin_lss, eq_true hlt, decide_true, runOps_g, wantG_bt, wantC_b, ↓reduceIte, isC_c, Bool.or_true, rd_c, h5, decide_false, evalK_pick, pickV_b, runOps_nil, thenC_nrm, exL_cond, condC_b, Bool.false_eq_true, exL_exit, thenC_exit, blockC_exit, restrict_cons, restrict_nil]
    · simp only [f_waferlaw12_made_B0, keepV_d, keepV_map, keepV_box, exL_seq, exL_ops, runOps_n, evalK_mov, rd_t, reduceCtorEq, get_ne, Nat.reduceEqDiff, get_eq, readV_d, spent_t, opC_ok, put_d, evalK_indexAddr, hix, okS_some, put_cp, evalK_fieldAddr, readV_cp, faV_cpc, List.getElem?_cons_succ, List.getElem?_cons_zero, hcp, evalK_load, h2, evalK_lenL, h1, evalK_bin, isC_t, Bool.or_self, bin_lss, eq_false hlt, decide_false, runOps_g, wantG_bt, wantC_b, Bool.false_eq_true, ↓reduceIte, put_tup, evalK_pick, readV_tup, rd_c, pickV_f, runOps_nil, thenC_nrm, exL_cond, condC_b, exL_exit, thenC_exit, blockC_exit, restrict_cons, restrict_nil]
  | succ k ih =>
    intro j acc hk hj ha hq
    have hix := of_ix' hi hx.cells (k := .i64)
    obtain ⟨b, fs, f, m, s, o, rfl, hb0, hb1, hfs, hfl, hfi, ht⟩ := hx
    have h1 := (ofOk hfs).len
    have h2 := (ofOk hfs).load
    have h3 := (ofOk hfs).one
    have hcp : cpV (some fs) = some (.cp fs) := by simp [cpV, h3]
    have h5 : ((j : Int) < 5) = True := eq_true (by omega)
    by_cases hlt : (j : Int) < ((itemsD fs).length : Nat)
    · obtain ⟨c, hc⟩ : ∃ c, (itemsD fs)[j]? = some c := ⟨(itemsD fs)[j]'(by omega), by simp⟩
      obtain ⟨c, rfl, hc0, hc1⟩ := hfi _ (List.mem_of_getElem? hc)
      have hcx := of_ix' hc (z := 1) rfl (k := .i64)
      obtain ⟨y, hy, hyo⟩ := typeOf_call2 hc0 hc1 ht (H := H)
      have hyo' := hyo
      obtain ⟨f', m', s', o', rfl, ho', _, _⟩ := hyo
      have ho1 := (ofOk ho').one
      have hoo : o.one = true := ht.one
      have hw : wr .i64 ((j : Int) + 1) = ((j + 1 : Nat) : Int) := by rw [wr_i64 (by omega) (by omega)]; omega
      have hw1 : wr .u8 (j : Int) = (j : Int) := wr_u8 (by omega) (by omega)
      have hw2 : wr .u8 (97 + (j : Int)) = ((97 + j : Nat) : Int) := by rw [wr_u8 (by omega) (by omega)]; omega
      have htx := fun H => text1 (c := ((97 + j : Nat) : Int)) (by omega) (by omega) (H := H)
      simp only [Int.toNat_natCast] at htx
      have hs1 : ∀ c, binV .add .num c (.d (.s [102])) (.d (.s [97 + j])) = some (.d (.s [102, 97 + j])) := fun c => sadd (by simp)
      have happ : appendV 6 80 (slV e6 acc) (.d (.sl [.agg [.s [102, 97 + j], .b false, .i .i64 f', .i .i64 m', .s s', o']])) = some (slV e6 (acc ++ [⟨.agg [.s [102, 97 + j], .b false, .i .i64 f', .i .i64 m', .s s', o'], rfl⟩])) :=
        app_slV1 (e := e6) (x := ⟨.agg [.s [102, 97 + j], .b false, .i .i64 f', .i .i64 m', .s s', o'], rfl⟩) e6_cells (roomy_of (by omega) (by omega))
      obtain ⟨acc', iq, ih'⟩ := ih (j + 1) (acc ++ [⟨.agg [.s [102, 97 + j], .b false, .i .i64 f', .i .i64 m', .s s', o'], rfl⟩]) (by omega) (by omega) (by simp; omega) (fun y hy => by
        simp at hy
        rcases hy with hy | rfl
        · exact hq y hy
        · exact ⟨_, _, _, _, _, _, rfl, hyo'⟩)
      refine ⟨acc', iq, ?_⟩
      rw [f_waferlaw12_made_l0_eq]
      simp only [f_waferlaw12_made_B0, keepV_d, keepV_map, keepV_box, exL_seq, exL_ops, runOps_n, evalK_mov, rd_t, reduceCtorEq, get_ne, Nat.reduceEqDiff, get_eq, readV_d, spent_t, opC_ok, put_d, evalK_indexAddr, hix, okS_some, put_cp, evalK_fieldAddr, readV_cp, faV_cpc, List.getElem?_cons_succ, List.getElem?_cons_zero, hcp, evalK_load, h2, evalK_lenL, h1, evalK_bin, isC_t, Bool.or_self, bin_lss, eq_true hlt, decide_true, runOps_g, wantG_bt, wantC_b, ↓reduceIte, isC_c, Bool.or_true, rd_c, h5, evalK_pick, pickV_b, runOps_nil, thenC_nrm, exL_cond, condC_b, exL_skip, exL_block, exL_opsD, runOpsD_n, readV_box, faV_lp, Nat.zero_add, opDC_same, putD_lp, hasNat_nil, lpD_f, putC_some, evalK_loadMvL, readV_lp, mvA_lp, mvL_box, mvB_some, List.set_cons_succ, List.set_cons_zero, boxK_load, putD_slV, putD_d, evalK_conv, hw1, Bool.or_false, bin_add, hw2, evalK_buildSlice, dcells_i, List.length_cons, List.length_nil, List.reduceReplicate, List.map_cons, List.map_nil, Nat.reduceLT, fillD_cons, fillD_nil, wfs_cons, one_i, wf_one, wfs_nil, Bool.and_self, slO_some, putD_osl, evalK_text, readV_osl, htx, hs1, putD_cp, hcx, loadV_cp_i, Nat.reduceAdd, Nat.reduceLeDiff, faV_cpA, List.drop_succ_cons, List.drop_zero, List.take_succ_cons, List.take_zero, loadV_cp_agg, evalK_call, allLeave_cons, leaves_d, allLeave_nil, eCall_f, hy, callC_some, spentAll_cons, spentAll_nil, hmin, evalK_build, one_s, cells_d1, vone_d, fillC_1, dones_cons, ho1, dones_nil, fillC_A, List.cons_append, List.nil_append, List.append_nil, fillC_nil, aggO_some, mkAgg_eq, allD_d, allD_nil, consD_some, aggV_some, dcells_agg, wf_agg, one_b, evalK_append, rd_mv, takeV_slV, happ, spent_mv, appO_some, opDC_serial, evalK_store, storeV_lp, cells_slV, ones_cons, vone_slV, ones_nil, storeB_box, setCells_1, storeR_some, putD_none, runOpsD_nil, blockC_nrm, restrict_cons, restrict_nil, hw, f_waferlaw12_made_l0_in]
      exact ih'
    · refine ⟨acc, ⟨by omega, hq⟩, ?_⟩
      rw [f_waferlaw12_made_l0_eq]
      simp only [f_waferlaw12_made_B0, keepV_d, keepV_map, keepV_box, exL_seq, exL_ops, runOps_n, evalK_mov, rd_t, reduceCtorEq, get_ne, Nat.reduceEqDiff, get_eq, readV_d, spent_t, opC_ok, put_d, evalK_indexAddr, hix, okS_some, put_cp, evalK_fieldAddr, readV_cp, faV_cpc, List.getElem?_cons_succ, List.getElem?_cons_zero, hcp, evalK_load, h2, evalK_lenL, h1, evalK_bin, isC_t, Bool.or_self, bin_lss, eq_false hlt, decide_false, runOps_g, wantG_bt, wantC_b, Bool.false_eq_true, ↓reduceIte, put_tup, evalK_pick, readV_tup, rd_c, pickV_f, runOps_nil, thenC_nrm, exL_cond, condC_b, exL_exit, thenC_exit, blockC_exit, restrict_cons, restrict_nil]
theorem madeL_loop {H : List Obj} {l : D} {n : Nat} (hl : ∀ y ∈ itemsD l, RiLt n y) (hlo : l = .nil ∨ ∃ q, l = .sl q) : ∀ (k i : Nat) (R : List RecE), 6 - i = k → i ≤ 6 → R.length ≤ i → (∀ r ∈ R, FsOk (n + 2) r.fs) →
    ∃ R' : List RecE, R'.length ≤ 6 ∧ (∀ r ∈ R', FsOk (n + 2) r.fs) ∧ blockC 0 [3] (f_waferlaw12_made_l3 pg (.d l) (.map H.length) (.d (.i .i64 (i : Nat))) (H ++ [.map (esR R)]) H.length)
      = some (.nrm, ⟨[(3, .map H.length)], H ++ [.map (esR R')], H.length⟩) := by
  have h1 := (ofOk hlo).len
  intro k
  induction k with
  | zero =>
    intro i R hk hi hR hf
    have h6 : ((i : Int) < 6) = False := eq_false (by omega)
    refine ⟨R, by omega, hf, ?_⟩
    rw [f_waferlaw12_made_l3_eq]
    by_cases hlt : (i : Int) < ((itemsD l).length : Nat)
    · simp only [f_waferlaw12_made_B3, keepV_d, keepV_map, exL_seq, exL_ops, runOps_n, evalK_mov, rd_t, reduceCtorEq, get_ne, Nat.reduceEqDiff, get_eq, readV_d, spent_t, opC_ok, put_d, evalK_lenL, h1, okS_some, evalK_bin, isC_t, Bool.or_self, bin_lss, eq_true hlt, decide_true, runOps_g, wantG_bt, wantC_b, ↓reduceIte, isC_c, Bool.or_true, rd_c, h6, decide_false, evalK_pick, pickV_b, runOps_nil, thenC_nrm, exL_cond, condC_b, Bool.false_eq_true, exL_exit, thenC_exit, blockC_exit, restrict_cons, restrict_nil]
    · simp only [f_waferlaw12_made_B3, keepV_d, keepV_map, exL_seq, exL_ops, runOps_n, evalK_mov, rd_t, reduceCtorEq, get_ne, Nat.reduceEqDiff, get_eq, readV_d, spent_t, opC_ok, put_d, evalK_lenL, h1, okS_some, evalK_bin, isC_t, Bool.or_self, bin_lss, eq_false hlt, decide_false, runOps_g, wantG_bt, wantC_b, Bool.false_eq_true, ↓reduceIte, put_tup, evalK_pick, readV_tup, rd_c, pickV_f, runOps_nil, thenC_nrm, exL_cond, condC_b, exL_exit, thenC_exit, blockC_exit, restrict_cons, restrict_nil]
  | succ k ih =>
    intro i R hk hi hR hf
    have h6 : ((i : Int) < 6) = True := eq_true (by omega)
    by_cases hlt : (i : Int) < ((itemsD l).length : Nat)
    · obtain ⟨x, hx⟩ : ∃ c, (itemsD l)[i]? = some c := ⟨(itemsD l)[i]'(by omega), by simp⟩
      have hxo := hl _ (List.mem_of_getElem? hx)
      have hix := of_ix' hx hxo.cells (k := .i64)
      obtain ⟨b, fs, f, m, s, o, rfl, hb0, hb1, hfs, hfl, hfi, ht⟩ := hxo
      have h3 := (ofOk hfs).one
      have hw : wr .i64 ((i : Int) + 1) = ((i + 1 : Nat) : Int) := by rw [wr_i64 (by omega) (by omega)]; omega
      have hw1 : wr .u8 (i : Int) = (i : Int) := wr_u8 (by omega) (by omega)
      have hw2 : wr .u8 (48 + (i : Int)) = ((48 + i : Nat) : Int) := by rw [wr_u8 (by omega) (by omega)]; omega
      have htx := fun H => text1 (c := ((48 + i : Nat) : Int)) (by omega) (by omega) (H := H)
      simp only [Int.toNat_natCast] at htx
      have hs1 : ∀ c, binV .add .num c (.d (.s [77, 46, 82])) (.d (.s [48 + i])) = some (.d (.s [77, 46, 82, 48 + i])) := fun c => sadd (by simp)
      have e3 := Int.tmod_eq_emod_of_nonneg (b := 9) hb0
      have hm9 : wr .i64 (b.tmod 9) = b.tmod 9 := wr_i64 (by omega) (by omega)
      have hm8 : b.tmod 9 < 7 → wr .u8 (b.tmod 9) = b.tmod 9 := fun h => wr_u8 (by omega) (by omega)
      have hb8 : b.tmod 9 < 7 → wr .u8 (48 + b.tmod 9) = 48 + b.tmod 9 := fun h => wr_u8 (by omega) (by omega)
      have fin : ∀ base : List Nat, ∃ R' : List RecE, R'.length ≤ 6 ∧ (∀ r ∈ R', FsOk (n + 2) r.fs) ∧ ∃ (acc' : List D6) (R1 : List RecE),
          blockC 2 [0, 3, 4, 5] (f_waferlaw12_made_l0 pg (.d l) (.map H.length) (.d (.i .i64 (i : Nat))) (.box [.d (.s [82]), .d (.b false), .d (.s base), .d .nil]) (.d (.i .i64 0)) (H ++ [.map (esR R)]) H.length)
            = some (.nrm, ⟨[(0, .d l), (3, .map H.length), (4, .d (.i .i64 (i : Nat))), (5, .box [.d (.s [82]), .d (.b false), .d (.s base), slV e6 acc'])], H ++ [.map (esR R)], H.length⟩)
          ∧ keySet (.s [77, 46, 82, 48 + i]) (.d (.agg [.s [82], .b false, .s base, slD e6 acc'])) (esR R) = some (esR R1) ∧
          blockC 0 [3] (f_waferlaw12_made_l3 pg (.d l) (.map H.length) (.d (.i .i64 ((i + 1 : Nat) : Int))) (H ++ [.map (esR R1)]) H.length) = some (.nrm, ⟨[(3, .map H.length)], H ++ [.map (esR R')], H.length⟩) := by
        intro base
        obtain ⟨acc', haq, ha⟩ := madeL_loop0 (H := H ++ [.map (esR R)]) (mid := H.length) hx ⟨b, fs, f, m, s, o, rfl, hb0, hb1, hfs, hfl, hfi, ht⟩ (base := base) (lo := H.length) (by simp) 5 0 [] rfl (by omega) rfl (fun y hy => by cases hy)
        obtain ⟨R1, k1, k2, k3⟩ := keySet_esP (P := FsOk (n + 2)) ⟨[77, 46, 82, 48 + i], [82], false, base, slD e6 acc'⟩ R hf ⟨acc', rfl, haq.1, haq.2⟩
        obtain ⟨R', r1, r2, r3⟩ := ih (i + 1) R1 (by omega) (by omega) (by omega) k3
        refine ⟨R', r1, r2, acc', R1, ?_, k1, r3⟩
        exact ha
      have hp := fun l => @push_get H l
      have hone : ∀ acc : List D6, (slD e6 acc).one = true := fun acc => by cases acc <;> rfl
      by_cases h7 : b.tmod 9 < 7
      · by_cases h60 : 60 < b
        · obtain ⟨R', r1, r2, acc', R1, a1, k1, r3⟩ := fin [77, 46, 82, (48 + b.tmod 9).toNat]
          have htx2 := fun H => text1 (c := 48 + b.tmod 9) (by omega) (by omega) (H := H)
          have hs2 : ∀ c, binV .add .num c (.d (.s [77, 46, 82])) (.d (.s [(48 + b.tmod 9).toNat])) = some (.d (.s [77, 46, 82, (48 + b.tmod 9).toNat])) := fun c => sadd (by simp)
          refine ⟨R', r1, r2, ?_⟩
          rw [f_waferlaw12_made_l3_eq]
          simp only [f_waferlaw12_made_B3, f_waferlaw12_made_R1, f_waferlaw12_made_R2, keepV_d, keepV_map, exL_seq, exL_ops, runOps_n, evalK_mov, rd_t, reduceCtorEq, get_ne, Nat.reduceEqDiff, get_eq, readV_d, spent_t, opC_ok, put_d, evalK_lenL, h1, okS_some, evalK_bin, isC_t, Bool.or_self, bin_lss, eq_true hlt, decide_true, runOps_g, wantG_bt, wantC_b, ↓reduceIte, isC_c, Bool.or_true, rd_c, h6, evalK_pick, pickV_b, runOps_nil, thenC_nrm, exL_cond, condC_b, exL_skip, exL_block, evalK_build, List.map_cons, List.map_nil, one_s, cells_d1, vone_d, List.length_cons, List.length_nil, Nat.zero_add, Nat.reduceAdd, Nat.reduceLT, fillC_1, List.set_cons_zero, fillC_nil, aggO_some, mkAgg_eq, allD_d, allD_nil, consD_some, aggV_some, evalK_allocL, put_box, killLp_cons, killV_d, killV_map, killLp_nil, evalK_store, readV_box, storeV_lp, cells_agg, ones_cons, one_b, one_nil, ones_nil, Bool.and_self, storeB_box, setCells_all, storeR_some, put_none, evalK_indexAddr, hix, put_cp, evalK_fieldAddr, readV_cp, faV_cpc, List.getElem?_cons_zero, cpV_i, evalK_load, loadV_cp_i, Int.reduceEq, bin_rem, evalK_conv, hm9, rd_mv, takeV_d, spent_mv, eq_true h7, bin_gtr, eq_true h60, hm8 h7, Bool.or_false, bin_add, hb8 h7, evalK_buildSlice, dcells_i, List.reduceReplicate, fillD_cons, fillD_nil, wfs_cons, one_i, wf_one, wfs_nil, slO_some, put_osl, evalK_text, readV_osl, htx2, hs2, faV_lp, put_lp, readV_lp, setCells_1, List.set_cons_succ, spent_c, f_waferlaw12_made_l0_in, keepV_box, a1, readV_map, put_map, hw1, hw2, htx, hs1, loadV_lp, Nat.reduceLeDiff, boxV_A, List.drop_zero, List.take_succ_cons, List.take_zero, copy1_d, copy1_slV, evalK_mapUpdate, ok_d, updV_sE, push_get, updE_map, k1, setO_some, setAt_push, Nat.min_self, blockC_nrm, restrict_cons, restrict_nil, hw, f_waferlaw12_made_l3_in]
          exact r3
        · obtain ⟨R', r1, r2, acc', R1, a1, k1, r3⟩ := fin []
          refine ⟨R', r1, r2, ?_⟩
          rw [f_waferlaw12_made_l3_eq]
          simp only [f_waferlaw12_made_B3, f_waferlaw12_made_R1, f_waferlaw12_made_R2, keepV_d, keepV_map, exL_seq, exL_ops, runOps_n, evalK_mov, rd_t, reduceCtorEq, get_ne, Nat.reduceEqDiff, get_eq, readV_d, spent_t, opC_ok, put_d, evalK_lenL, h1, okS_some, evalK_bin, isC_t, Bool.or_self, bin_lss, eq_true hlt, decide_true, runOps_g, wantG_bt, wantC_b, ↓reduceIte, isC_c, Bool.or_true, rd_c, h6, evalK_pick, pickV_b, runOps_nil, thenC_nrm, exL_cond, condC_b, exL_skip, exL_block, evalK_build, List.map_cons, List.map_nil, one_s, cells_d1, vone_d, List.length_cons, List.length_nil, Nat.zero_add, Nat.reduceAdd, Nat.reduceLT, fillC_1, List.set_cons_zero, fillC_nil, aggO_some, mkAgg_eq, allD_d, allD_nil, consD_some, aggV_some, evalK_allocL, put_box, killLp_cons, killV_d, killV_map, killLp_nil, evalK_store, readV_box, storeV_lp, cells_agg, ones_cons, one_b, one_nil, ones_nil, Bool.and_self, storeB_box, setCells_all, storeR_some, put_none, evalK_indexAddr, hix, put_cp, evalK_fieldAddr, readV_cp, faV_cpc, List.getElem?_cons_zero, cpV_i, evalK_load, loadV_cp_i, Int.reduceEq, bin_rem, evalK_conv, hm9, rd_mv, takeV_d, spent_mv, eq_true h7, bin_gtr, eq_false h60, decide_false, Bool.false_eq_true, spent_c, f_waferlaw12_made_l0_in, keepV_box, a1, readV_map, put_map, hw1, Bool.or_false, bin_add, hw2, evalK_buildSlice, dcells_i, List.reduceReplicate, fillD_cons, fillD_nil, wfs_cons, one_i, wf_one, wfs_nil, slO_some, put_osl, evalK_text, readV_osl, htx, hs1, loadV_lp, Nat.reduceLeDiff, boxV_A, List.drop_zero, List.take_succ_cons, List.take_zero, copy1_d, copy1_slV, evalK_mapUpdate, ok_d, updV_sE, push_get, updE_map, k1, setO_some, setAt_push, Nat.min_self, blockC_nrm, restrict_cons, restrict_nil, hw, f_waferlaw12_made_l3_in]
          exact r3
      · obtain ⟨R', r1, r2, acc', R1, a1, k1, r3⟩ := fin []
        refine ⟨R', r1, r2, ?_⟩
        rw [f_waferlaw12_made_l3_eq]
        simp only [f_waferlaw12_made_B3, f_waferlaw12_made_R1, f_waferlaw12_made_R2, keepV_d, keepV_map, exL_seq, exL_ops, runOps_n, evalK_mov, rd_t, reduceCtorEq, get_ne, Nat.reduceEqDiff, get_eq, readV_d, spent_t, opC_ok, put_d, evalK_lenL, h1, okS_some, evalK_bin, isC_t, Bool.or_self, bin_lss, eq_true hlt, decide_true, runOps_g, wantG_bt, wantC_b, ↓reduceIte, isC_c, Bool.or_true, rd_c, h6, evalK_pick, pickV_b, runOps_nil, thenC_nrm, exL_cond, condC_b, exL_skip, exL_block, evalK_build, List.map_cons, List.map_nil, one_s, cells_d1, vone_d, List.length_cons, List.length_nil, Nat.zero_add, Nat.reduceAdd, Nat.reduceLT, fillC_1, List.set_cons_zero, fillC_nil, aggO_some, mkAgg_eq, allD_d, allD_nil, consD_some, aggV_some, evalK_allocL, put_box, killLp_cons, killV_d, killV_map, killLp_nil, evalK_store, readV_box, storeV_lp, cells_agg, ones_cons, one_b, one_nil, ones_nil, Bool.and_self, storeB_box, setCells_all, storeR_some, put_none, evalK_indexAddr, hix, put_cp, evalK_fieldAddr, readV_cp, faV_cpc, List.getElem?_cons_zero, cpV_i, evalK_load, loadV_cp_i, Int.reduceEq, bin_rem, evalK_conv, hm9, rd_mv, takeV_d, spent_mv, eq_false h7, decide_false, Bool.false_eq_true, put_tup, readV_tup, pickV_f, spent_c, f_waferlaw12_made_l0_in, keepV_box, a1, readV_map, put_map, hw1, Bool.or_false, bin_add, hw2, evalK_buildSlice, dcells_i, List.reduceReplicate, fillD_cons, fillD_nil, wfs_cons, one_i, wf_one, wfs_nil, slO_some, put_osl, evalK_text, readV_osl, htx, hs1, loadV_lp, Nat.reduceLeDiff, boxV_A, List.drop_zero, List.take_succ_cons, List.take_zero, copy1_d, copy1_slV, evalK_mapUpdate, ok_d, updV_sE, push_get, updE_map, k1, setO_some, setAt_push, Nat.min_self, blockC_nrm, restrict_cons, restrict_nil, hw, f_waferlaw12_made_l3_in]
        exact r3
    · refine ⟨R, by omega, hf, ?_⟩
      rw [f_waferlaw12_made_l3_eq]
      simp only [f_waferlaw12_made_B3, keepV_d, keepV_map, exL_seq, exL_ops, runOps_n, evalK_mov, rd_t, reduceCtorEq, get_ne, Nat.reduceEqDiff, get_eq, readV_d, spent_t, opC_ok, put_d, evalK_lenL, h1, okS_some, evalK_bin, isC_t, Bool.or_self, bin_lss, eq_false hlt, decide_false, runOps_g, wantG_bt, wantC_b, Bool.false_eq_true, ↓reduceIte, put_tup, evalK_pick, readV_tup, rd_c, pickV_f, runOps_nil, thenC_nrm, exL_cond, condC_b, exL_exit, thenC_exit, blockC_exit, restrict_cons, restrict_nil]
theorem madeL_call {H : List Obj} {l : D} {n : Nat} (hl : ∀ y ∈ itemsD l, RiLt n y) (hlo : l = .nil ∨ ∃ q, l = .sl q) :
    ∃ R : List RecE, R.length ≤ 6 ∧ (∀ r ∈ R, FsOk (n + 2) r.fs) ∧ callL pg 9 [.d l] H = some ⟨false, false, .map H.length, H ++ [.map (esR R)], H.length⟩ := by
  obtain ⟨R, h1, h2, h3⟩ := madeL_loop (H := H) hl hlo 6 0 [] rfl (by omega) (by simp) (fun r hr => by cases hr)
  refine ⟨R, h1, h2, ?_⟩
  have h3' : blockC 0 [3] (f_waferlaw12_made_l3 pg (.d l) (.map H.length) (.d (.i .i64 0)) (H ++ [.map []]) H.length) = some (.nrm, ⟨[(3, .map H.length)], H ++ [.map (esR R)], H.length⟩) := h3
  rw [callL_fn (fn := f_waferlaw12_made) rfl rfl]
  simp only [f_waferlaw12_made, f_waferlaw12_made_R4, argEnv_cons, Nat.zero_add, argEnv_nil, exL_seq, exL_ops, runOps_n, evalK_mov, rd_c, spent_c, opC_ok, put_d, runOps_nil, thenC_nrm, evalK_mkMap, put_map, rd_t, get_eq, readV_map, spent_t, exL_block, f_waferlaw12_made_l3_in, reduceCtorEq, get_ne, keepV_d, Nat.reduceEqDiff, keepV_map, h3', exL_ret, finC_ret, resultVs_cons, resultV_t, ownV_map, resultVs_nil, consO_some, leaveC_1]
  rw [leave_new rfl (.inl (by simp [V.ref]))]
end W

set_option linter.unusedSimpArgs false
set_option linter.unusedVariables false
namespace W
open Go (IntKind BinOp UnOp)
set_option maxRecDepth 20000
def chF (R : List RecE) : Nat → List Nat → Option (List RecE)
  | 0, _ => none
  | n + 1, a => match findR a R with
    | none => none
    | some r => if r.base = [] then some [r] else (match chF R n r.base with | some l => some (r :: l) | none => none)
theorem chF_none {R : List RecE} {a : List Nat} (h : findR a R = none) : ∀ n, chF R n a = none
  | 0 => rfl
  | n + 1 => by simp only [chF, h]
theorem chF_cyc {R : List RecE} {vis : List (List Nat)} (h : ∀ x ∈ vis, ∃ y, nextR R x = some y ∧ y ∈ vis) : ∀ (n : Nat) (a : List Nat), a ∈ vis → chF R n a = none
  | 0, _, _ => rfl
  | n + 1, a, ha => by
    obtain ⟨y, h2, h3⟩ := h a ha
    have ih := chF_cyc h n y h3
    simp only [nextR] at h2
    simp only [chF]
    cases hr : findR a R with
    | none => rfl
    | some r =>
      rw [hr] at h2
      simp only at h2 ⊢
      split at h2
      · cases h2
      · rename_i hb
        cases h2
        rw [if_neg hb, ih]
theorem recD_cells (r : RecE) : (recD r).cells.length = 4 := rfl
def resCh (x : Option (List RecE)) (acc : List RecE) : V :=
  match x with
  | some l => .tup [.d (slD recD (acc ++ l)), .d (.b true)]
  | none => .tup [.d .nil, .d (.b false)]
theorem slD_len {α : Type} {e : α → D} {L : List α} (H : List Obj) : lenV .lenL (.d (slD e L)) H = some (.d (.i .i64 (L.length : Nat))) := by
  have := (ofOk (slD_is (e := e) (L := L))).len H
  rw [items_slD, List.length_map] at this; exact this
theorem chain_end {H : List Obj} {R : List RecE} {id : Nat} {es : List (D × V)} {acc : List RecE} {r : RecE} :
    finC H false [.t 4, .t 5] (thenC pg (blockC 0 [6] (f_types_chain_l0 pg (.d (.s [])) (.map id) (slV recD (acc ++ [r])) (.map H.length) (H ++ [.map es]) H.length)) f_types_chain_R1)
      = some ⟨false, true, .tup [.d (slD recD (acc ++ [r])), .d (.b true)], H, H.length⟩ := by
  have hl := fun H => slD_len (e := recD) (L := acc ++ [r]) H
  have h0 : (0 : Int) < ((acc ++ [r]).length : Nat) := by simp only [List.length_append, List.length_cons, List.length_nil]; omega
  rw [f_types_chain_l0_eq]
  generalize hq : (acc ++ [r]).length = q at *
  simp only [f_types_chain_B0, keepV_d, keepV_map, keepV_slV, exL_seq, exL_ops, runOps_n, evalK_mov, rd_t, get_eq, readV_d, spent_t, opC_ok, put_d, evalK_bin, isC_t, isC_c, Bool.or_true, rd_c, bin_sneq, decide_true, Bool.not_true, okS_some, runOps_nil, thenC_nrm, exL_cond, condC_b, Bool.false_eq_true, ↓reduceIte, exL_exit, thenC_exit, blockC_exit, restrict_cons, Nat.reduceEqDiff, get_ne, reduceCtorEq, restrict_nil, f_types_chain_R1, readV_slV, evalK_lenL, hl, bin_gtr, eq_true h0, exL_ret, finC_ret, resultVs_cons, resultV_t, ownV_d, resultVs_nil, consO_some, leaveC_2, leaves_tup, oks_cons, ok_d, oks_nil, Bool.and_self, ref_tup, refs_cons, ref_d, refs_nil, Nat.max_self, settle_tup, leave_pure]
theorem chain_loop' {H : List Obj} {R : List RecE} {id : Nat} (hid : H[id]? = some (.map (esR R))) (hfs : ∀ r ∈ R, r.fs.one = true) (hR : R.length ≤ 1000) : ∀ (k : Nat) (acc : List RecE) (a : List Nat), R.length - acc.length = k → InvX R [] (acc.map (·.k)) a → a ≠ [] →
    finC H false [.t 4, .t 5] (thenC pg (blockC 0 [6] (f_types_chain_l0 pg (.d (.s a)) (.map id) (slV recD acc) (.map H.length) (H ++ [.map (seenE (acc.map (·.k)))]) H.length)) f_types_chain_R1)
      = some ⟨false, true, resCh (chF R (R.length - acc.length) a) acc, H, H.length⟩ := by
  intro k
  induction k using Nat.strongRecOn with
  | ind k ih =>
    intro acc a hk inv ha
    have hold : ∀ l, (H ++ l)[id]? = some (.map (esR R)) := fun l => push_old hid
    have hlen := inv.len
    simp only [List.length_map] at hlen
    rw [f_types_chain_l0_eq]
    cases hr : findR a R with
    | none =>
      rw [chF_none hr]
      simp only [f_types_chain_B0, keepV_d, keepV_map, keepV_slV, exL_seq, exL_ops, runOps_n, evalK_mov, rd_t, get_eq, readV_d, spent_t, opC_ok, put_d, evalK_bin, isC_t, isC_c, Bool.or_true, rd_c, bin_sneq, eq_false ha, decide_false, Bool.not_false, okS_some, runOps_nil, thenC_nrm, exL_cond, condC_b, ↓reduceIte, exL_skip, exL_block, Nat.reduceEqDiff, get_ne, reduceCtorEq, readV_map, put_map, evalK_lookup, lookV_sE, hold, lookE_map, keyFind_esR, hr, Option.map_none, findV_t0, put_tup, readV_tup, evalK_extract, extV_0, copy_d, extV_1, evalK_allocL, List.map_cons, List.map_nil, put_box, killLp_cons, killV_d, killV_tup, killV_map, killV_slV, killLp_nil, evalK_store, readV_box, storeV_lp, cells_agg, List.length_cons, List.length_nil, Nat.zero_add, Nat.reduceAdd, ones_cons, vone_d, one_s, one_b, one_nil, ones_nil, Bool.and_self, storeB_box, setCells_all, storeR_some, put_none, evalK_un, un_not, Option.map_some, runOps_g, wantG_bf, Bool.not_true, wantC_b, Bool.false_eq_true, evalK_pick, pickV_t, spent_c, exL_ret, thenC_ret, blockC_ret, finC_ret, resultVs_cons, resultV_t, ownV_d, resultVs_nil, consO_some, leaveC_2, leaves_tup, oks_cons, ok_d, oks_nil, ref_tup, refs_cons, ref_d, refs_nil, Nat.max_self, settle_tup, leave_pure, resCh]
    | some r =>
      by_cases hm : a ∈ acc.map (·.k)
      · rw [chF_cyc (fun x hx => by
          obtain ⟨_, y, h2, h3⟩ := inv.st x hx
          exact ⟨y, h2, by rcases h3 with h3 | rfl <;> assumption⟩) _ a hm]
        obtain ⟨k0, nm, ex, base, fs⟩ := r
        have hf1 : fs.one = true := hfs _ (findR_mem hr).1
        simp only [f_types_chain_B0, keepV_d, keepV_map, keepV_slV, exL_seq, exL_ops, runOps_n, evalK_mov, rd_t, get_eq, readV_d, spent_t, opC_ok, put_d, evalK_bin, isC_t, isC_c, Bool.or_true, rd_c, bin_sneq, eq_false ha, decide_false, Bool.not_false, okS_some, runOps_nil, thenC_nrm, exL_cond, condC_b, ↓reduceIte, exL_skip, exL_block, Nat.reduceEqDiff, get_ne, reduceCtorEq, readV_map, put_map, evalK_lookup, lookV_sE, hold, lookE_map, keyFind_esR, recD, hr, Option.map_some, findV_t, copy_d, put_tup, readV_tup, evalK_extract, extV_0, extV_1, evalK_allocL, List.map_cons, List.map_nil, put_box, killLp_cons, killV_d, killV_tup, killV_map, killV_slV, killLp_nil, evalK_store, readV_box, storeV_lp, cells_agg, List.length_cons, List.length_nil, Nat.zero_add, Nat.reduceAdd, ones_cons, vone_d, one_s, one_b, hf1, ones_nil, Bool.and_self, storeB_box, setCells_all, storeR_some, put_none, evalK_un, un_not, Bool.not_true, runOps_g, wantG_bf, wantC_b, push_get, keyFind_seen, eq_true hm, findV_f, evalK_pick, pickV_b, Bool.false_eq_true, spent_c, exL_ret, thenC_ret, blockC_ret, finC_ret, resultVs_cons, resultV_t, ownV_d, resultVs_nil, consO_some, leaveC_2, leaves_tup, oks_cons, ok_d, oks_nil, ref_tup, refs_cons, ref_d, refs_nil, Nat.max_self, settle_tup, leave_pure, resCh]
      · have hs := keySet_seen hm
        have hlt : acc.length < R.length := by
          have h1 : (a :: acc.map (·.k)).Nodup := List.nodup_cons.2 ⟨hm, inv.nd⟩
          have := nodup_sub (m := R.map (·.k)) h1 (fun x hx => by
            simp only [List.mem_cons] at hx
            rcases hx with rfl | hx
            · obtain ⟨q1, q2⟩ := findR_mem hr
              exact List.mem_map.2 ⟨r, q1, q2⟩
            · obtain ⟨_, y, hy, _⟩ := inv.st x hx
              unfold nextR at hy
              split at hy
              · cases hy
              · rename_i r' hr'
                obtain ⟨q1, q2⟩ := findR_mem hr'
                exact List.mem_map.2 ⟨r', q1, q2⟩)
          simp at this; omega
        have hkey := (findR_mem hr).2
        have hf1 : r.fs.one = true := hfs _ (findR_mem hr).1
        have happ : appendV 4 64 (slV recD acc) (.d (.sl [recD r])) = some (slV recD (acc ++ [r])) := app_slV1 recD_cells (roomy_of (by omega) (by omega))
        rw [show R.length - acc.length = (R.length - acc.length - 1) + 1 by omega]
        simp only [chF, hr]
        have hmap : (acc ++ [r]).map (·.k) = acc.map (·.k) ++ [a] := by simp [hkey]
        by_cases h0 : r.base = []
        · have he := chain_end (H := H) (R := R) (id := id) (es := seenE (acc.map (·.k) ++ [a])) (acc := acc) (r := r)
          rw [if_pos h0]
          simp only [resCh]
          obtain ⟨k0, nm, ex, base, fs⟩ := r
          simp only at h0 hf1 hkey
          subst h0
          simp only [recD] at happ
          simp only [f_types_chain_B0, keepV_d, keepV_map, keepV_slV, exL_seq, exL_ops, runOps_n, evalK_mov, rd_t, get_eq, readV_d, spent_t, opC_ok, put_d, evalK_bin, isC_t, isC_c, Bool.or_true, rd_c, bin_sneq, eq_false ha, decide_false, Bool.not_false, okS_some, runOps_nil, thenC_nrm, exL_cond, condC_b, ↓reduceIte, exL_skip, exL_block, Nat.reduceEqDiff, get_ne, reduceCtorEq, readV_map, put_map, evalK_lookup, lookV_sE, hold, lookE_map, keyFind_esR, recD, hr, Option.map_some, findV_t, copy_d, put_tup, readV_tup, evalK_extract, extV_0, extV_1, evalK_allocL, List.map_cons, List.map_nil, put_box, killLp_cons, killV_d, killV_tup, killV_map, killV_slV, killLp_nil, evalK_store, readV_box, storeV_lp, cells_agg, List.length_cons, List.length_nil, Nat.zero_add, Nat.reduceAdd, ones_cons, vone_d, one_s, one_b, hf1, ones_nil, Bool.and_self, storeB_box, setCells_all, storeR_some, put_none, evalK_un, un_not, Bool.not_true, runOps_g, wantG_bf, wantC_b, push_get, keyFind_seen, eq_false hm, findV_f0, evalK_pick, pickV_b, Bool.false_eq_true, evalK_mapUpdate, spent_c, ok_d, updV_sE, updE_map, hs, setO_some, setAt_push, Nat.min_self, rd_mv, takeV_slV, spent_mv, put_slV, evalK_load, loadV_lp, Nat.reduceLeDiff, boxV_A, List.drop_zero, List.take_succ_cons, List.take_zero, copy1_d, mkAgg_eq, allD_d, allD_nil, consD_some, aggV_some, evalK_buildSlice, dcells_agg, List.reduceReplicate, Nat.reduceLT, fillD_cons, List.set_cons_zero, fillD_nil, wfs_cons, wf_agg, dones_cons, dones_nil, wfs_nil, slO_some, put_osl, evalK_append, readV_osl, happ, appO_some, evalK_fieldAddr, faV_lp, put_lp, readV_lp, boxV_1, List.getElem?_cons_succ, List.getElem?_cons_zero, blockC_nrm, restrict_cons, restrict_nil, f_types_chain_l0_in]
          exact he
        · have inv' := inv.step hm ha (a' := r.base) (by simp [nextR, hr, h0])
          rw [← hmap] at inv'
          have ih' := ih (R.length - (acc ++ [r]).length) (by simp; omega) (acc ++ [r]) r.base rfl inv' h0
          rw [hmap] at ih'
          rw [if_neg h0]
          have hres : resCh (chF R (R.length - (acc ++ [r]).length) r.base) (acc ++ [r]) = resCh (match chF R (R.length - acc.length - 1) r.base with | some l => some (r :: l) | none => none) acc := by
            rw [show R.length - (acc ++ [r]).length = R.length - acc.length - 1 by simp; omega]
            cases chF R (R.length - acc.length - 1) r.base with
            | none => rfl
            | some l => simp [resCh]
          rw [← hres, ← ih']
          obtain ⟨k0, nm, ex, base, fs⟩ := r
          simp only at h0 hf1 hkey
          simp only [recD] at happ
          simp only [f_types_chain_B0, keepV_d, keepV_map, keepV_slV, exL_seq, exL_ops, runOps_n, evalK_mov, rd_t, get_eq, readV_d, spent_t, opC_ok, put_d, evalK_bin, isC_t, isC_c, Bool.or_true, rd_c, bin_sneq, eq_false ha, decide_false, Bool.not_false, okS_some, runOps_nil, thenC_nrm, exL_cond, condC_b, ↓reduceIte, exL_skip, exL_block, Nat.reduceEqDiff, get_ne, reduceCtorEq, readV_map, put_map, evalK_lookup, lookV_sE, hold, lookE_map, keyFind_esR, recD, hr, Option.map_some, findV_t, copy_d, put_tup, readV_tup, evalK_extract, extV_0, extV_1, evalK_allocL, List.map_cons, List.map_nil, put_box, killLp_cons, killV_d, killV_tup, killV_map, killV_slV, killLp_nil, evalK_store, readV_box, storeV_lp, cells_agg, List.length_cons, List.length_nil, Nat.zero_add, Nat.reduceAdd, ones_cons, vone_d, one_s, one_b, hf1, ones_nil, Bool.and_self, storeB_box, setCells_all, storeR_some, put_none, evalK_un, un_not, Bool.not_true, runOps_g, wantG_bf, wantC_b, push_get, keyFind_seen, eq_false hm, findV_f0, evalK_pick, pickV_b, Bool.false_eq_true, evalK_mapUpdate, spent_c, ok_d, updV_sE, updE_map, hs, setO_some, setAt_push, Nat.min_self, rd_mv, takeV_slV, spent_mv, put_slV, evalK_load, loadV_lp, Nat.reduceLeDiff, boxV_A, List.drop_zero, List.take_succ_cons, List.take_zero, copy1_d, mkAgg_eq, allD_d, allD_nil, consD_some, aggV_some, evalK_buildSlice, dcells_agg, List.reduceReplicate, Nat.reduceLT, fillD_cons, List.set_cons_zero, fillD_nil, wfs_cons, wf_agg, dones_cons, dones_nil, wfs_nil, slO_some, put_osl, evalK_append, readV_osl, happ, appO_some, evalK_fieldAddr, faV_lp, put_lp, readV_lp, boxV_1, List.getElem?_cons_succ, List.getElem?_cons_zero, blockC_nrm, restrict_cons, restrict_nil, f_types_chain_l0_in]
theorem chain_call {H : List Obj} {R : List RecE} {id : Nat} (hid : H[id]? = some (.map (esR R))) (hfs : ∀ r ∈ R, r.fs.one = true) (hR : R.length ≤ 1000) {a : List Nat} (ha : a ≠ []) :
    callL pg 26 [.d (.s a), .map id] H = some ⟨false, true, resCh (chF R R.length a) [], H, H.length⟩ := by
  have hl := chain_loop' hid hfs hR _ [] a rfl ⟨by simp, fun x hx => by simp at hx⟩ ha
  have hl' : finC H false [.t 4, .t 5] (thenC pg (blockC 0 [6] (f_types_chain_l0 pg (.d (.s a)) (.map id) (.d .nil) (.map H.length) (H ++ [.map []]) H.length)) f_types_chain_R1)
      = some ⟨false, true, resCh (chF R R.length a) [], H, H.length⟩ := hl
  rw [callL_fn (fn := f_types_chain) rfl rfl]
  simp only [f_types_chain, argEnv_cons, Nat.zero_add, Nat.reduceAdd, argEnv_nil, exL_seq, exL_ops, runOps_n, evalK_mov, rd_c, spent_c, opC_ok, put_d, runOps_nil, thenC_nrm, evalK_mkMap, put_map, rd_t, get_eq, readV_map, spent_t, exL_block, f_types_chain_l0_in, reduceCtorEq, get_ne, keepV_d, Nat.reduceEqDiff, keepV_map]
  exact hl'
def dec6 (x : D) : List D6 := (itemsD x).filterMap fun y => if h : y.cells.length = 6 then some ⟨y, h⟩ else none
theorem dec6_slD (L : List D6) : dec6 (slD e6 L) = L := by
  simp only [dec6, items_slD]
  induction L with
  | nil => rfl
  | cons x L ih =>
    simp only [List.map_cons, List.filterMap_cons, e6, x.2, dite_true]
    rw [show (List.filterMap (fun y : D => if h : y.cells.length = 6 then some (⟨y, h⟩ : D6) else none) (List.map e6 L)) = L from ih]
def refFl (R : List RecE) : Nat → List Nat → Option (List D6)
  | 0, _ => none
  | n + 1, a => match findR a R with
    | none => none
    | some r => if r.base = [] then some (dec6 r.fs) else (match refFl R n r.base with | some l => some (l ++ dec6 r.fs) | none => none)
theorem refFl_ch (R : List RecE) : ∀ (n : Nat) (a : List Nat), refFl R n a = (chF R n a).map fun l => l.reverse.flatMap fun r => dec6 r.fs
  | 0, _ => rfl
  | n + 1, a => by
    simp only [refFl, chF]
    cases findR a R with
    | none => rfl
    | some r =>
      simp only
      by_cases h : r.base = []
      · simp [h]
      · simp only [if_neg h, refFl_ch R n r.base]
        cases chF R n r.base with
        | none => rfl
        | some l => simp
def resF (x : Option (List D6)) : V :=
  match x with
  | some l => .tup [.d (slD e6 l), .d (.b true)]
  | none => .tup [.d .nil, .d (.b false)]
theorem refFl_len {R : List RecE} {n0 : Nat} (hfs : ∀ r ∈ R, FsOk n0 r.fs) : ∀ (n : Nat) (a : List Nat) (l : List D6), refFl R n a = some l → l.length ≤ 5 * n ∧ ∀ y ∈ l, Fd n0 y.1
  | 0, _, _, h => by cases h
  | n + 1, a, l, h => by
    simp only [refFl] at h
    cases hr : findR a R with
    | none => rw [hr] at h; cases h
    | some r =>
      rw [hr] at h
      obtain ⟨L, hL, hl, hy⟩ := hfs r (findR_mem hr).1
      simp only [hL, dec6_slD] at h
      split at h
      · cases h
        exact ⟨by omega, hy⟩
      · cases hq : refFl R n r.base with
        | none => rw [hq] at h; cases h
        | some l' =>
          rw [hq] at h
          cases h
          obtain ⟨i1, i2⟩ := refFl_len hfs n r.base l' hq
          refine ⟨by simp; omega, fun y hm => ?_⟩
          rw [List.mem_append] at hm
          rcases hm with hm | hm
          · exact i2 y hm
          · exact hy y hm
theorem sliceX_slD {L : List D6} {k : IntKind} : sliceX 6 (.d (slD e6 L)) none (L.length : Nat) (L.length : Nat) = some (slV e6 L) := by
  cases L with
  | nil => rfl
  | cons x l =>
    show sliceX 6 (.d (.sl ((x :: l).map e6))) none _ _ = some (.osl ((x :: l).map e6))
    have h1 : headIs 6 ((x :: l).map e6) = true := headIs_map e6_cells
    have h2 : (0 : Int) ≤ (l.length : Int) + 1 := by omega
    have h3 : Nat.beq (l.length + 1) (l.length + 1) = true := by simp
    simp only [sliceX, h1, leI_d, cutD, Option.getD_some, Option.getD_none]
    simp [h2, h3, List.take_of_length_le]
theorem fieldsR_call {H : List Obj} {R : List RecE} {id n0 : Nat} (hid : H[id]? = some (.map (esR R))) (hfs : ∀ r ∈ R, FsOk n0 r.fs) : ∀ (n : Nat) (a : List Nat), n ≤ 1000 →
    callL pg 29 [.d (.s a), .map id, .d (.i .i64 (n : Nat))] H = some ⟨false, true, resF (refFl R n a), H, H.length⟩
  | 0, a, hn => by
    rw [callL_fn (fn := f_waferref11_fields) rfl rfl]
    cases hr : findR a R with
    | none => simp only [f_waferref11_fields, Int.cast_ofNat_Int, argEnv_cons, Nat.zero_add, Nat.reduceAdd, argEnv_nil, exL_seq, exL_ops, runOps_n, evalK_mov, rd_c, spent_c, opC_ok, put_d, runOps_nil, thenC_nrm, rd_t, Nat.reduceEqDiff, get_ne, reduceCtorEq, get_eq, readV_map, spent_t, put_map, readV_d, evalK_lookup, lookV_sE, hid, lookE_map, keyFind_esR, hr, Option.map_none, findV_t0, okS_some, put_tup, readV_tup, evalK_extract, extV_0, copy_d, extV_1, evalK_allocL, List.map_cons, List.map_nil, put_box, killLp_cons, killV_d, killV_tup, killV_map, killLp_nil, evalK_store, readV_box, storeV_lp, cells_agg, List.length_cons, List.length_nil, ones_cons, vone_d, one_s, one_b, one_nil, ones_nil, Bool.and_self, storeB_box, setCells_all, storeR_some, put_none, evalK_un, un_not, Bool.not_false, Option.map_some, runOps_g, wantG_bf, Bool.not_true, wantC_b, Bool.false_eq_true, ↓reduceIte, evalK_pick, pickV_t, exL_cond, condC_b, exL_ret, thenC_ret, finC_ret, resultVs_cons, resultV_t, ownV_d, resultVs_nil, consO_some, leaveC_2, leaves_tup, oks_cons, ok_d, oks_nil, ref_tup, refs_cons, ref_d, refs_nil, Nat.max_self, settle_tup, leave_pure, resF, refFl]
    | some r =>
      obtain ⟨L, hL, hl, hy⟩ := hfs r (findR_mem hr).1
      obtain ⟨k0, nm, ex, base, fs⟩ := r
      simp only at hL; subst hL
      have hone : (slD e6 L).one = true := by cases L <;> rfl
      simp only [f_waferref11_fields, Int.cast_ofNat_Int, argEnv_cons, Nat.zero_add, Nat.reduceAdd, argEnv_nil, exL_seq, exL_ops, runOps_n, evalK_mov, rd_c, spent_c, opC_ok, put_d, runOps_nil, thenC_nrm, rd_t, Nat.reduceEqDiff, get_ne, reduceCtorEq, get_eq, readV_map, spent_t, put_map, readV_d, evalK_lookup, lookV_sE, hid, lookE_map, keyFind_esR, recD, hr, Option.map_some, findV_t, copy_d, okS_some, put_tup, readV_tup, evalK_extract, extV_0, extV_1, evalK_allocL, List.map_cons, List.map_nil, put_box, killLp_cons, killV_d, killV_tup, killV_map, killLp_nil, evalK_store, readV_box, storeV_lp, cells_agg, List.length_cons, List.length_nil, ones_cons, vone_d, one_s, one_b, hone, ones_nil, Bool.and_self, storeB_box, setCells_all, storeR_some, put_none, evalK_un, un_not, Bool.not_true, runOps_g, wantG_bf, Bool.not_false, wantC_b, ↓reduceIte, evalK_bin, isC_t, isC_c, Bool.or_true, bin_lss, Int.reduceLT, decide_true, evalK_pick, pickV_b, Bool.false_eq_true, exL_cond, condC_b, exL_ret, thenC_ret, finC_ret, resultVs_cons, resultV_t, ownV_d, resultVs_nil, consO_some, leaveC_2, leaves_tup, oks_cons, ok_d, oks_nil, ref_tup, refs_cons, ref_d, refs_nil, Nat.max_self, settle_tup, leave_pure, resF, refFl]
      all_goals rfl
  | n + 1, a, hn => by
    have h1 : (((n + 1 : Nat) : Int) < 1) = False := eq_false (by omega)
    have hw : wr .i64 (((n + 1 : Nat) : Int) - 1) = (n : Nat) := by rw [wr_i64 (by omega) (by omega)]; omega
    rw [callL_fn (fn := f_waferref11_fields) rfl rfl]
    cases hr : findR a R with
    | none => simp only [f_waferref11_fields, argEnv_cons, Nat.zero_add, Nat.reduceAdd, argEnv_nil, exL_seq, exL_ops, runOps_n, evalK_mov, rd_c, spent_c, opC_ok, put_d, runOps_nil, thenC_nrm, rd_t, Nat.reduceEqDiff, get_ne, reduceCtorEq, get_eq, readV_map, spent_t, put_map, readV_d, evalK_lookup, lookV_sE, hid, lookE_map, keyFind_esR, hr, Option.map_none, findV_t0, okS_some, put_tup, readV_tup, evalK_extract, extV_0, copy_d, extV_1, evalK_allocL, List.map_cons, List.map_nil, put_box, killLp_cons, killV_d, killV_tup, killV_map, killLp_nil, evalK_store, readV_box, storeV_lp, cells_agg, List.length_cons, List.length_nil, ones_cons, vone_d, one_s, one_b, one_nil, ones_nil, Bool.and_self, storeB_box, setCells_all, storeR_some, put_none, evalK_un, un_not, Bool.not_false, Option.map_some, runOps_g, wantG_bf, Bool.not_true, wantC_b, Bool.false_eq_true, ↓reduceIte, evalK_pick, pickV_t, exL_cond, condC_b, exL_ret, thenC_ret, finC_ret, resultVs_cons, resultV_t, ownV_d, resultVs_nil, consO_some, leaveC_2, leaves_tup, oks_cons, ok_d, oks_nil, ref_tup, refs_cons, ref_d, refs_nil, Nat.max_self, settle_tup, leave_pure, resF, refFl]
    | some r =>
      obtain ⟨L, hL, hl, hy⟩ := hfs r (findR_mem hr).1
      obtain ⟨k0, nm, ex, base, fs⟩ := r
      simp only at hL; subst hL
      have hone : (slD e6 L).one = true := by cases L <;> rfl
      by_cases h0 : base = []
      · have ha1 : appendV 6 80 (.d .nil) (.d (slD e6 L)) = some (slV e6 L) := app_slVD (e := e6) (L := []) e6_cells (roomy_of (by simp; omega) (by simp; omega))
        have hsx : sliceX 6 (.d .nil) none 0 0 = some (.d .nil) := rfl
        simp only [f_waferref11_fields, argEnv_cons, Nat.zero_add, Nat.reduceAdd, argEnv_nil, exL_seq, exL_ops, runOps_n, evalK_mov, rd_c, spent_c, opC_ok, put_d, runOps_nil, thenC_nrm, rd_t, Nat.reduceEqDiff, get_ne, reduceCtorEq, get_eq, readV_map, spent_t, put_map, readV_d, evalK_lookup, lookV_sE, hid, lookE_map, keyFind_esR, recD, hr, Option.map_some, findV_t, copy_d, okS_some, put_tup, readV_tup, evalK_extract, extV_0, extV_1, evalK_allocL, List.map_cons, List.map_nil, put_box, killLp_cons, killV_d, killV_tup, killV_map, killLp_nil, evalK_store, readV_box, storeV_lp, cells_agg, List.length_cons, List.length_nil, ones_cons, vone_d, one_s, one_b, hone, ones_nil, Bool.and_self, storeB_box, setCells_all, storeR_some, put_none, evalK_un, un_not, Bool.not_true, runOps_g, wantG_bf, Bool.not_false, wantC_b, ↓reduceIte, evalK_bin, isC_t, isC_c, Bool.or_true, bin_lss, h1, decide_false, evalK_pick, pickV_b, Bool.false_eq_true, exL_cond, condC_b, exL_skip, evalK_fieldAddr, faV_lp, put_lp, evalK_load, readV_lp, loadV_lp, boxV_1, List.getElem?_cons_succ, List.getElem?_cons_zero, copy1_d, bin_sneq, eq_true h0, decide_true, exL_opsD, runOpsD_n, opDC_same, putD_d, putC_some, evalK_lenL, lenL_nil, evalK_sliceM, optInt_none, cut3_some, hsx, putD_lp, hasNat_nil, lpD_f, evalK_append, rd_mv, takeV_d, ha1, spent_mv, appO_some, opDC_serial, putD_slV, takeV_slV, runOpsD_nil, exL_ret, finC_ret, resultVs_cons, resultV_t, ownV_slV, ownV_d, resultVs_nil, consO_some, leaveC_2, leaves_tup, oks_cons, ok_d, oks_nil, ref_tup, refs_cons, ref_d, refs_nil, Nat.max_self, settle_tup, leave_pure, resF, refFl, dec6_slD]
        all_goals rfl
      · have ih := fieldsR_call hid hfs n base (by omega)
        cases hq : refFl R n base with
        | none =>
          rw [hq] at ih
          simp only [resF] at ih
          simp only [f_waferref11_fields, argEnv_cons, Nat.zero_add, Nat.reduceAdd, argEnv_nil, exL_seq, exL_ops, runOps_n, evalK_mov, rd_c, spent_c, opC_ok, put_d, runOps_nil, thenC_nrm, rd_t, Nat.reduceEqDiff, get_ne, reduceCtorEq, get_eq, readV_map, spent_t, put_map, readV_d, evalK_lookup, lookV_sE, hid, lookE_map, keyFind_esR, recD, hr, Option.map_some, findV_t, copy_d, okS_some, put_tup, readV_tup, evalK_extract, extV_0, extV_1, evalK_allocL, List.map_cons, List.map_nil, put_box, killLp_cons, killV_d, killV_tup, killV_map, killLp_nil, evalK_store, readV_box, storeV_lp, cells_agg, List.length_cons, List.length_nil, ones_cons, vone_d, one_s, one_b, hone, ones_nil, Bool.and_self, storeB_box, setCells_all, storeR_some, put_none, evalK_un, un_not, Bool.not_true, runOps_g, wantG_bf, Bool.not_false, wantC_b, ↓reduceIte, evalK_bin, isC_t, isC_c, Bool.or_true, bin_lss, h1, decide_false, evalK_pick, pickV_b, Bool.false_eq_true, exL_cond, condC_b, exL_skip, evalK_fieldAddr, faV_lp, put_lp, evalK_load, readV_lp, loadV_lp, boxV_1, List.getElem?_cons_succ, List.getElem?_cons_zero, copy1_d, bin_sneq, eq_false h0, rd_mv, takeV_map, spent_mv, bin_sub, hw, evalK_call, allLeave_cons, leaves_d, leaves_map, allLeave_nil, eCall_f, ih, callC_some, spentAll_cons, spentAll_nil, Nat.min_self, exL_ret, thenC_ret, finC_ret, resultVs_cons, resultV_t, ownV_d, resultVs_nil, consO_some, leaveC_2, leaves_tup, oks_cons, ok_d, oks_nil, ref_tup, refs_cons, ref_d, refs_nil, Nat.max_self, settle_tup, leave_pure, resF, refFl, hq]
          all_goals rfl
        | some l =>
          rw [hq] at ih
          simp only [resF] at ih
          obtain ⟨i1, i2⟩ := refFl_len hfs n base l hq
          have hsl := fun H => slD_len (e := e6) (L := l) H
          have hsx := sliceX_slD (L := l) (k := .i64)
          have ha1 : appendV 6 80 (slV e6 l) (.d (slD e6 L)) = some (slV e6 (l ++ L)) := app_slVD (e := e6) e6_cells (roomy_of (by omega) (by omega))
          simp only [f_waferref11_fields, argEnv_cons, Nat.zero_add, Nat.reduceAdd, argEnv_nil, exL_seq, exL_ops, runOps_n, evalK_mov, rd_c, spent_c, opC_ok, put_d, runOps_nil, thenC_nrm, rd_t, Nat.reduceEqDiff, get_ne, reduceCtorEq, get_eq, readV_map, spent_t, put_map, readV_d, evalK_lookup, lookV_sE, hid, lookE_map, keyFind_esR, recD, hr, Option.map_some, findV_t, copy_d, okS_some, put_tup, readV_tup, evalK_extract, extV_0, extV_1, evalK_allocL, List.map_cons, List.map_nil, put_box, killLp_cons, killV_d, killV_tup, killV_map, killLp_nil, evalK_store, readV_box, storeV_lp, cells_agg, List.length_cons, List.length_nil, ones_cons, vone_d, one_s, one_b, hone, ones_nil, Bool.and_self, storeB_box, setCells_all, storeR_some, put_none, evalK_un, un_not, Bool.not_true, runOps_g, wantG_bf, Bool.not_false, wantC_b, ↓reduceIte, evalK_bin, isC_t, isC_c, Bool.or_true, bin_lss, h1, decide_false, evalK_pick, pickV_b, Bool.false_eq_true, exL_cond, condC_b, exL_skip, evalK_fieldAddr, faV_lp, put_lp, evalK_load, readV_lp, loadV_lp, boxV_1, List.getElem?_cons_succ, List.getElem?_cons_zero, copy1_d, bin_sneq, eq_false h0, rd_mv, takeV_map, spent_mv, bin_sub, hw, evalK_call, allLeave_cons, leaves_d, leaves_map, allLeave_nil, eCall_f, ih, callC_some, spentAll_cons, spentAll_nil, Nat.min_self, exL_opsD, runOpsD_n, opDC_same, putD_d, putC_some, evalK_lenL, hsl, evalK_sliceM, optInt_none, cut3_some, hsx, putD_slV, putD_lp, hasNat_nil, lpD_f, evalK_append, takeV_slV, ha1, appO_some, opDC_serial, runOpsD_nil, exL_ret, finC_ret, resultVs_cons, resultV_t, ownV_slV, ownV_d, resultVs_nil, consO_some, leaveC_2, leaves_tup, oks_cons, ok_d, oks_nil, ref_tup, refs_cons, ref_d, refs_nil, Nat.max_self, settle_tup, leave_pure, resF, refFl, hq, dec6_slD]
          all_goals rfl
theorem refFields_call {H : List Obj} {R : List RecE} {id n0 : Nat} (hid : H[id]? = some (.map (esR R))) (hfs : ∀ r ∈ R, FsOk n0 r.fs) (hR : R.length ≤ 1000) {a : List Nat} :
    callL pg 11 [.d (.s a), .map id] H = some ⟨false, true, resF (refFl R R.length a), H, H.length⟩ := by
  have hm : lenV .lenM (.map id) H = some (.d (.i .i64 (R.length : Nat))) := by simp [lenV, hid, esR]
  have h := fieldsR_call hid hfs R.length a hR
  rw [callL_fn (fn := f_waferref11_Fields) rfl rfl]
  cases hq : refFl R R.length a with
  | none =>
    rw [hq] at h
    simp only [resF] at h ⊢
    simp only [f_waferref11_Fields, argEnv_cons, Nat.zero_add, Nat.reduceAdd, argEnv_nil, exL_seq, exL_ops, runOps_n, evalK_mov, rd_c, spent_c, opC_ok, put_d, runOps_nil, thenC_nrm, rd_mv, reduceCtorEq, get_ne, get_eq, takeV_d, spent_mv, rd_t, Nat.reduceEqDiff, readV_map, spent_t, put_map, evalK_lenM, hm, okS_some, evalK_call, List.map_cons, readV_d, List.map_nil, allLeave_cons, leaves_d, leaves_map, allLeave_nil, Bool.and_self, eCall_f, h, callC_some, spentAll_cons, spentAll_nil, Nat.min_self, put_tup, evalK_extract, extV_0, copy_d, extV_1, exL_ret, finC_ret, resultVs_cons, resultV_t, ownV_d, resultVs_nil, consO_some, leaveC_2, leaves_tup, oks_cons, ok_d, oks_nil, ref_tup, refs_cons, ref_d, refs_nil, Nat.max_self, settle_tup, leave_pure]
    all_goals rfl
  | some l =>
    rw [hq] at h
    simp only [resF] at h ⊢
    simp only [f_waferref11_Fields, argEnv_cons, Nat.zero_add, Nat.reduceAdd, argEnv_nil, exL_seq, exL_ops, runOps_n, evalK_mov, rd_c, spent_c, opC_ok, put_d, runOps_nil, thenC_nrm, rd_mv, reduceCtorEq, get_ne, get_eq, takeV_d, spent_mv, rd_t, Nat.reduceEqDiff, readV_map, spent_t, put_map, evalK_lenM, hm, okS_some, evalK_call, List.map_cons, readV_d, List.map_nil, allLeave_cons, leaves_d, leaves_map, allLeave_nil, Bool.and_self, eCall_f, h, callC_some, spentAll_cons, spentAll_nil, Nat.min_self, put_tup, evalK_extract, extV_0, copy_d, extV_1, exL_ret, finC_ret, resultVs_cons, resultV_t, ownV_d, resultVs_nil, consO_some, leaveC_2, leaves_tup, oks_cons, ok_d, oks_nil, ref_tup, refs_cons, ref_d, refs_nil, Nat.max_self, settle_tup, leave_pure]
    all_goals rfl
end W

set_option linter.unusedSimpArgs false
set_option linter.unusedVariables false
namespace W
open Go (IntKind BinOp UnOp)
set_option maxRecDepth 20000
theorem load6 {a b c d e f : D} {st : St} : loadV none ⟨6, true⟩ st (.cp (.agg [a, b, c, d, e, f])) = some (.d (.agg [a, b, c, d, e, f])) := rfl
theorem setCells_26 {a b c d e f w x y z : V} : setCells [a, b, c, d, e, f] 2 [w, x, y, z] = some [a, b, w, x, y, z] := (rfl)
theorem flds_loop {H0 : List Obj} {oid n lo : Nat} {ob : Obj} (hob : H0[oid]? = some ob) (hlo : lo ≤ oid) {L : List D6} (hL : L.length ≤ 5) (hy : ∀ y ∈ L, Fd n y.1) : ∀ (k i : Nat) (acc M : List D6), L.length - i = k → i ≤ L.length → acc.length ≤ 100000 + i → P2 (FdA n) (acc.map e6) (M.map e6) → (∀ y ∈ acc, Fd n y.1) →
    ∃ acc', blockC 2 [8] (f_types_Fields_l0 pg (.ptr oid 0) (.d (slD e6 L)) (.d (.i .i64 (L.length : Nat))) (.d (.i .i64 (i : Nat))) (setAt H0 oid (.cells [slV e6 acc])) lo)
      = some (.nrm, ⟨[(8, .ptr oid 0)], setAt H0 oid (.cells [slV e6 acc']), lo⟩) ∧ P2 (FdA n) (acc'.map e6) ((M ++ L.drop i).map e6) ∧ (∀ y ∈ acc', Fd n y.1) ∧ acc'.length = acc.length + (L.length - i)
  | 0, i, acc, M, hk, hi, hal, hp, ha => by
    have hlt : ((i : Int) < (L.length : Int)) = False := by rw [eq_iff_iff]; simp; omega
    refine ⟨acc, ?_, by rw [List.drop_eq_nil_of_le (by omega), List.append_nil]; exact hp, ha, by omega⟩
    rw [f_types_Fields_l0_eq]
    simp only [f_types_Fields_B0, keepV_ptr, keepV_d, exL_seq, exL_ops, runOps_n, evalK_bin, isC_t, Bool.or_self, rd_t, Nat.reduceEqDiff, get_ne, get_eq, readV_d, bin_lss, hlt, decide_false, okS_some, opC_ok, put_d, runOps_nil, thenC_nrm, exL_cond, condC_b, Bool.false_eq_true, ↓reduceIte, exL_exit, thenC_exit, blockC_exit, restrict_cons, restrict_nil]
  | k + 1, i, acc, M, hk, hi, hal, hp, ha => by
    have hlt : ((i : Int) < (L.length : Int)) = True := by rw [eq_iff_iff]; simp; omega
    have hoid : oid < H0.length := (List.getElem?_eq_some_iff.1 hob).1
    have hg : ∀ o, (setAt H0 oid o)[oid]? = some o := fun o => setAt_get hob
    have hm1 : min lo H0.length = lo := Nat.min_eq_left (by omega)
    have hm2 : min lo oid = lo := Nat.min_eq_left hlo
    obtain ⟨x, hx⟩ : ∃ a, L[i]? = some a := ⟨L[i]'(by omega), by simp⟩
    have hx2 : (itemsD (slD e6 L))[i]? = some x.1 := by rw [items_slD]; simp [hx, e6]
    have hix := of_ix' hx2 x.2 (k := .i64)
    have hfx := hy x (List.mem_of_getElem? hx)
    obtain ⟨nm, ex, f, m, s, o, e1, lt⟩ := hfx
    rw [e1] at hix
    have ho1 := lt.one
    obtain ⟨y, hc, hya, hyl⟩ := clone_call lt (H := setAt H0 oid (.cells [slV e6 acc]))
    obtain ⟨f', m', s', o', rfl, ho', _⟩ : ∃ f' m' s' o', y = .agg [.i .i64 f', .i .i64 m', .s s', o'] ∧ o'.one = true ∧ True := by
      cases n with
      | zero => exact hyl.elim
      | succ n =>
        obtain ⟨f', m', s', o', e, q, _⟩ := hyl
        exact ⟨f', m', s', o', e, (ofOk q).one, trivial⟩
    have hw : wr .i64 ((i : Int) + 1) = ((i + 1 : Nat) : Int) := by rw [wr_i64 (by omega) (by omega)]; omega
    have happ : appendV 6 80 (slV e6 acc) (.d (.sl [.agg [.s nm, .b ex, .i .i64 f', .i .i64 m', .s s', o']])) = some (slV e6 (acc ++ [⟨.agg [.s nm, .b ex, .i .i64 f', .i .i64 m', .s s', o'], rfl⟩])) :=
      app_slV1 (e := e6) (x := ⟨.agg [.s nm, .b ex, .i .i64 f', .i .i64 m', .s s', o'], rfl⟩) e6_cells (roomy_of (by omega) (by omega))
    obtain ⟨acc', ih, ihp, iha, ihl⟩ := flds_loop hob hlo hL hy k (i + 1) (acc ++ [⟨.agg [.s nm, .b ex, .i .i64 f', .i .i64 m', .s s', o'], rfl⟩]) (M ++ [x]) (by omega) (by omega) (by simp; omega)
      (by
        rw [List.map_append, List.map_append]
        exact hp.append (.cons ⟨nm, ex, f', m', s', o', f, m, s, o, rfl, e1, hya⟩ .nil)) (fun q hq => by
        simp at hq
        rcases hq with hq | rfl
        · exact ha q hq
        · exact ⟨_, _, _, _, _, _, rfl, hyl⟩)
    refine ⟨acc', ?_, ?_, iha, ?_⟩
    · rw [f_types_Fields_l0_eq]
      simp only [f_types_Fields_B0, keepV_ptr, keepV_d, exL_seq, exL_ops, runOps_n, evalK_bin, isC_t, Bool.or_self, rd_t, Nat.reduceEqDiff, get_ne, get_eq, readV_d, bin_lss, hlt, decide_true, okS_some, opC_ok, put_d, runOps_nil, thenC_nrm, exL_cond, condC_b, ↓reduceIte, exL_skip, exL_block, evalK_indexAddr, hix, put_cp, evalK_load, readV_cp, List.length_cons, List.length_nil, Nat.zero_add, Nat.reduceAdd, loadV_cp_agg, evalK_allocL, List.map_cons, List.map_nil, put_box, killLp_cons, killV_d, killV_cp, killV_ptr, killLp_nil, evalK_store, readV_box, spent_t, storeV_lp, cells_agg, ones_cons, vone_d, one_s, one_b, one_i, ho1, ones_nil, Bool.and_self, storeB_box, setCells_all, storeR_some, put_none, evalK_fieldAddr, faV_lp, put_lp, readV_lp, loadV_lp, Nat.reduceLeDiff, boxV_A, List.drop_succ_cons, List.drop_zero, List.take_succ_cons, List.take_zero, copy1_d, mkAgg_eq, allD_d, allD_nil, consD_some, aggV_some, evalK_call, allLeave_cons, leaves_d, allLeave_nil, eCall_f, hc, setAt_length, callC_some, spentAll_cons, spentAll_nil, hm1, rd_mv, takeV_d, spent_mv, ho', setCells_26, evalK_loadMv, readV_ptr, hg, List.getElem?_cons_zero, List.set_cons_zero, setAt_setAt, hm2, put_slV, evalK_buildSlice, dcells_agg, List.reduceReplicate, Nat.reduceLT, fillD_cons, fillD_nil, wfs_cons, wf_agg, dones_cons, dones_nil, wfs_nil, slO_some, put_osl, evalK_append, takeV_slV, readV_osl, happ, appO_some, storeV_P, cells_slV, vone_slV, storeP_cells, setCells_1, storePR_some, blockC_nrm, restrict_cons, restrict_nil, isC_c, Bool.or_true, rd_c, bin_add, hw, evalK_mov, f_types_Fields_l0_in]
      exact ih
    · have hdr : L.drop i = x :: L.drop (i + 1) := by
        obtain ⟨hi', rfl⟩ := List.getElem?_eq_some_iff.1 hx
        exact List.drop_eq_getElem_cons hi'
      rw [hdr]
      simpa using ihp
    · rw [ihl]; simp; omega
theorem exL_rangeB {k : Nat} {l : L} {f : O} {p0 p1 : Nat} {live : List Nat} {a b : C} {st : St} {k' : Nat} {c : V} {m : Nat} (hf : rd st.env f = .fn k' [] [c]) (hk : Nat.beq k' k = true) (hc : c.ok = true) (hn : backCount c st.H st.lo = some m) :
    exL pg (.rangeB k l f p0 p1 live a b) st = rounds (exL pg a) (exL pg b) l c p0 p1 (roundEnv live st.env) m st.H st.lo := by
  rw [exL_eq]
  simp only [step, hf, hk, hc, Bool.and_self, cond_true, hn]
theorem back_count {H : List Obj} {bid : Nat} {l : List RecE} {lo : Nat} (h : H[bid]? = some (.cells [.d (slD recD l)])) (hl : l.length ≤ 1000) : backCount (.ptr bid 0) H lo = some l.length := by
  have hlen := fun H => slD_len (e := recD) (L := l) H
  have hw : wr .i64 ((l.length : Int) - 1) = (l.length : Int) - 1 := wr_i64 (by omega) (by omega)
  have hD : lenD (slD recD l) = some (l.length : Int) := by cases l <;> simp [slD, lenD]
  have e1 : ((l.length : Int) - 1 + 1).toNat = l.length := by omega
  have e2 : (0 : Int) ≤ (l.length : Int) - 1 + 1 := by omega
  have e3 : l.length ≤ 4611686018427387904 := by omega
  unfold backCount backStart
  simp [runOps, wanted, evalK, eLoad, rd, get, readV, copy, slotIs, loadAt, h, V.part, copy1, ok, put, eBi, eLenL, hD, eBin, isC, binV, isShift, eqK, binInt, eMov, spent, hw, leI_d, ble_d, e1, e2, e3]
theorem back_at {H : List Obj} {bid : Nat} {l : List RecE} {lo i : Nat} {r : RecE} (h : H[bid]? = some (.cells [.d (slD recD l)])) (hr : l[i]? = some r) (hf : r.fs.one = true) : backAt ⟨4, true⟩ (.ptr bid 0) i H lo = some (.d (recD r)) := by
  have hi : (itemsD (slD recD l))[i]? = some (recD r) := by rw [items_slD]; simp [hr]
  have hx := of_ix' (z := 4) hi (recD_cells r) (k := .i64)
  have hsl : ∃ q, slD recD l = .sl q ∧ q[i]? = some (recD r) := by
    cases l with
    | nil => simp at hr
    | cons a l => exact ⟨_, rfl, by simpa [slD, itemsD] using hi⟩
  obtain ⟨q, hq, hqi⟩ := hsl
  rw [hq] at h
  unfold backAt backElem
  simp [runOps, wanted, evalK, eLoad, rd, get_eq, get_ne, readV, copy, slotIs, loadAt, h, V.part, copy1, ok, put, eMov, spent, eIndexAddr, eIndexAddrS, leI_d, hqi, recD_cells, recD, D.cells]
theorem bw_call {H : List Obj} {l : D} (hl : l.one = true) : callL pg 27 [.d l] H = some ⟨false, false, .fn 37 [] [.ptr H.length 0], H ++ [.cells [.d l]], H.length⟩ := by
  rw [callL_fn (fn := f_slices_Backward___api_Rec_api_Rec_) rfl rfl]
  have hc : V.cells (.d l) = [.d l] := cells_d1 hl
  simp only [f_slices_Backward___api_Rec_api_Rec_, argEnv_cons, Nat.zero_add, argEnv_nil, exL_seq, exL_ops, runOps_n, evalK_box, rd_t, get_eq, readV_d, spent_t, hc, ones_cons, vone_d, hl, ones_nil, Bool.and_self, boxN_f, opC_ok, put_ptr, evalK_mov, rd_c, spent_c, put_d, runOps_nil, thenC_nrm, evalK_mkFn, List.map_nil, List.map_cons, Nat.reduceEqDiff, get_ne, readV_ptr, oks_nil, oks_cons, ok_ptr, mkFnV_ok, put_fn, readV_fn, exL_ret, finC_ret, resultVs_cons, resultV_t, ownV_fn, resultVs_nil, consO_some, leaveC_1]
  rw [leave_new rfl (.inl (by simp [V.ref, V.ref.refs]))]
theorem take_snocR {α : Type} {l : List α} {i : Nat} {y : α} (h : l[i]? = some y) : l.take (i + 1) = l.take i ++ [y] := by
  rw [List.take_add_one, h]; rfl
theorem roundEnv_cons {n : Nat} {l : List Nat} {e : Env} : roundEnv (n :: l) e = (n, keepOk (get n e)) :: roundEnv l e := (rfl)
theorem roundEnv_nil {e : Env} : roundEnv [] e = [] := (rfl)
theorem keepOk_d {x : D} : keepOk (.d x) = .d x := (rfl)
theorem keepOk_ptr {i o : Nat} : keepOk (.ptr i o) = .ptr i o := (rfl)
theorem rounds_flds {H0 : List Obj} {oid bid n lo : Nat} {ob : Obj} {l : List RecE} (hob : H0[oid]? = some ob) (hbid : H0[bid]? = some (.cells [.d (slD recD l)])) (hne : (bid = oid) = False) (hlo : lo ≤ oid) (hl : ∀ r ∈ l, FsOk n r.fs) : ∀ (i : Nat) (acc M : List D6), i ≤ l.length → acc.length + 5 * i ≤ 100000 → P2 (FdA n) (acc.map e6) (M.map e6) → (∀ y ∈ acc, Fd n y.1) →
    ∃ acc', rounds (exL pg f_types_Fields_A1) (exL pg f_types_Fields_B1) ⟨4, true⟩ (.ptr bid 0) 23 24 [(4, .d .nil), (5, .d (.b false)), (8, .ptr oid 0)] i (setAt H0 oid (.cells [slV e6 acc])) lo
      = some (.nrm, ⟨[(4, .d .nil), (5, .d (.b false)), (8, .ptr oid 0)], setAt H0 oid (.cells [slV e6 acc']), lo⟩) ∧ P2 (FdA n) (acc'.map e6) ((M ++ (l.take i).reverse.flatMap fun r => dec6 r.fs).map e6) ∧ (∀ y ∈ acc', Fd n y.1) ∧ acc'.length ≤ acc.length + 5 * i
  | 0, acc, M, hi, hal, hp, ha => ⟨acc, rfl, by simpa using hp, ha, by omega⟩
  | i + 1, acc, M, hi, hal, hp, ha => by
    obtain ⟨r, hr⟩ : ∃ r, l[i]? = some r := ⟨l[i]'(by omega), by simp⟩
    obtain ⟨L, hL, hLl, hLy⟩ := hl r (List.mem_of_getElem? hr)
    have hone : (slD e6 L).one = true := by cases L <;> rfl
    have hb' : (setAt H0 oid (.cells [slV e6 acc]))[bid]? = some (.cells [.d (slD recD l)]) := by rw [setAt_ne hne]; exact hbid
    have hat := back_at (lo := lo) hb' hr (by rw [hL]; exact hone)
    obtain ⟨acc1, f1, f2, f3, f4⟩ := flds_loop hob hlo hLl hLy _ 0 acc M rfl (by omega) (by omega) hp ha
    rw [show ((0 : Nat) : Int) = 0 from rfl] at f1
    obtain ⟨acc', ih, ihp, iha, ihl⟩ := rounds_flds hob hbid hne hlo hl i acc1 (M ++ L) (by omega) (by omega) (by simpa using f2) f3
    obtain ⟨k0, nm, ex, base, fs⟩ := r
    simp only at hL
    subst hL
    have hlen := fun H => slD_len (e := e6) (L := L) H
    refine ⟨acc', ?_, ?_, iha, by omega⟩
    · rw [← ih]
      have hok : (V.d (recD ⟨k0, nm, ex, base, slD e6 L⟩)).ok = true := rfl
      simp only [rounds, hat, recD, ok_d, f_types_Fields_A1, exL_ops, runOps_n, evalK_allocL, List.map_cons, List.map_nil, opC_ok, put_box, killLp_cons, killV_d, killV_ptr, killLp_nil, evalK_store, rd_t, Nat.reduceEqDiff, get_ne, get_eq, readV_d, readV_box, spent_t, storeV_lp, cells_agg, List.length_cons, List.length_nil, Nat.zero_add, Nat.reduceAdd, ones_cons, vone_d, one_s, one_b, hone, ones_nil, Bool.and_self, storeB_box, setCells_all, storeR_some, put_none, runOps_nil, f_types_Fields_B1, exL_block, exL_seq, evalK_fieldAddr, faV_lp, okS_some, put_lp, evalK_load, readV_lp, loadV_lp, boxV_1, List.getElem?_cons_succ, List.getElem?_cons_zero, Option.map_some, copy1_d, put_d, evalK_lenL, hlen, evalK_mov, rd_c, spent_c, thenC_nrm, f_types_Fields_l0_in, keepV_ptr, keepV_d, f1, blockC_nrm, restrict_cons, restrict_nil]
      all_goals rfl
    · rw [take_snocR hr]
      simpa [dec6_slD] using ihp
theorem chF_mem {R : List RecE} : ∀ (n : Nat) (a : List Nat) (l : List RecE), chF R n a = some l → (∀ r ∈ l, r ∈ R) ∧ l.length ≤ n
  | 0, _, _, h => by cases h
  | n + 1, a, l, h => by
    simp only [chF] at h
    cases hr : findR a R with
    | none => rw [hr] at h; cases h
    | some r =>
      rw [hr] at h
      simp only at h
      split at h
      · cases h
        exact ⟨fun x hx => by simp at hx; subst hx; exact (findR_mem hr).1, by simp⟩
      · cases hq : chF R n r.base with
        | none => rw [hq] at h; cases h
        | some l' =>
          rw [hq] at h
          cases h
          obtain ⟨i1, i2⟩ := chF_mem n r.base l' hq
          exact ⟨fun x hx => by
            simp at hx
            rcases hx with rfl | hx
            · exact (findR_mem hr).1
            · exact i1 x hx, by simp; omega⟩
theorem FsOk.one {n : Nat} {fs : D} (h : FsOk n fs) : fs.one = true := by obtain ⟨L, rfl, _⟩ := h; cases L <;> rfl
theorem fields_call {H : List Obj} {R : List RecE} {id n : Nat} (hid : H[id]? = some (.map (esR R))) (hfs : ∀ r ∈ R, FsOk n r.fs) (hR : R.length ≤ 1000) {a : List Nat} (ha : a ≠ []) :
    ∃ x, callL pg 10 [.d (.s a), .map id] H = some ⟨false, true, resF x, H, H.length⟩ ∧ (match refFl R R.length a with
      | none => x = none
      | some M => ∃ L, x = some L ∧ P2 (FdA n) (L.map e6) (M.map e6) ∧ (∀ y ∈ L, Fd n y.1) ∧ L.length ≤ 10000) := by
  have hch := chain_call hid (fun r hr => (hfs r hr).one) hR ha
  rw [refFl_ch]
  rw [callL_fn (fn := f_types_Fields) rfl rfl]
  cases hc : chF R R.length a with
  | none =>
    rw [hc] at hch
    simp only [resCh] at hch
    refine ⟨none, ?_, rfl⟩
    simp only [f_types_Fields, argEnv_cons, Nat.zero_add, Nat.reduceAdd, argEnv_nil, exL_seq, exL_ops, runOps_n, evalK_mov, rd_c, spent_c, opC_ok, put_d, runOps_nil, thenC_nrm, rd_mv, reduceCtorEq, get_ne, get_eq, takeV_d, spent_mv, Nat.reduceEqDiff, takeV_map, put_map, evalK_call, List.map_cons, List.map_nil, allLeave_cons, leaves_d, leaves_map, allLeave_nil, Bool.and_self, eCall_f, hch, callC_some, spentAll_cons, spentAll_nil, Nat.min_self, put_tup, rd_t, readV_tup, spent_t, evalK_extract, extV_0, copy_d, okS_some, extV_1, readV_d, evalK_un, un_not, Bool.not_false, Option.map_some, exL_cond, condC_b, ↓reduceIte, exL_ret, thenC_ret, finC_ret, resultVs_cons, resultV_t, ownV_d, resultVs_nil, consO_some, leaveC_2, leaves_tup, oks_cons, ok_d, oks_nil, ref_tup, refs_cons, ref_d, refs_nil, Nat.max_self, settle_tup, leave_pure, resF]
    all_goals rfl
  | some l =>
    rw [hc] at hch
    simp only [resCh, List.nil_append] at hch
    obtain ⟨hm, hl⟩ := chF_mem _ _ _ hc
    have hone : (slD recD l).one = true := by cases l <;> rfl
    have hbw := fun H => bw_call (H := H) hone
    let H0 : List Obj := H ++ [.cells [.d .nil]] ++ [.cells [.d (slD recD l)]]
    have hob : H0[H.length]? = some (.cells [.d .nil]) := by simp [H0]
    have hbid : H0[H.length + 1]? = some (.cells [.d (slD recD l)]) := by simp [H0]
    obtain ⟨acc, f1, f2, f3, f4⟩ := rounds_flds (n := n) (lo := H.length) hob hbid (eq_false (by omega)) (Nat.le_refl _) (fun r hr => hfs r (hm r hr)) l.length [] [] (Nat.le_refl _) (by simp; omega) (by simpa using P2.nil) (fun y hy => by cases hy)
    rw [show setAt H0 H.length (.cells [slV e6 []]) = H0 from setAt_self hob] at f1
    have hbc := back_count (lo := H.length) hbid (by omega)
    have hrb : ∀ e : Env, get 22 e = .fn 37 [] [.ptr (H.length + 1) 0] → exL pg (.rangeB 37 ⟨4, true⟩ (.t 22) 23 24 [4, 5, 8] f_types_Fields_A1 f_types_Fields_B1) ⟨e, H0, H.length⟩ = rounds (exL pg f_types_Fields_A1) (exL pg f_types_Fields_B1) ⟨4, true⟩ (.ptr (H.length + 1) 0) 23 24 (roundEnv [4, 5, 8] e) l.length H0 H.length := by
      intro e he
      exact exL_rangeB (k' := 37) (by simp only [rd, he, readV]; rfl) rfl rfl hbc
    have hmn : min H.length (H.length + 1) = H.length := Nat.min_eq_left (by omega)
    have hg8 : (setAt H0 H.length (.cells [slV e6 acc]))[H.length]? = some (.cells [slV e6 acc]) := setAt_get hob
    refine ⟨some acc, ?_, ⟨acc, rfl, ?_, f3, by simp at f4; omega⟩⟩
    · simp only [H0] at hrb f1 hg8
      simp only [f_types_Fields, f_types_Fields_R2, argEnv_cons, Nat.zero_add, Nat.reduceAdd, argEnv_nil, exL_seq, exL_ops, runOps_n, evalK_mov, rd_c, spent_c, opC_ok, put_d, runOps_nil, thenC_nrm, rd_mv, reduceCtorEq, get_ne, get_eq, takeV_d, spent_mv, Nat.reduceEqDiff, takeV_map, put_map, evalK_call, List.map_cons, List.map_nil, allLeave_cons, leaves_d, leaves_map, allLeave_nil, Bool.and_self, eCall_f, hch, callC_some, spentAll_cons, spentAll_nil, Nat.min_self, put_tup, rd_t, readV_tup, spent_t, evalK_extract, extV_0, copy_d, okS_some, extV_1, readV_d, evalK_un, un_not, Bool.not_true, Option.map_some, exL_cond, condC_b, Bool.false_eq_true, ↓reduceIte, exL_skip, evalK_alloc, put_ptr, hbw, List.length_append, List.length_cons, List.length_nil, hmn, put_fn, exL_block, hrb, roundEnv_cons, keepOk_d, keepOk_ptr, roundEnv_nil, f1, blockC_nrm, restrict_cons, keepV_ptr, restrict_nil, evalK_load, readV_ptr, loadV_ptr, hg8, cellV_1, List.getElem?_cons_zero, copy1_slV, exL_ret, finC_ret, resultVs_cons, resultV_t, ownV_d, resultVs_nil, consO_some, leaveC_2, leaves_tup, oks_cons, ok_d, oks_nil, ref_tup, refs_cons, ref_d, refs_nil, Nat.max_self, settle_tup, leave_pure, resF]
      all_goals rfl
    · rw [List.take_length] at f2
      simpa using f2
end W

set_option linter.unusedSimpArgs false
set_option linter.unusedVariables false
namespace W
open Go (IntKind BinOp UnOp)
set_option maxRecDepth 20000
def sumA : List (Option Int) → Option Int
  | [] => some 0
  | x :: l => match x, sumA l with
    | some a, some b => some (a + b)
    | _, _ => none
def limW (x : Option Int) : Option Int := match x with | some n => if n ≤ 16384 then some n else none | none => none
def arrW (g : D → Option Int) (k : Int) (l : List D) : Option Int := match l with
  | [y] => (match g y with | some n => if n ≤ Int.tdiv 16384 k then some (n * k) else none | none => none)
  | _ => none
abbrev Ord := List Nat → Option (List D)
def recW (ord : Ord) (g : D → Option Int) (s : List Nat) : Option Int := match ord s with
  | none => none
  | some l => limW (sumA (l.map g))
def stepW (rt : D → Bool) (ord : Ord) (g : D → Option Int) (t : D) : Option Int :=
  if rt t = true then (match t with
    | .agg [.i _ f, .i _ k, .s s, o] => if f = 7 then arrW g k (itemsD o) else if f = 8 then recW ord g s else some 1
    | _ => none) else none
def wd (rt : D → Bool) (ord : Ord) : Nat → D → Option Int
  | 0, _ => none
  | h + 1, t => stepW rt ord (wd rt ord h) t
def GLe (g g' : D → Option Int) : Prop := ∀ t n, g t = some n → g' t = some n
theorem sumA_le {g g' : D → Option Int} (h : GLe g g') : ∀ (l : List D) (n : Int), sumA (l.map g) = some n → sumA (l.map g') = some n
  | [], n, hn => hn
  | t :: l, n, hn => by
    simp only [List.map_cons, sumA] at hn ⊢
    split at hn
    · rename_i a b h1 h2
      rw [h t a h1, sumA_le h l b h2]
      exact hn
    · cases hn
theorem recW_le {ord : Ord} {g g' : D → Option Int} (h : GLe g g') {s : List Nat} {n : Int} (hn : recW ord g s = some n) : recW ord g' s = some n := by
  unfold recW at hn ⊢
  split at hn
  · cases hn
  · rename_i l hl
    unfold limW at hn
    split at hn
    · rename_i m hm
      rw [sumA_le h l m hm]
      exact hn
    · cases hn
theorem stepW_le {rt : D → Bool} {ord : Ord} {g g' : D → Option Int} (h : GLe g g') : GLe (stepW rt ord g) (stepW rt ord g') := by
  intro t n hn
  unfold stepW at hn ⊢
  split at hn
  · rename_i hr
    rw [if_pos hr]
    split at hn
    · rename_i f k s o
      split at hn
      · rename_i h7
        (try simp only)
        rw [if_pos h7]
        unfold arrW at hn ⊢
        split at hn
        · rename_i y hy
          split at hn
          · rename_i m hm
            simp only [h y m hm]
            exact hn
          · cases hn
        · cases hn
      · rename_i h7
        (try simp only)
        rw [if_neg h7]
        split at hn
        · rename_i h8
          rw [if_pos h8]
          exact recW_le h hn
        · rename_i h8
          rw [if_neg h8]
          exact hn
    · cases hn
  · cases hn
theorem wd_succ {rt : D → Bool} {ord : Ord} : ∀ h, GLe (wd rt ord h) (wd rt ord (h + 1))
  | 0 => fun t n hn => by cases hn
  | h + 1 => stepW_le (wd_succ h)
theorem wd_le {rt : D → Bool} {ord : Ord} {h h' : Nat} (hh : h ≤ h') : GLe (wd rt ord h) (wd rt ord h') := by
  induction hh with
  | refl => exact fun t n hn => hn
  | step _ ih => exact fun t n hn => wd_succ _ t n (ih t n hn)
theorem sumA_perm {l l' : List (Option Int)} (h : l.Perm l') : sumA l = sumA l' := by
  induction h with
  | nil => rfl
  | cons x _ ih => simp only [sumA, ih]
  | swap x y l =>
    simp only [sumA]
    cases x <;> cases y <;> cases sumA l <;> simp [Int.add_left_comm]
  | trans _ _ h1 h2 => exact h1.trans h2
def OrdEq (o o' : Ord) : Prop := ∀ s, (o s = none ∧ o' s = none) ∨ ∃ l l', o s = some l ∧ o' s = some l' ∧ l.Perm l'
theorem OrdEq.symm {o o' : Ord} (h : OrdEq o o') : OrdEq o' o := fun s => by
  rcases h s with ⟨h1, h2⟩ | ⟨l, l', h1, h2, h3⟩
  · exact .inl ⟨h2, h1⟩
  · exact .inr ⟨l', l, h2, h1, h3.symm⟩
theorem wd_ord {rt : D → Bool} {o o' : Ord} (h : OrdEq o o') : ∀ k, wd rt o k = wd rt o' k
  | 0 => rfl
  | k + 1 => by
    have ih := wd_ord (rt := rt) h k
    funext t
    simp only [wd, ih]
    have hr : ∀ s, recW o (wd rt o' k) s = recW o' (wd rt o' k) s := fun s => by
      unfold recW
      rcases h s with ⟨h1, h2⟩ | ⟨l, l', h1, h2, h3⟩
      · rw [h1, h2]
      · rw [h1, h2]
        simp only [sumA_perm (h3.map _)]
    unfold stepW
    simp only [hr]
abbrev Memo := List (List Nat × Int)
def lookM (s : List Nat) : Memo → Option Int
  | [] => none
  | (k, v) :: m => if s = k then some v else lookM s m
def setM (s : List Nat) (v : Int) : Memo → Memo
  | [] => [(s, v)]
  | (k, w) :: m => if s = k then (k, v) :: m else (k, w) :: setM s v m
theorem lookM_set (s s' : List Nat) (v : Int) : ∀ m : Memo, lookM s' (setM s v m) = if s' = s then some v else lookM s' m
  | [] => by simp [setM, lookM]
  | (k, w) :: m => by
    have ih := lookM_set s s' v m
    simp only [setM]
    by_cases h : s = k
    · subst h
      simp only [if_true, lookM]
      by_cases h2 : s' = s <;> simp [h2]
    · simp only [if_neg h, lookM, ih]
      by_cases h2 : s' = k
      · subst h2
        have : ¬ s' = s := fun e => h e.symm
        simp [this]
      · simp [h2]
inductive Tsk where
  | ty (t : D)
  | sum (n : Int) (l : List D)
inductive Ev (rt : D → Bool) (ord : Ord) : Memo → Tsk → Memo → Int → Prop
  | bad {m : Memo} {t : D} (h : rt t = false) : Ev rt ord m (.ty t) m (-1)
  | arrNo {m m' : Memo} {k : Int} {s : List Nat} {o y : D} {n : Int} (hr : rt (.agg [.i .i64 7, .i .i64 k, .s s, o]) = true) (hy : itemsD o = [y]) (h : Ev rt ord m (.ty y) m' n) (hn : n < 0 ∨ Int.tdiv 16384 k < n) : Ev rt ord m (.ty (.agg [.i .i64 7, .i .i64 k, .s s, o])) m' (-1)
  | arr {m m' : Memo} {k : Int} {s : List Nat} {o y : D} {n : Int} (hr : rt (.agg [.i .i64 7, .i .i64 k, .s s, o]) = true) (hy : itemsD o = [y]) (h : Ev rt ord m (.ty y) m' n) (h0 : 0 ≤ n) (hn : n ≤ Int.tdiv 16384 k) : Ev rt ord m (.ty (.agg [.i .i64 7, .i .i64 k, .s s, o])) m' (n * k)
  | one {m : Memo} {f k : Int} {s : List Nat} {o : D} (hr : rt (.agg [.i .i64 f, .i .i64 k, .s s, o]) = true) (h7 : f ≠ 7) (h8 : f ≠ 8) : Ev rt ord m (.ty (.agg [.i .i64 f, .i .i64 k, .s s, o])) m 1
  | memo {m : Memo} {k : Int} {s : List Nat} {o : D} {v : Int} (hr : rt (.agg [.i .i64 8, .i .i64 k, .s s, o]) = true) (hl : lookM s m = some v) : Ev rt ord m (.ty (.agg [.i .i64 8, .i .i64 k, .s s, o])) m v
  | noCh {m : Memo} {k : Int} {s : List Nat} {o : D} (hr : rt (.agg [.i .i64 8, .i .i64 k, .s s, o]) = true) (hl : lookM s m = none) (ho : ord s = none) : Ev rt ord m (.ty (.agg [.i .i64 8, .i .i64 k, .s s, o])) (setM s (-1) m) (-1)
  | recNo {m m' : Memo} {k : Int} {s : List Nat} {o : D} {l : List D} {r : Int} (hr : rt (.agg [.i .i64 8, .i .i64 k, .s s, o]) = true) (hl : lookM s m = none) (ho : ord s = some l) (h : Ev rt ord (setM s (-1) m) (.sum 0 l) m' r) (hn : r < 0) : Ev rt ord m (.ty (.agg [.i .i64 8, .i .i64 k, .s s, o])) m' (-1)
  | recOk {m m' : Memo} {k : Int} {s : List Nat} {o : D} {l : List D} {r : Int} (hr : rt (.agg [.i .i64 8, .i .i64 k, .s s, o]) = true) (hl : lookM s m = none) (ho : ord s = some l) (h : Ev rt ord (setM s (-1) m) (.sum 0 l) m' r) (hn : 0 ≤ r) : Ev rt ord m (.ty (.agg [.i .i64 8, .i .i64 k, .s s, o])) (setM s r m') r
  | sumNil {m : Memo} {n : Int} : Ev rt ord m (.sum n []) m n
  | sumNo {m m' : Memo} {n k : Int} {t : D} {l : List D} (h : Ev rt ord m (.ty t) m' k) (hk : k < 0 ∨ 16384 < n + k) : Ev rt ord m (.sum n (t :: l)) m' (-1)
  | sumCons {m m' m'' : Memo} {n k r : Int} {t : D} {l : List D} (h : Ev rt ord m (.ty t) m' k) (h0 : 0 ≤ k) (hk : n + k ≤ 16384) (h2 : Ev rt ord m' (.sum (n + k) l) m'' r) : Ev rt ord m (.sum n (t :: l)) m'' r
def InvM (rt : D → Bool) (ord : Ord) (m : Memo) : Prop := ∀ s v, lookM s m = some v → 0 ≤ v → ∃ h, recW ord (wd rt ord h) s = some v
theorem InvM.neg {rt : D → Bool} {ord : Ord} {m : Memo} (h : InvM rt ord m) (s : List Nat) : InvM rt ord (setM s (-1) m) := by
  intro s' v hl hv
  rw [lookM_set] at hl
  split at hl
  · cases hl; omega
  · exact h s' v hl hv
theorem InvM.set {rt : D → Bool} {ord : Ord} {m : Memo} (h : InvM rt ord m) {s : List Nat} {r : Int} {k : Nat} (hr : recW ord (wd rt ord k) s = some r) : InvM rt ord (setM s r m) := by
  intro s' v hl hv
  rw [lookM_set] at hl
  split at hl
  · rename_i e
    cases hl
    exact ⟨k, e ▸ hr⟩
  · exact h s' v hl hv
def Snd (rt : D → Bool) (ord : Ord) : Tsk → Int → Prop
  | .ty t, r => ∃ h, wd rt ord h t = some r
  | .sum n l, r => ∃ h k, sumA (l.map (wd rt ord h)) = some k ∧ r = n + k ∧ (n ≤ 16384 → r ≤ 16384)
theorem Ev.sound {rt : D → Bool} {ord : Ord} {m m' : Memo} {T : Tsk} {r : Int} (h : Ev rt ord m T m' r) : InvM rt ord m → 0 ≤ r → InvM rt ord m' ∧ Snd rt ord T r := by
  induction h with
  | bad h => intro _ h; omega
  | arrNo => intro _ h; omega
  | @arr m m' k s o y n hr hy h h0 hn ih =>
    intro hi _
    obtain ⟨i1, q, hq⟩ := ih hi h0
    refine ⟨i1, q + 1, ?_⟩
    simp only [wd, stepW, hr, if_true, hy, arrW, hq, if_pos hn]
  | @one m f k s o hr h7 h8 =>
    intro hi _
    refine ⟨hi, 1, ?_⟩
    simp only [wd, stepW, hr, if_true, if_neg h7, if_neg h8]
  | @memo m k s o v hr hl =>
    intro hi hv
    obtain ⟨q, hq⟩ := hi s v hl hv
    refine ⟨hi, q + 1, ?_⟩
    simp only [wd, stepW, hr, if_true, hq]
    simp
  | noCh => intro _ h; omega
  | recNo => intro _ h; omega
  | @recOk m m' k s o l r hr hl ho h hn ih =>
    intro hi h0
    obtain ⟨i1, q, z, h1, h2, h3⟩ := ih (hi.neg s) h0
    have hz : z = r := by omega
    subst hz
    have hrec : recW ord (wd rt ord q) s = some z := by
      simp only [recW, ho, h1, limW, if_pos (h3 (by omega))]
    refine ⟨i1.set hrec, q + 1, ?_⟩
    simp only [wd, stepW, hr, if_true, hrec]
    simp
  | sumNil => intro hi _; exact ⟨hi, 0, 0, rfl, by omega, id⟩
  | sumNo => intro _ h; omega
  | @sumCons m m' m'' n k r t l h h0 hk h2 ih1 ih2 =>
    intro hi hr
    obtain ⟨i1, q, hq⟩ := ih1 hi h0
    obtain ⟨i2, p, z, e1, e2, e3⟩ := ih2 i1 hr
    refine ⟨i2, max q p, k + z, ?_, by omega, fun _ => e3 hk⟩
    simp only [List.map_cons, sumA, wd_le (Nat.le_max_left q p) t k hq, sumA_le (wd_le (Nat.le_max_right q p)) l z e1]
end W

