/-
  TypesChain: of records that extend one another, each extends just those ahead of it, for every three bytes.: part 5 of what the proof rests on (a value semantics for a part of the language, sound against the model; the walks).
-/
import Derived.Test.YtbdngljblileeaaDoorW4
/-
  What an operation looks at, and what it changes: those that change something.
-/
set_option linter.unusedSimpArgs false
set_option linter.unusedVariables false
namespace W
open Go (IntKind BinOp UnOp)

variable {st st2 : St} {r : Or}

theorem ones_noLp {v : V} (h : ∀ m o, v ≠ .lp m o) (n k : Nat) (e : Env) : noLp n ((k, v) :: e) = noLp n e := by
  cases v <;> first | rfl | exact absurd rfl (h _ _)

theorem f_mov {x : O} (h : eMov x st = some r) (e1 : rd st2.env x = rd st.env x) : ∃ r2, eMov x st2 = some r2 ∧ Fr (.mov x) st st2 r r2 := by
  simp only [eMov, ok, Option.some.injEq] at h ⊢
  subst h
  refine ⟨_, rfl, ?_⟩
  rw [e1]
  exact fr_spent (l := [x]) rfl (fun _ _ => ⟨rfl, rfl⟩) (fun h => h)

theorem f_alloc {loc : Bool} {z : List D} (h : eAlloc loc z st = some r) (eH : (!loc) = true → st2.H = st.H) : ∃ r2, eAlloc loc z st2 = some r2 ∧ Fr (.alloc loc z) st st2 r r2 := by
  cases loc with
  | true =>
    simp only [eAlloc, cond_true] at h ⊢
    obtain ⟨h1, h2⟩ := mk_pure (st2 := st2) h
    exact ⟨_, h2, fr_pure h1 rfl (fun s hs => by cases hs)⟩
  | false =>
    simp only [eAlloc, cond_false, okH, Option.some.injEq] at h ⊢
    subst h
    have e := eH rfl
    refine ⟨_, rfl, rfl, rfl, by rw [e], fun s hs => (by cases hs), fun s _ => rfl, fun s _ => rfl, fun h => (by cases h), fun _ => by rw [e], fun n => rfl, fun n => rfl⟩

theorem f_box {loc : Bool} {x : O} (h : eBox loc x st = some r) (e1 : rd st2.env x = rd st.env x) (eH : (!loc) = true → st2.H = st.H) : ∃ r2, eBox loc x st2 = some r2 ∧ Fr (.box loc x) st st2 r r2 := by
  simp only [eBox] at h ⊢
  rw [e1]
  split at h
  · cases h
  · rename_i hv
    (try rw [if_neg hv])
    cases loc with
    | true =>
      simp only [cond_true, ok, Option.some.injEq] at h ⊢
      subst h
      exact ⟨_, rfl, fr_spent (l := [x]) rfl (fun _ _ => ⟨rfl, rfl⟩) (fun h => h)⟩
    | false =>
      simp only [cond_false] at h ⊢
      split at h
      · rename_i hv2
        (try rw [if_pos hv2])
        simp only [okH, Option.some.injEq] at h ⊢
        subst h
        have e := eH rfl
        rw [e]
        exact ⟨_, rfl, fr_spent (l := [x]) rfl (fun h => by cases h) (fun h => rfl)⟩
      · cases h

theorem f_mkMap (h : eMkMap st = some r) (eH : st2.H = st.H) : ∃ r2, eMkMap st2 = some r2 ∧ Fr .mkMap st st2 r r2 := by
  simp only [eMkMap, okH, Option.some.injEq] at h ⊢
  subst h
  refine ⟨_, rfl, rfl, rfl, by rw [eH], fun s hs => (by cases hs), fun s _ => rfl, fun s _ => rfl, fun h => (by cases h), fun _ => by rw [eH], fun n => rfl, fun n => rfl⟩

theorem f_mkSlice {z : D} {a b : O} (h : eMkSlice z a b st = some r) (e1 : rd st2.env a = rd st.env a) (e2 : rd st2.env b = rd st.env b) (eH : st2.H = st.H) : ∃ r2, eMkSlice z a b st2 = some r2 ∧ Fr (.mkSlice z a b) st st2 r r2 := by
  unfold eMkSlice at h ⊢
  rw [e1, e2]
  split at h
  · rename_i hz1 hz2; (try simp only [hz1, hz2])
    split at h
    · rename_i hw; (try simp only [hw])
      split at h
      · rename_i hq; (try simp only [hq, if_true])
        simp only [okH, Option.some.injEq] at h
        subst h
        (try rw [if_pos hw])
        refine ⟨_, rfl, rfl, rfl, by rw [eH, hq], fun s hs => (by cases hs), fun s _ => rfl, fun s _ => rfl, fun h => (by cases h), fun _ => by rw [eH, hq], fun n => rfl, fun n => rfl⟩
      · cases h
    · cases h
  · cases h

theorem f_buildRow {z : D} {n : Nat} {p : List (Nat × O)} (h : eBuildRow z n p st = some r) (e : (p.map fun (j, x) => (j, rd st2.env x)) = (p.map fun (j, x) => (j, rd st.env x))) (eH : st2.H = st.H) : ∃ r2, eBuildRow z n p st2 = some r2 ∧ Fr (.buildRow z n p) st st2 r r2 := by
  unfold eBuildRow at h ⊢
  rw [e]
  split at h
  · rename_i xs hz; (try simp only [hz])
    split at h
    · rename_i hw
      (try rw [if_pos hw])
      simp only [okH, Option.some.injEq] at h
      subst h
      refine ⟨_, rfl, rfl, rfl, by rw [eH], fun s hs => (by cases hs), fun s _ => rfl, fun s _ => rfl, fun h => (by cases h), fun _ => by rw [eH], fun n => rfl, fun n => rfl⟩
    · cases h
  · cases h

theorem f_mapUpdate {kk : Nat} {m k x : O} (h : eMapUpdate kk m k x st = some r) (e1 : rd st2.env m = rd st.env m) (e2 : rd st2.env k = rd st.env k) (e3 : rd st2.env x = rd st.env x) (eH : st2.H = st.H) :
    ∃ r2, eMapUpdate kk m k x st2 = some r2 ∧ Fr (.mapUpdate kk m k x) st st2 r r2 := by
  unfold eMapUpdate at h ⊢
  rw [e1, e2, e3, eH]
  split at h
  · rename_i hz1 hz2; (try simp only [hz1, hz2])
    split at h
    · rename_i hw; (try simp only [hw])
      simp only at h
      split at h
      · rename_i hq
        (try rw [if_pos hq])
        split at h
        · rename_i hq2; (try simp only [hq2])
          simp only [okH, Option.some.injEq] at h
          subst h
          exact ⟨_, rfl, fr_spent (l := [x]) rfl (fun h => by cases h) (fun _ => rfl)⟩
        · cases h
      · cases h
    · cases h
  · cases h

theorem f_call {call : Call} (hc : CallLo call) {f : O} {l : List O} (h : eCall call f l st = some r) (e1 : rd st2.env f = rd st.env f) (e2 : l.map (rd st2.env) = l.map (rd st.env)) (eH : st2.H = st.H) :
    ∃ r2, eCall call f l st2 = some r2 ∧ Fr (.call f l) st st2 r r2 := by
  unfold eCall at h ⊢
  rw [e1, e2, eH]
  split at h
  · rename_i hz; (try simp only [hz])
    simp only at h ⊢
    split at h
    · rename_i hw
      (try rw [if_pos hw])
      split at h
      · rename_i q hq; (try simp only [hq])
        simp only [Option.some.injEq] at h
        subst h
        have hs := (hc _ _ _ _ hq).2.2
        exact ⟨_, rfl, fr_spent (l := l) rfl (fun _ hh => ⟨hs hh, by rw [eH]; exact hs hh⟩) (fun _ => rfl)⟩
      · cases h
    · cases h
  · cases h

theorem mvs_slots : ∀ {l : List O} {s : Nat}, s ∈ mvsOf l → s ∈ oSlots l
  | .mv n :: l, s, h => by
    simp only [mvsOf, oSlots, List.mem_cons] at h ⊢
    exact h.imp id mvs_slots
  | .t n :: l, s, h => by
    simp only [oSlots, List.mem_cons]
    exact .inr (mvs_slots (l := l) h)
  | .c _ :: l, s, h => mvs_slots (l := l) h
  | .f _ :: l, s, h => mvs_slots (l := l) h
  | .g _ _ :: l, s, h => mvs_slots (l := l) h

theorem mvs_cons (x : O) (l : List O) : mvsOf (x :: l) = mvsOf [x] ++ mvsOf l := by cases x <;> rfl

theorem f_append {size bytes : Nat} {x y : O} (h : eAppend size bytes x y st = some r) (e1 : rd st2.env x = rd st.env x) (e2 : rd st2.env y = rd st.env y) (hy : ∀ s, s ∈ mvsOf [y] → get s st2.env = get s st.env) :
    ∃ r2, eAppend size bytes x y st2 = some r2 ∧ Fr (.bi (.append size bytes) [x, y]) st st2 r r2 := by
  unfold eAppend at h ⊢
  rw [e1, e2]
  split at h
  · rename_i hz; (try simp only [hz])
    simp only [ok, Option.some.injEq] at h
    subst h
    have hW : ∀ s, s ∈ (OpK.bi (.append size bytes) [x, y]).boxW ↔ s ∈ mvsOf [x] ∨ s ∈ mvsOf [y] := fun s => by
      show s ∈ mvsOf [x, y] ↔ _
      rw [mvs_cons]; simp
    refine ⟨_, rfl, rfl, rfl, rfl, fun s hs => ?_, fun s hs => ?_, fun s hs => ?_, fun _ _ => ⟨rfl, rfl⟩, fun h => h, fun n => noLp_spent n x _, fun n => noLp_spent n x _⟩
    · show get s (spent x st2.env) = get s (spent x st.env)
      rw [get_spent, get_spent]
      split
      · rfl
      · rename_i hx
        exact hy s (((hW s).1 hs).resolve_left hx)
    · rw [hW, not_or] at hs
      show get s (spent x st.env) = _
      rw [get_spent, if_neg hs.1]
    · rw [hW, not_or] at hs
      show get s (spent x st2.env) = _
      rw [get_spent, if_neg hs.1]
  · cases h

theorem f_load {sl : Option Nat} {l : L} {a : O} (h : eLoad false sl l a st = some r) (e1 : rd st2.env a = rd st.env a) (e2 : ∀ s, sl = some s → get s st2.env = get s st.env) (eH : sl.isNone = true → st2.H = st.H) :
    ∃ r2, eLoad false sl l a st2 = some r2 ∧ Fr (.load false sl l a) st st2 r r2 := by
  unfold eLoad at h ⊢
  rw [e1]
  cases hs : slotIs sl (rd st.env a) with
  | false => rw [hs] at h; simp at h
  | true =>
    rw [hs] at h
    simp only [Bool.not_true, cond_false] at h ⊢
    have key : ∀ v, loadAt l st (rd st.env a) = some v → loadAt l st2 (rd st.env a) = some v := by
      intro v hv
      unfold loadAt at hv ⊢
      split at hv
      · rename_i s off hz
        have hsl : sl = some s := by
          rw [hz] at hs
          cases sl with
          | none => simp [slotIs] at hs
          | some n => exact congrArg some (by simpa [slotIs] using hs)
        rw [e2 s hsl]; exact hv
      · exact hv
      · rename_i id off hz
        have hsl : sl.isNone = true := by
          rw [hz] at hs
          cases sl with
          | none => rfl
          | some n => simp [slotIs] at hs
        rw [eH hsl]; exact hv
      · cases hv
    split at h
    · rename_i v hv
      rw [key v hv]
      obtain ⟨h1, h2⟩ := mk_pure (st2 := st2) h
      exact ⟨_, h2, fr_pure h1 rfl (fun s hs => by cases hs)⟩
    · cases h

theorem f_boxset {k : OpK} {s : Nat} {l : List O} {cs : List V} {v : V} {same pan : Bool} (hW : ∀ n, n ∈ k.boxW ↔ n = s ∨ n ∈ mvsOf l) :
    Fr k st st2 ⟨pan, same, v, { st with env := (s, .box cs) :: spentAll l st.env }⟩ ⟨pan, same, v, { st2 with env := (s, .box cs) :: spentAll l st2.env }⟩ := by
  refine ⟨rfl, rfl, rfl, fun n hn => ?_, fun n hn => ?_, fun n hn => ?_, fun _ _ => ⟨rfl, rfl⟩, fun h => h, fun n => noLp_spentAll n l _, fun n => noLp_spentAll n l _⟩
  · rw [hW] at hn
    simp only [get_cons, get_spentAll]
    rcases hn with h | h
    · simp [h]
    · simp [h]
  · rw [hW, not_or] at hn
    simp only [get_cons, get_spentAll, hn.1, hn.2, if_false]
  · rw [hW, not_or] at hn
    simp only [get_cons, get_spentAll, hn.1, hn.2, if_false]

theorem f_loadMv {sl : Option Nat} {l : L} {a : O} (h : eLoad true sl l a st = some r) (e1 : rd st2.env a = rd st.env a) (e2 : ∀ s, sl = some s → get s st2.env = get s st.env) (eH : sl.isNone = true → st2.H = st.H) :
    ∃ r2, eLoad true sl l a st2 = some r2 ∧ Fr (.load true sl l a) st st2 r r2 := by
  unfold eLoad at h ⊢
  rw [e1]
  cases hs : slotIs sl (rd st.env a) with
  | false => rw [hs] at h; simp at h
  | true =>
    rw [hs] at h
    simp only [Bool.not_true, cond_false, cond_true] at h ⊢
    cases hl : l.agg with
    | true => rw [hl] at h; simp at h
    | false =>
      rw [hl] at h
      simp only [cond_false] at h ⊢
      split at h
      · rename_i v st' hst
        unfold loadMv at hst ⊢
        split at hst
        · rename_i s off hz
          have hsl : sl = some s := by
            rw [hz] at hs
            cases sl with
            | none => simp [slotIs] at hs
            | some n => exact congrArg some (by simpa [slotIs] using hs)
          subst hsl
          rw [e2 s rfl]
          split at hst
          · rename_i cs hb
            split at hst
            · rename_i v' hc
              simp only [Option.some.injEq, Prod.mk.injEq] at hst
              obtain ⟨rfl, rfl⟩ := hst
              simp only [ok, Option.some.injEq] at h ⊢
              subst h
              exact ⟨_, rfl, f_boxset (l := []) (fun n => by simp [OpK.boxW, mvsOf])⟩
            · cases hst
          · cases hst
        · rename_i id off hz
          have hsl : sl = none := by
            rw [hz] at hs
            cases sl with
            | none => rfl
            | some n => simp [slotIs] at hs
          subst hsl
          rw [eH rfl]
          split at hst
          · rename_i cs hb
            split at hst
            · rename_i v' hc
              simp only [Option.some.injEq, Prod.mk.injEq] at hst
              obtain ⟨rfl, rfl⟩ := hst
              simp only [okH, Option.some.injEq] at h ⊢
              subst h
              exact ⟨_, rfl, rfl, rfl, rfl, fun s hs => (by cases hs), fun s _ => rfl, fun s _ => rfl, fun h => (by cases h), fun _ => rfl, fun n => rfl, fun n => rfl⟩
            · cases hst
          · cases hst
        · cases hst
      · cases h

theorem f_store {sl : Option Nat} {l : L} {a x : O} (h : eStore sl l a x st = some r) (e1 : rd st2.env a = rd st.env a) (e3 : rd st2.env x = rd st.env x) (e2 : ∀ s, sl = some s → get s st2.env = get s st.env) (eH : sl.isNone = true → st2.H = st.H) :
    ∃ r2, eStore sl l a x st2 = some r2 ∧ Fr (.store sl l a x) st st2 r r2 := by
  unfold eStore at h ⊢
  rw [e1, e3]
  cases hs : slotIs sl (rd st.env a) with
  | false => rw [hs] at h; simp at h
  | true =>
    rw [hs] at h
    simp only [Bool.not_true, cond_false] at h ⊢
    split at h
    · rename_i st' hst
      unfold storeAt at hst ⊢
      split at hst
      · rename_i s off hz
        have hsl : sl = some s := by
          rw [hz] at hs
          cases sl with
          | none => simp [slotIs] at hs
          | some n => exact congrArg some (by simpa [slotIs] using hs)
        subst hsl
        have e4 : get s (spent x st2.env) = get s (spent x st.env) := by rw [get_spent, get_spent, e2 s rfl]
        simp only [e4]
        split at hst
        · rename_i cs hb
          split at hst
          · rename_i hc
            (try rw [if_pos hc])
            split at hst
            · rename_i cs' hset
              simp only [Option.some.injEq] at hst
              subst hst
              (try simp only [hb, if_pos hc, hset])
              simp only [ok, Option.some.injEq] at h ⊢
              subst h
              exact ⟨_, rfl, f_boxset (l := [x]) (fun n => by simp [OpK.boxW])⟩
            · cases hst
          · cases hst
        · cases hst
      · rename_i id off hz
        have hsl : sl = none := by
          rw [hz] at hs
          cases sl with
          | none => rfl
          | some n => simp [slotIs] at hs
        subst hsl
        simp only [eH rfl]
        split at hst
        · rename_i cs hb
          split at hst
          · rename_i hc
            (try rw [if_pos hc])
            split at hst
            · rename_i cs' hset
              simp only [Option.some.injEq] at hst
              subst hst
              (try simp only [hb, if_pos hc, hset])
              simp only [okH, Option.some.injEq] at h ⊢
              subst h
              exact ⟨_, rfl, fr_spent (l := [x]) rfl (fun h => by cases h) (fun _ => rfl)⟩
            · cases hst
          · cases hst
        · cases hst
      · cases hst
    · cases h

theorem p_lenS {x : O} (h : eLenS x st = some r) (e1 : rd st2.env x = rd st.env x) : r.st = st ∧ eLenS x st2 = some { r with st := st2 } := by
  unfold eLenS at h ⊢; rw [e1]
  split at h
  · rename_i hz; (try simp only [hz]); exact mk_pure h
  · cases h
theorem p_lenL {x : O} (h : eLenL x st = some r) (e1 : rd st2.env x = rd st.env x) : r.st = st ∧ eLenL x st2 = some { r with st := st2 } := by
  unfold eLenL at h ⊢; rw [e1]
  split at h
  · rename_i hz; (try simp only [hz])
    split at h
    · rename_i hw; (try simp only [hw]); exact mk_pure h
    · cases h
  · rename_i hz; (try simp only [hz]); exact mk_pure h
  · cases h
theorem p_lenM {x : O} (h : eLenM x st = some r) (e1 : rd st2.env x = rd st.env x) (eH : st2.H = st.H) : r.st = st ∧ eLenM x st2 = some { r with st := st2 } := by
  unfold eLenM at h ⊢; rw [e1, eH]
  split at h
  · rename_i hz; (try simp only [hz]); exact mk_pure h
  · rename_i hz; (try simp only [hz])
    split at h
    · rename_i hw; (try simp only [hw]); exact mk_pure h
    · cases h
  · cases h

theorem parts_congr {e e2 : Env} : ∀ {p : List (Nat × Nat × O)}, (∀ s, s ∈ oSlots (p.map (·.2.2)) → get s e2 = get s e) → (p.map fun (o, s, x) => (o, s, rd e2 x)) = (p.map fun (o, s, x) => (o, s, rd e x))
  | [], _ => rfl
  | (o, n, x) :: l, h => by
    simp only [List.map_cons] at h ⊢
    rw [oSlots_cons] at h
    rw [rd_congr (fun s hs => h s (by simp [hs])), parts_congr (fun s hs => h s (by simp [hs]))]
theorem partsS_congr {e e2 : Env} : ∀ {p : List (Nat × O)}, (∀ s, s ∈ oSlots (p.map (·.2)) → get s e2 = get s e) → (p.map fun (j, x) => (j, rd e2 x)) = (p.map fun (j, x) => (j, rd e x))
  | [], _ => rfl
  | (o, x) :: l, h => by
    simp only [List.map_cons] at h ⊢
    rw [oSlots_cons] at h
    rw [rd_congr (fun s hs => h s (by simp [hs])), partsS_congr (fun s hs => h s (by simp [hs]))]

/-- An operation in two states that agree on what it looks at. -/
theorem fr_evalK {call : Call} (hc : CallLo call) {k : OpK} (h : evalK call k st = some r) (hs : Sees k st.env st2.env) (hH : k.looks = true → st2.H = st.H) : ∃ r2, evalK call k st2 = some r2 ∧ Fr k st st2 r r2 := by
  have s1 : ∀ {x : O} {l l' : List O}, k.rds = l ++ x :: l' → rd st2.env x = rd st.env x := fun {x l l'} e => rd_congr (fun s hs' => hs s (.inl (by rw [e, oSlots_append, oSlots_cons]; simp [hs'])))
  have pure : ∀ {f : St → Option Or}, evalK call k = f → (r.st = st ∧ f st2 = some { r with st := st2 }) → (∀ s, s ∈ k.boxW → get s st2.env = get s st.env) → ∃ r2, evalK call k st2 = some r2 ∧ Fr k st st2 r r2 := fun hf ⟨h1, h2⟩ hW => ⟨_, by rw [hf]; exact h2, fr_pure h1 rfl hW⟩
  have nW : ∀ {s : Nat}, s ∈ ([] : List Nat) → get s st2.env = get s st.env := fun h => by cases h
  cases k with
  | mov x => exact f_mov h (s1 (l := []) rfl)
  | pick c a b => exact pure rfl (p_pick h (s1 (l := []) rfl) (s1 (l := [c]) rfl) (s1 (l := [c, a]) rfl)) (fun s h => nW h)
  | alloc loc z => exact f_alloc h hH
  | box loc x => exact f_box h (s1 (l := []) rfl) hH
  | build z p => exact pure rfl (p_build h (parts_congr fun s h => hs s (.inl h))) (fun s h => nW h)
  | buildSlice z n p => exact pure rfl (p_buildSlice h (partsS_congr fun s h => hs s (.inl h))) (fun s h => nW h)
  | load mv sl l a =>
    have e2 : ∀ s, sl = some s → get s st2.env = get s st.env := fun s e => hs s (.inr (by subst e; simp [OpK.boxR]))
    cases mv with
    | false => exact f_load h (s1 (l := []) rfl) e2 hH
    | true => exact f_loadMv h (s1 (l := []) rfl) e2 hH
  | store sl l a x => exact f_store h (s1 (l := []) rfl) (s1 (l := [a]) rfl) (fun s e => hs s (.inr (by subst e; simp [OpK.boxR]))) hH
  | nilCheck x => exact pure rfl (p_nilCheck h (s1 (l := []) rfl)) (fun s h => nW h)
  | bin op kd x y => exact pure rfl (p_bin h (s1 (l := []) rfl) (s1 (l := [x]) rfl)) (fun s h => nW h)
  | un op x => exact pure rfl (p_un h (s1 (l := []) rfl)) (fun s h => nW h)
  | conv k x => exact pure rfl (p_conv h (s1 (l := []) rfl)) (fun s h => nW h)
  | bytes x => exact pure rfl (p_bytes h (s1 (l := []) rfl)) (fun s h => nW h)
  | text x => exact pure rfl (p_text h (s1 (l := []) rfl) (hH rfl)) (fun s h => nW h)
  | movS x => exact pure rfl (p_movS h (s1 (l := []) rfl)) (fun s h => nW h)
  | mkIfc t x => exact pure rfl (p_mkIfc h (s1 (l := []) rfl)) (fun s h => nW h)
  | mkFn f a b => exact pure rfl (p_mkFn h (rds_congr fun s h => hs s (.inl (by show s ∈ oSlots (a ++ b); rw [oSlots_append]; simp [h]))) (rds_congr fun s h => hs s (.inl (by show s ∈ oSlots (a ++ b); rw [oSlots_append]; simp [h])))) (fun s h => nW h)
  | mkMap => exact f_mkMap h (hH rfl)
  | mkSlice z a b => exact f_mkSlice h (s1 (l := []) rfl) (s1 (l := [a]) rfl) (hH rfl)
  | buildRow z n p => exact f_buildRow h (partsS_congr fun s h => hs s (.inl h)) (hH rfl)
  | assertOk t z x => exact pure rfl (p_assertOk h (s1 (l := []) rfl)) (fun s h => nW h)
  | sliceS x a b =>
    have e : ∀ s, s ∈ oSlots a.toList ∨ s ∈ oSlots b.toList → get s st2.env = get s st.env := fun s h => hs s (.inl (by
      show s ∈ oSlots (x :: (a.toList ++ b.toList)); rw [oSlots_cons, oSlots_append]; simp only [List.mem_append]; exact .inr h))
    exact pure rfl (p_sliceS h (s1 (l := []) rfl) (optInt_congr fun s h => e s (.inl h)) (optInt_congr fun s h => e s (.inr h))) (fun s h => nW h)
  | sliceL n x a b =>
    have e : ∀ s, s ∈ oSlots a.toList ∨ s ∈ oSlots b.toList → get s st2.env = get s st.env := fun s h => hs s (.inl (by
      show s ∈ oSlots (x :: (a.toList ++ b.toList)); rw [oSlots_cons, oSlots_append]; simp only [List.mem_append]; exact .inr h))
    exact pure rfl (p_sliceL h (s1 (l := []) rfl) (optInt_congr fun s h => e s (.inl h)) (optInt_congr fun s h => e s (.inr h))) (fun s h => nW h)
  | sliceA n x a b =>
    have e : ∀ s, s ∈ oSlots a.toList ∨ s ∈ oSlots b.toList → get s st2.env = get s st.env := fun s h => hs s (.inl (by
      show s ∈ oSlots (x :: (a.toList ++ b.toList)); rw [oSlots_cons, oSlots_append]; simp only [List.mem_append]; exact .inr h))
    exact pure rfl (p_sliceA h (s1 (l := []) rfl) (optInt_congr fun s h => e s (.inl h)) (optInt_congr fun s h => e s (.inr h))) (fun s h => nW h)
  | sliceM n x a b m =>
    have e : ∀ s, s ∈ oSlots a.toList → get s st2.env = get s st.env := fun s h => hs s (.inl (by
      show s ∈ oSlots (m :: b :: x :: a.toList); rw [oSlots_cons m, oSlots_cons b, oSlots_cons x]; simp only [List.mem_append]; exact Or.inr (Or.inr (Or.inr h))))
    exact pure rfl (p_sliceM h (s1 (l := [m, b]) rfl) (optInt_congr fun s h => e s h) (s1 (l := [m]) rfl) (s1 (l := []) rfl)) (fun s h => nW h)
  | stuck => cases h
  | fieldAddr x o l => exact pure rfl (p_fieldAddr h (s1 (l := []) rfl)) (fun s h => nW h)
  | field x o l => exact pure rfl (p_field h (s1 (l := []) rfl)) (fun s h => nW h)
  | indexAddr x i n arr => exact pure rfl (p_indexAddr h (s1 (l := []) rfl) (s1 (l := [x]) rfl)) (fun s h => nW h)
  | index x i => exact pure rfl (p_index h (s1 (l := []) rfl) (s1 (l := [x]) rfl)) (fun s h => nW h)
  | lookup kk z m k c => exact pure rfl (p_lookup h (s1 (l := []) rfl) (s1 (l := [m]) rfl) (hH rfl)) (fun s h => nW h)
  | mapUpdate kk m k x => exact f_mapUpdate h (s1 (l := []) rfl) (s1 (l := [m]) rfl) (s1 (l := [m, k]) rfl) (hH rfl)
  | extract x i => exact pure rfl (p_extract h (fun s h => hs s (.inl h))) (fun s h => nW h)
  | call f l => exact f_call hc h (s1 (l := []) rfl) (rds_congr fun s h => hs s (.inl (by show s ∈ oSlots (f :: l); rw [oSlots_cons]; simp [h]))) (hH rfl)
  | panic x =>
    refine pure rfl ?_ (fun s h => nW h)
    have e := s1 (x := x) (l := []) (l' := []) rfl
    simp only [evalK] at h
    show r.st = st ∧ ePanic x st2 = _
    unfold ePanic at h ⊢
    rw [e]
    split at h
    · rename_i hz; (try simp only [hz])
      simp only [Option.some.injEq] at h
      subst h
      exact ⟨rfl, rfl⟩
    · cases h
  | bi b l =>
    have hW : ∀ s, s ∈ mvsOf l → get s st2.env = get s st.env := fun s h => hs s (.inl (mvs_slots h))
    have eL : l.map (rd st2.env) = l.map (rd st.env) := rds_congr fun s h => hs s (.inl h)
    simp only [evalK, eBi] at h
    cases b with
    | lenS =>
      rcases l with _ | ⟨x, _ | ⟨y, l⟩⟩
      · cases h
      · exact pure rfl (p_lenS h (s1 (l := []) rfl)) hW
      · cases h
    | lenL =>
      rcases l with _ | ⟨x, _ | ⟨y, l⟩⟩
      · cases h
      · exact pure rfl (p_lenL h (s1 (l := []) rfl)) hW
      · cases h
    | lenM =>
      rcases l with _ | ⟨x, _ | ⟨y, l⟩⟩
      · cases h
      · exact pure rfl (p_lenM h (s1 (l := []) rfl) (hH rfl)) hW
      · cases h
    | append size bytes =>
      rcases l with _ | ⟨x, _ | ⟨y, _ | ⟨z, l⟩⟩⟩
      · cases h
      · cases h
      · exact f_append h (s1 (l := []) rfl) (s1 (l := [x]) rfl) (fun s h => hW s (by rw [mvs_cons]; simp [h]))
      · cases h
    | max =>
      refine pure (f := fun st => eBi .max l st) rfl ?_ hW
      have h' : (match maxD (l.map (rd st.env)) with | some v => ok v st | none => none) = some r := by cases l <;> exact h
      have g : eBi .max l st2 = (match maxD (l.map (rd st2.env)) with | some v => ok v st2 | none => none) := by cases l <;> rfl
      show r.st = st ∧ eBi .max l st2 = _
      rw [g, eL]
      split at h'
      · rename_i hz; (try simp only [hz]); exact mk_pure h'
      · cases h'
    | min =>
      refine pure (f := fun st => eBi .min l st) rfl ?_ hW
      have h' : (match minD (l.map (rd st.env)) with | some v => ok v st | none => none) = some r := by cases l <;> exact h
      have g : eBi .min l st2 = (match minD (l.map (rd st2.env)) with | some v => ok v st2 | none => none) := by cases l <;> rfl
      show r.st = st ∧ eBi .min l st2 = _
      rw [g, eL]
      split at h'
      · rename_i hz; (try simp only [hz]); exact mk_pure h'
      · cases h'

end W

/-
  Regions whose order is open: whatever the order, the same.
-/
set_option linter.unusedSimpArgs false
set_option linter.unusedVariables false
namespace W
open Go (IntKind BinOp UnOp Oper)

abbrev El := Op × Bool × List Nat

def stepD (call : Call) (x : El) (st : St) : Option St :=
  match wanted x.1.g st.env with
  | some true => match evalK call x.1.k st with
    | some r => bif r.pan || !(r.same || x.2.1) then none else putD (boxK x.1.k) x.2.2 x.1.dst r.v r.st
    | none => none
  | some false => some (put x.1.dst (.tup []) st)
  | none => none

def runD (call : Call) : List El → St → Option St
  | [], st => some st
  | x :: l, st => match stepD call x st with
    | some st' => runD call l st'
    | none => none

theorem runOpsD_runD {call : Call} : ∀ {l : List El} {st : St} {e : Ex} {st' : St}, runOpsD call l st = some (e, st') → e = .nrm ∧ runD call l st = some st'
  | [], st, e, st', h => by simp only [runOpsD, Option.some.injEq, Prod.mk.injEq] at h; exact ⟨h.1.symm, by rw [← h.2]; rfl⟩
  | (o, s, no) :: l, st, e, st', h => by
    simp only [runOpsD] at h
    simp only [runD, stepD]
    split at h
    · rename_i hw
      simp only [hw]
      split at h
      · rename_i r hr
        simp only [hr]
        rw [Bool.cond_eq_ite] at h ⊢
        split at h
        · cases h
        · rename_i hp
          rw [if_neg hp]
          split at h
          · rename_i st1 h1
            simp only [h1]
            exact runOpsD_runD h
          · cases h
      · cases h
    · rename_i hw
      simp only [hw]
      exact runOpsD_runD h
    · cases h

structure Eqv (st st2 : St) : Prop where
  e : ∀ k, get k st2.env = get k st.env
  H : st2.H = st.H
  lp : ∀ n, noLp n st2.env = noLp n st.env

theorem Eqv.refl (st : St) : Eqv st st := ⟨fun _ => rfl, rfl, fun _ => rfl⟩
theorem Eqv.trans {a b c : St} (h : Eqv a b) (h' : Eqv b c) : Eqv a c := ⟨fun k => (h'.e k).trans (h.e k), h'.H.trans h.H, fun n => (h'.lp n).trans (h.lp n)⟩

/-- What a step leaves, in two states. -/
structure FrD (x : El) (st st2 st1 st1' : St) (b : Nat → Bool) : Prop where
  inn : ∀ s, s ∈ x.1.wr → get s st1'.env = get s st1.env
  out1 : ∀ s, s ∉ x.1.wr → get s st1.env = get s st.env
  out2 : ∀ s, s ∉ x.1.wr → get s st1'.env = get s st2.env
  H1 : x.2.1 = false → st1.H = st.H ∧ st1'.H = st2.H
  H2 : st2.H = st.H → st1'.H = st1.H
  lp : ∀ n, noLp n st1.env = (noLp n st.env && b n)
  lp2 : ∀ n, noLp n st1'.env = (noLp n st2.env && b n)
  no : ∀ n, hasNat n x.2.2 = true → b n = true

theorem hasNat_mem {n : Nat} : ∀ {l : List Nat}, n ∈ l → hasNat n l = true
  | m :: l, h => by
    simp only [hasNat, Bool.or_eq_true]
    rcases List.mem_cons.1 h with e | h
    · subst e; exact .inl (by simp)
    · exact .inr (hasNat_mem h)

theorem wanted_congr {g : Option (Nat × Bool)} {e e2 : Env} (h : ∀ n w, g = some (n, w) → get n e2 = get n e) : wanted g e2 = wanted g e := by
  cases g with
  | none => rfl
  | some nw => obtain ⟨n, w⟩ := nw; simp only [wanted]; rw [h n w rfl]

theorem mem_re_k {o : Op} {s : Nat} (h : s ∈ oSlots o.k.rds ∨ s ∈ o.k.boxR) : s ∈ o.re := by
  unfold Op.re
  simp only [List.mem_append]
  rcases h with h | h
  · exact .inr (.inl h)
  · exact .inr (.inr (.inl h))
theorem mem_re_w {o : Op} {s : Nat} (h : s ∈ o.k.boxW) : s ∈ o.re := by
  unfold Op.re
  simp only [List.mem_append]
  exact .inr (.inr (.inr h))
theorem mem_re_g {o : Op} {n : Nat} {w : Bool} (h : o.g = some (n, w)) : n ∈ o.re := by
  unfold Op.re; rw [h]; simp

theorem frD {call : Call} (hc : CallLo call) {x : El} {st st2 st1 : St} (h : stepD call x st = some st1) (hfl : x.2.1 = false → x.1.k.free = true) (hs : ∀ s, s ∈ x.1.re → get s st2.env = get s st.env) (hH : x.1.k.looks = true → st2.H = st.H)
    (hbx : ∀ n, n ∈ makesBox x.1 → noLp n st.env = true → noLp n st2.env = true) : ∃ st1' b, stepD call x st2 = some st1' ∧ FrD x st st2 st1 st1' b := by
  unfold stepD at h ⊢
  rw [wanted_congr (e := st.env) (fun n w hg => hs n (mem_re_g hg))]
  split at h
  · rename_i hw
    (try simp only [hw])
    split at h
    · rename_i r hr
      obtain ⟨r2, hr2, F⟩ := fr_evalK hc hr (fun s h => hs s (mem_re_k h)) hH
      simp only [hr2]
      rw [Bool.cond_eq_ite] at h ⊢
      rw [F.pan, F.same]
      split at h
      · cases h
      · rename_i hp
        rw [if_neg hp]
        have hsame : x.2.1 = false → r.same = true := fun hf => by
          simp only [Bool.or_eq_true, not_or, Bool.not_eq_true', hf, Bool.or_false] at hp
          simpa using hp.2
        have done : ∀ {v : V} {b : Nat → Bool} {n : Nat}, x.1.dst = some n → (∀ m (e : Env), noLp m ((n, v) :: e) = (noLp m e && b m)) → (∀ m, hasNat m x.2.2 = true → b m = true) →
            FrD x st st2 { r.st with env := (n, v) :: r.st.env } { r2.st with env := (n, v) :: r2.st.env } b := by
          intro v b n hdst hb hno
          have hwr : ∀ s, s ∈ x.1.wr ↔ s = n ∨ s ∈ x.1.k.boxW := fun s => by unfold Op.wr; rw [hdst]; simp
          refine ⟨fun s hs => ?_, fun s hs => ?_, fun s hs => ?_, fun hf => F.H1 (hfl hf) (hsame hf), F.H2, fun m => ?_, fun m => ?_, hno⟩
          · show get s ((n, v) :: r2.st.env) = get s ((n, v) :: r.st.env)
            rw [get_cons, get_cons]
            split
            · rfl
            · rename_i hne; exact F.inn s (((hwr s).1 hs).resolve_left hne)
          · rw [hwr, not_or] at hs
            show get s ((n, v) :: r.st.env) = _
            rw [get_cons, if_neg hs.1]; exact F.out1 s hs.2
          · rw [hwr, not_or] at hs
            show get s ((n, v) :: r2.st.env) = _
            rw [get_cons, if_neg hs.1]; exact F.out2 s hs.2
          · show noLp m ((n, v) :: r.st.env) = _
            rw [hb, F.lp]
          · show noLp m ((n, v) :: r2.st.env) = _
            rw [hb, F.lp2]
        unfold putD at h ⊢
        rw [F.v]
        cases hdst : x.1.dst with
        | none =>
          rw [hdst] at h
          simp only [Option.some.injEq] at h
          subst h
          have hwr : ∀ s, s ∈ x.1.wr ↔ s ∈ x.1.k.boxW := fun s => by unfold Op.wr; rw [hdst]; simp
          exact ⟨_, fun _ => true, rfl, fun s hs => F.inn s ((hwr s).1 hs), fun s hs => F.out1 s (fun h => hs ((hwr s).2 h)), fun s hs => F.out2 s (fun h => hs ((hwr s).2 h)), fun hf => F.H1 (hfl hf) (hsame hf), F.H2,
            fun n => by rw [F.lp]; simp, fun n => by rw [F.lp2]; simp, fun _ _ => rfl⟩
        | some n =>
          rw [hdst] at h
          simp only at h ⊢
          split at h
          · rename_i cs hv
            rw [Bool.cond_eq_ite] at h
            split at h
            · rename_i hb
              simp only [Option.some.injEq] at h
              subst h
              simp only [Bool.and_eq_true] at hb
              have hb2 : (boxK x.1.k && noLp n r2.st.env) = true := by
                rw [Bool.and_eq_true]
                refine ⟨hb.1, ?_⟩
                rw [F.lp2]
                exact hbx n (by unfold makesBox; rw [hb.1, hdst]; simp) (by rw [← F.lp]; exact hb.2)
              rw [hb2]
              simp only [cond_true]
              exact ⟨_, fun _ => true, rfl, done hdst (fun m e => by simp [noLp]) (fun _ _ => rfl)⟩
            · cases h
          · rename_i m o hv
            rw [Bool.cond_eq_ite] at h
            split at h
            · cases h
            · rename_i hb
              simp only [Option.some.injEq] at h
              subst h
              have hb' : hasNat m x.2.2 = false := by simpa using hb
              simp only [hb', cond_false]
              refine ⟨_, fun k => !Nat.beq m k, rfl, done hdst (fun k e => by simp only [noLp]; rw [Bool.and_comm]) (fun k hk => ?_)⟩
              cases hq : Nat.beq m k with
              | false => rfl
              | true =>
                have := Nat.eq_of_beq_eq_true hq
                subst this
                rw [hb'] at hk; cases hk
          · rename_i h1 h2
            simp only [Option.some.injEq] at h
            subst h
            refine ⟨_, fun _ => true, rfl, ?_⟩
            exact done hdst (fun m e => by rw [ones_noLp (fun k o => h2 k o)]; simp) (fun _ _ => rfl)
    · cases h
  · rename_i hw
    (try simp only [hw])
    simp only [Option.some.injEq] at h
    subst h
    cases hdst : x.1.dst with
    | none =>
      refine ⟨_, fun _ => true, rfl, fun s hs' => ?_, fun s _ => rfl, fun s _ => rfl, fun _ => ⟨rfl, rfl⟩, fun h => h, fun n => by simp [put], fun n => by simp [put], fun _ _ => rfl⟩
      unfold Op.wr at hs'
      rw [hdst] at hs'
      exact hs s (mem_re_w (by simpa using hs'))
    | some n =>
      have hwr : ∀ s, s ∈ x.1.wr ↔ s = n ∨ s ∈ x.1.k.boxW := fun s => by unfold Op.wr; rw [hdst]; simp
      refine ⟨_, fun _ => true, rfl, fun s hs' => ?_, fun s hs' => ?_, fun s hs' => ?_, fun _ => ⟨rfl, rfl⟩, fun h => h, fun m => by simp [put, noLp], fun m => by simp [put, noLp], fun _ _ => rfl⟩
      · show get s ((n, .tup []) :: st2.env) = get s ((n, .tup []) :: st.env)
        rw [get_cons, get_cons]
        split
        · rfl
        · rename_i hne; exact hs s (mem_re_w (((hwr s).1 hs').resolve_left hne))
      · rw [hwr, not_or] at hs'
        show get s ((n, .tup []) :: st.env) = _
        rw [get_cons, if_neg hs'.1]
      · rw [hwr, not_or] at hs'
        show get s ((n, .tup []) :: st2.env) = _
        rw [get_cons, if_neg hs'.1]
  · cases h

theorem meets_false {a b : List Nat} (h : meets a b = false) : ∀ n, n ∈ a → n ∉ b := by
  intro n hn hb
  simp only [meets, List.any_eq_false] at h
  exact h n hn (by simpa using hb)

structure Apart (o o' : Op) : Prop where
  f1 : o.k.free = true ∨ (o'.k.looks = false ∧ o'.k.free = true)
  f2 : o'.k.free = true ∨ (o.k.looks = false ∧ o.k.free = true)
  w1 : ∀ n, n ∈ o.wr → n ∉ o'.wr ∧ n ∉ o'.re
  w2 : ∀ n, n ∈ o'.wr → n ∉ o.wr ∧ n ∉ o.re

theorem apart_spec {o o' : Op} (h : apart o o' = true) : Apart o o' := by
  simp only [apart, Bool.and_eq_true, Bool.not_eq_true', Bool.and_eq_false_iff, Bool.or_eq_false_iff, Bool.not_eq_false'] at h
  obtain ⟨⟨⟨h1, h2⟩, h3⟩, h4⟩ := h
  refine ⟨by rcases h1 with h | h; exact .inl h; exact .inr h, by rcases h2 with h | h; exact .inl h; exact .inr h, fun n hn => ?_, fun n hn => ?_⟩
  · have := meets_false h3 n hn
    simpa [not_or] using this
  · have := meets_false h4 n hn
    simpa [not_or] using this

/-- Two steps change places. -/
theorem commute {call : Call} (hc : CallLo call) {x y : El} {st st1 st2 : St} (hx : stepD call x st = some st1) (hy : stepD call y st1 = some st2) (lx : x.2.1 = false → x.1.k.free = true) (ly : y.2.1 = false → y.1.k.free = true) (fx : x.1.k.free = true → x.2.1 = false) (fy : y.1.k.free = true → y.2.1 = false) (hap : Apart x.1 y.1)
    (hno : ∀ n, n ∈ makesBox x.1 → hasNat n y.2.2 = true) : ∃ st1' st2', stepD call y st = some st1' ∧ stepD call x st1' = some st2' ∧ Eqv st2 st2' := by
  -- x, once more in its own state: what it changes
  obtain ⟨_, bx, hx0, Fx⟩ := frD hc (st2 := st) hx lx (fun _ _ => rfl) (fun _ => rfl) (fun _ _ h => h)
  rw [hx] at hx0
  cases hx0
  -- y ahead
  obtain ⟨st1', by_, hy', Fy⟩ := frD hc (st2 := st) hy ly (fun s hs => (Fx.out1 s (fun h => (hap.w1 s h).2 hs)).symm) (fun hl => by
      rcases hap.f1 with h | h
      · exact (Fx.H1 (fx h)).1.symm
      · rw [h.1] at hl; cases hl) (fun n hn h => by
      rw [Fx.lp] at h; simp only [Bool.and_eq_true] at h; exact h.1)
  -- x behind it
  obtain ⟨st2', b3, hx', Fx'⟩ := frD hc (st2 := st1') hx lx (fun s hs => Fy.out2 s (fun h => (hap.w2 s h).2 hs)) (fun hl => by
      rcases hap.f2 with h | h
      · exact (Fy.H1 (fy h)).2
      · rw [h.1] at hl; cases hl) (fun n hn h => by
      rw [Fy.lp2, h, Fy.no n (hno n hn)]; rfl)
  refine ⟨st1', st2', hy', hx', fun s => ?_, ?_, fun n => ?_⟩
  · by_cases h1 : s ∈ x.1.wr
    · have h2 : s ∉ y.1.wr := (hap.w1 s h1).1
      rw [Fx'.inn s h1, Fy.out1 s h2]
    · rw [Fx'.out2 s h1]
      by_cases h2 : s ∈ y.1.wr
      · rw [Fy.inn s h2]
      · rw [Fy.out2 s h2, Fy.out1 s h2, Fx.out1 s h1]
  · rcases hap.f1 with h | h
    · -- x leaves the objects alone
      rw [(Fx'.H1 (fx h)).2]
      exact Fy.H2 (Fx.H1 (fx h)).1.symm
    · rw [(Fy.H1 (fy h.2)).1]
      exact Fx'.H2 (Fy.H1 (fy h.2)).2
  · rw [Fx'.lp2, Fy.lp2, Fy.lp, Fx.lp]
    -- what x adds is the same
    have e : (noLp n st.env && bx n) = (noLp n st.env && b3 n) := by rw [← Fx.lp, ← Fx'.lp]
    cases h1 : noLp n st.env with
    | false => simp
    | true =>
      rw [h1] at e
      simp only [Bool.true_and] at e ⊢
      rw [e, Bool.and_comm]

theorem stepD_eqv {call : Call} (hc : CallLo call) {x : El} {st st2 st1 : St} (h : stepD call x st = some st1) (lx : x.2.1 = false → x.1.k.free = true) (he : Eqv st st2) : ∃ st1', stepD call x st2 = some st1' ∧ Eqv st1 st1' := by
  obtain ⟨st1', b, h1, F⟩ := frD hc h lx (fun s _ => he.e s) (fun _ => he.H) (fun n _ h => by rw [he.lp]; exact h)
  refine ⟨st1', h1, fun s => ?_, F.H2 he.H, fun n => by rw [F.lp, F.lp2, he.lp]⟩
  by_cases hs : s ∈ x.1.wr
  · exact F.inn s hs
  · rw [F.out2 s hs, F.out1 s hs, he.e]

theorem runD_eqv {call : Call} (hc : CallLo call) : ∀ {l : List El} {st st2 stF : St}, (∀ x ∈ l, x.2.1 = false → x.1.k.free = true) → runD call l st = some stF → Eqv st st2 → ∃ stF2, runD call l st2 = some stF2 ∧ Eqv stF stF2
  | [], st, st2, stF, _, h, he => by simp only [runD, Option.some.injEq] at h; subst h; exact ⟨st2, rfl, he⟩
  | x :: l, st, st2, stF, hf, h, he => by
    simp only [runD] at h ⊢
    split at h
    · rename_i st1 h1
      obtain ⟨st1', h2, he2⟩ := stepD_eqv hc h1 (hf x (by simp)) he
      simp only [h2]
      exact runD_eqv hc (fun y hy => hf y (by simp [hy])) h he2
    · cases h

/-- A step moves to the front. -/
theorem to_front {call : Call} (hc : CallLo call) {x : El} {post : List El} : ∀ {pre : List El} {st stF : St}, (∀ y ∈ pre ++ x :: post, y.2.1 = false → y.1.k.free = true) → (∀ y ∈ pre, (y.1.k.free = true → y.2.1 = false) ∧ (x.1.k.free = true → x.2.1 = false)) → (∀ y ∈ pre, Apart y.1 x.1 ∧ ∀ n, n ∈ makesBox y.1 → hasNat n x.2.2 = true) →
    runD call (pre ++ x :: post) st = some stF → ∃ st1 stF', stepD call x st = some st1 ∧ runD call (pre ++ post) st1 = some stF' ∧ Eqv stF stF'
  | [], st, stF, _, hf, _, h => by
    simp only [List.nil_append, runD] at h
    split at h
    · rename_i st1 h1
      exact ⟨st1, stF, h1, h, Eqv.refl _⟩
    · cases h
  | y :: pre, st, stF, hl, hf, ha, h => by
    simp only [List.cons_append, runD] at h
    split at h
    · rename_i sty hy
      obtain ⟨stx, stF1, h1, h2, h3⟩ := to_front hc (pre := pre) (fun z hz => hl z (by simp only [List.cons_append, List.mem_cons]; exact .inr hz)) (fun z hz => hf z (by simp [hz])) (fun z hz => ha z (by simp [hz])) h
      obtain ⟨st1', st2', h4, h5, h6⟩ := commute hc hy h1 (hl y (by simp)) (hl x (by simp)) (hf y (by simp)).1 (hf y (by simp)).2 (ha y (by simp)).1 (ha y (by simp)).2
      obtain ⟨stF2, h7, h8⟩ := runD_eqv hc (fun z hz => hl z (by
        simp only [List.cons_append, List.mem_cons, List.mem_append] at hz ⊢
        rcases hz with h | h
        · exact .inr (.inl h)
        · exact .inr (.inr (.inr h)))) h2 h6
      refine ⟨st1', stF2, h4, ?_, h3.trans h8⟩
      simp only [List.cons_append, runD, h5]
      exact h7
    · cases h

end W

/-
  Regions whose order is open: simulated.
-/
set_option linter.unusedSimpArgs false
set_option linter.unusedVariables false
namespace W
open Go (World Value Addr IntKind Program TypeId FuncId Operand Act Oper Next Result Sem BinOp UnOp Ending Exit Code Func Fence)

/-! What stands before an operation. -/

def befStep (acc : Array Nat) (o : Oper) : Array Nat :=
  acc.push (o.after.foldl (fun s e => if Go.Region.binds .any e then s ||| 2 ^ e.on ||| acc.getD e.on 0 else s) 0)

theorem before_eq (ops : Array Oper) : Go.Region.before ops = ops.toList.foldl befStep #[] := by
  unfold Go.Region.before
  rw [← Array.foldl_toList]
  rfl

theorem testBit_fold (acc : Array Nat) : ∀ (l : List Go.Edge) (s j : Nat), (l.foldl (fun s e => if Go.Region.binds .any e then s ||| 2 ^ e.on ||| acc.getD e.on 0 else s) s).testBit j = true →
    s.testBit j = true ∨ ∃ e ∈ l, Go.Region.binds .any e = true ∧ (e.on = j ∨ (acc.getD e.on 0).testBit j = true)
  | [], s, j, h => .inl h
  | e :: l, s, j, h => by
    simp only [List.foldl_cons] at h
    rcases testBit_fold acc l _ j h with h | ⟨e', he', hb, hj⟩
    · split at h
      · rename_i hb
        simp only [Nat.testBit_or, Bool.or_eq_true] at h
        rcases h with (h | h) | h
        · exact .inl h
        · rw [Nat.testBit_two_pow] at h
          exact .inr ⟨e, by simp, hb, .inl (by simpa using h)⟩
        · exact .inr ⟨e, by simp, hb, .inr h⟩
      · exact .inl h
    · exact .inr ⟨e', by simp [he'], hb, hj⟩

theorem bef_size : ∀ (l : List Oper) (acc : Array Nat), (l.foldl befStep acc).size = acc.size + l.length
  | [], acc => by simp
  | o :: l, acc => by simp only [List.foldl_cons, bef_size l, befStep, Array.size_push, List.length_cons]; omega

theorem bef_old : ∀ (l : List Oper) (acc : Array Nat) (i : Nat), i < acc.size → (l.foldl befStep acc).getD i 0 = acc.getD i 0
  | [], acc, i, _ => rfl
  | o :: l, acc, i, h => by
    simp only [List.foldl_cons]
    rw [bef_old l _ i (by simp [befStep]; omega)]
    simp only [befStep, Array.getD_eq_getD_getElem?, Array.getElem?_push]
    rw [if_neg (by omega)]

theorem bef_new : ∀ (l : List Oper) (acc : Array Nat) (k : Nat) (o : Oper), l[k]? = some o → ∀ j, ((l.foldl befStep acc).getD (acc.size + k) 0).testBit j = true →
    ∃ e ∈ o.after.toList, Go.Region.binds .any e = true ∧ (e.on = j ∨ ((l.foldl befStep acc).getD e.on 0).testBit j = true)
  | [], acc, k, o, h, j, _ => by simp at h
  | o' :: l, acc, 0, o, h, j, hb => by
    simp at h; subst h
    simp only [List.foldl_cons, Nat.add_zero] at hb
    rw [bef_old l _ acc.size (by simp [befStep])] at hb
    have e0 : (befStep acc o').getD acc.size 0 = o'.after.foldl (fun s e => if Go.Region.binds .any e then s ||| 2 ^ e.on ||| acc.getD e.on 0 else s) 0 := by
      simp [befStep]
    rw [e0, ← Array.foldl_toList] at hb
    rcases testBit_fold acc _ _ j hb with h | ⟨e, he, hbi, hj⟩
    · simp at h
    · refine ⟨e, he, hbi, hj.imp id (fun h => ?_)⟩
      have hlt : e.on < acc.size := by
        rcases Nat.lt_or_ge e.on acc.size with h1 | h1
        · exact h1
        · rw [Array.getD_eq_getD_getElem?, Array.getElem?_eq_none (by omega)] at h
          simp at h
      rw [bef_old (o' :: l) acc e.on hlt]
      exact h
  | o' :: l, acc, k + 1, o, h, j, hb => by
    simp only [List.foldl_cons] at hb ⊢
    have hs : (befStep acc o').size = acc.size + 1 := by simp [befStep]
    have := bef_new l (befStep acc o') k o (by simpa using h) j (by rw [hs, show acc.size + 1 + k = acc.size + (k + 1) by omega]; exact hb)
    exact this

theorem before_spec {ops : Array Oper} {i : Nat} {o : Oper} (h : ops[i]? = some o) {j : Nat} (hb : ((Go.Region.before ops).getD i 0).testBit j = true) :
    ∃ e ∈ o.after.toList, Go.Region.binds .any e = true ∧ (e.on = j ∨ ((Go.Region.before ops).getD e.on 0).testBit j = true) := by
  rw [before_eq] at hb ⊢
  exact bef_new ops.toList #[] i o (by simpa using h) j (by simpa using hb)

section
variable {P : Program} {M : Maps} {call : Call}

theorem trOps_get {A : Ann} {rid : Nat} {ops : Array Oper} : ∀ {rest : List Oper} {i : Nat} {l : List Op}, trOps M P A rid ops i rest = some l → l.length = rest.length ∧ ∀ k o, rest[k]? = some o → ∃ q, l[k]? = some q ∧ q.dst = o.dst ∧ gOf ops o.guard = some q.g ∧
    q.k = orStuck (trOp M P A (fun k' => (mvs A rid (i + k)).contains k') (match o.dst with | some d => A.loc.contains d | none => false) o.op)
  | [], i, l, h => by simp only [trOps, Option.some.injEq] at h; subst h; exact ⟨rfl, fun k o h => by simp at h⟩
  | o' :: rest, i, l, h => by
    simp only [trOps] at h
    split at h
    · rename_i g' r hg hr
      simp only [Option.some.injEq] at h
      subst h
      obtain ⟨h1, h2⟩ := trOps_get hr
      refine ⟨by simp [h1], fun k o ho => ?_⟩
      cases k with
      | zero =>
        simp at ho
        subst ho
        exact ⟨_, rfl, rfl, hg, rfl⟩
      | succ k =>
        obtain ⟨q, q1, q2, q3, q4⟩ := h2 k o (by simpa using ho)
        exact ⟨q, by simpa using q1, q2, q3, by rw [show i + (k + 1) = i + 1 + k by omega]; exact q4⟩
    · cases h

/-- The element at an index. -/
def elAt (ops : Array Oper) (l : List Op) (i : Nat) : El := (l.getD i default, flagAt ops l.length (l.getD i default) i, notYet ops l i)

theorem zip_els (ops : Array Oper) (l : List Op) : (l.zipIdx.map fun (o, i) => (o, flagAt ops l.length o i, notYet ops l i)) = (List.range l.length).map (elAt ops l) := by
  apply List.ext_getElem?
  intro k
  simp only [List.getElem?_map, List.getElem?_zipIdx, List.getElem?_range']
  by_cases hk : k < l.length
  · rw [List.getElem?_range hk]
    simp [hk, elAt]
  · rw [List.getElem?_eq_none (by omega), List.getElem?_eq_none (by simp; omega)]
    rfl

theorem killLp_noLp {n : Nat} : ∀ {e : Env}, noLp n e = true → killLp n e = e
  | [], _ => rfl
  | (m, v) :: e, h => by
    have h2 : noLp n e = true := by
      cases v <;> first | exact h | (simp only [noLp, Bool.and_eq_true] at h; exact h.2)
    simp only [killLp, killLp_noLp h2]
    cases v with
    | lp t o =>
      simp only [noLp, Bool.and_eq_true, Bool.not_eq_true'] at h
      simp [h.1]
    | _ => rfl

theorem putD_put {bx : Bool} {no : List Nat} {dst : Option Nat} {v : V} {st st' : St} (h : putD bx no dst v st = some st') : put dst v st = st' := by
  unfold putD at h
  cases dst with
  | none => simpa [put] using h
  | some n =>
    simp only at h
    split at h
    · rw [Bool.cond_eq_ite] at h
      split at h
      · rename_i hb
        simp only [Option.some.injEq] at h
        simp only [Bool.and_eq_true] at hb
        rw [← h]
        simp only [put, killLp_noLp hb.2]
      · cases h
    · rw [Bool.cond_eq_ite] at h
      split at h
      · cases h
      · simpa [put] using h
    · rename_i hb _
      simp only [Option.some.injEq] at h
      rw [← h, put_plain (fun cs e => hb cs e)]

/-- The unlisted ones in their order. -/
def rem (n : Nat) (listed : Array Bool) : List Nat := (List.range n).filter fun i => !listed.getD i true

theorem rem_sorted (n : Nat) (listed : Array Bool) : (rem n listed).Pairwise (· < ·) := (List.pairwise_lt_range).filter _

theorem mem_rem {n i : Nat} {listed : Array Bool} : i ∈ rem n listed ↔ i < n ∧ listed.getD i true = false := by
  simp [rem, List.mem_filter]

theorem rem_set {n i : Nat} {listed : Array Bool} (hs : listed.size = n) {pre post : List Nat} (h : rem n listed = pre ++ i :: post) : rem n (listed.setIfInBounds i true) = pre ++ post := by
  have hi : i < listed.size := by
    have : i ∈ rem n listed := by rw [h]; simp
    rw [hs]; exact (mem_rem.1 this).1
  have e : rem n (listed.setIfInBounds i true) = (rem n listed).filter (fun k => k != i) := by
    unfold rem
    rw [List.filter_filter]
    apply List.filter_congr
    intro k hk
    by_cases hki : k = i
    · subst hki; simp [hi]
    · have : i ≠ k := fun e => hki e.symm
      simp [Array.getElem?_setIfInBounds_ne this, hki]
  rw [e, h]
  have hp := rem_sorted n listed
  rw [h] at hp
  rw [List.pairwise_append] at hp
  obtain ⟨_, h2, h3⟩ := hp
  rw [List.pairwise_cons] at h2
  rw [List.filter_append, List.filter_cons]
  simp only [bne_self_eq_false, Bool.false_eq_true, if_false]
  congr 1
  · rw [List.filter_eq_self]
    intro k hk
    have := h3 k hk i (by simp)
    simp; omega
  · rw [List.filter_eq_self]
    intro k hk
    have := h2.1 k hk
    simp; omega

theorem sim_any (hcs : CallSim P M call) (hlo : CallLo call) {F : Fence} (hF : WF F) {m : Nat} {A : Ann} {rid nt : Nat} {ops : Array Oper} {l : List Op} (htr : trOps M P A rid ops 0 ops.toList = some l) (hlex : lexI ops = true) (hord : orderOk ops l = true)
    (hdst : ∀ o ∈ ops.toList, ∀ d, o.dst = some d → d < nt) (hnd : ∀ o ∈ ops.toList, F.round = none ∨ notDefer o.op) : ∀ (fuel : Nat) (listed : Array Bool), listed.size = ops.size → (rem ops.size listed).length = fuel →
      (∀ x, listed.getD x false = true → ∀ j, ((Go.Region.before ops).getD x 0).testBit j = true → listed.getD j false = true) →
    ∀ (st stF : St) (g : Gh) (w : World) (β : Nat → Nat) (a : Act), nt ≤ a.tmps.size → runD call ((rem ops.size listed).map (elAt ops l)) st = some stF → Rel M g w β st a.tmps →
    ∀ Q : Exit → Act → World → Prop, (∀ a' w' st', Eqv stF st' → Good True M g w a st' a' w' → Q .normal a' w') → Go.wpAnyIn F m P .any ops Q fuel listed a w := by
  obtain ⟨hlen, hget⟩ := trOps_get htr
  have hll : l.length = ops.size := by simpa using hlen
  -- the least that is left is ready
  have noReady : ∀ {listed : Array Bool}, listed.size = ops.size → Go.Region.ready .any ops listed = [] → rem ops.size listed = [] := by
    intro listed hs hr
    cases hq : rem ops.size listed with
    | nil => rfl
    | cons i t =>
      exfalso
      have hi : i ∈ rem ops.size listed := by rw [hq]; simp
      obtain ⟨h1, h2⟩ := mem_rem.1 hi
      have : i ∈ Go.Region.ready .any ops listed := by
        rw [Go.mem_ready]
        refine ⟨h2, ops[i], by simp [h1], fun e he hb => ?_⟩
        simp only [lexI, List.all_eq_true] at hlex
        have h3 := hlex (ops[i], i) (by rw [List.mem_zipIdx_iff_getElem?]; simp [h1]) e (by simpa using he)
        simp only [hb, Bool.not_true, Bool.false_or, Nat.blt_eq] at h3
        -- it's smaller: listed
        cases hl : listed.getD e.on false with
        | true => rfl
        | false =>
          exfalso
          have : e.on ∈ rem ops.size listed := mem_rem.2 ⟨by omega, by
            have hlt : e.on < listed.size := by omega
            simp only [Array.getD_eq_getD_getElem?, Array.getElem?_eq_getElem hlt, Option.getD_some] at hl ⊢
            exact hl⟩
          have hp := rem_sorted ops.size listed
          rw [hq] at this hp
          rcases List.mem_cons.1 this with h | h
          · omega
          · have := (List.pairwise_cons.1 hp).1 _ h; omega
      rw [hr] at this
      cases this
  intro fuel
  induction fuel with
  | zero =>
    intro listed hs hf hcl st stF g w β a hnt hrun hR Q hQ
    have hrem : rem ops.size listed = [] := List.eq_nil_of_length_eq_zero hf
    rw [hrem] at hrun
    simp only [List.map_nil, runD, Option.some.injEq] at hrun
    subst hrun
    refine ⟨?_, hQ a w st (Eqv.refl _) ⟨⟨g, β, hR, Evo.refl g w, .refl⟩, rfl, fun _ => rfl⟩⟩
    cases hq : Go.Region.ready .any ops listed with
    | nil => rfl
    | cons i t =>
      exfalso
      have hi : i ∈ Go.Region.ready .any ops listed := by rw [hq]; simp
      rw [Go.mem_ready] at hi
      obtain ⟨h1, o, ho, _⟩ := hi
      have : i ∈ rem ops.size listed := mem_rem.2 ⟨(Array.getElem?_eq_some_iff.1 ho).1, h1⟩
      rw [hrem] at this; cases this
  | succ fuel ih =>
    intro listed hs hf hcl st stF g w β a hnt hrun hR Q hQ
    refine ⟨fun hr => ?_, fun i hi => ?_⟩
    · have := noReady hs hr
      rw [this] at hf; simp at hf
    · rw [Go.mem_ready] at hi
      obtain ⟨h1, o, ho, hpre⟩ := hi
      have hilt := (Array.getElem?_eq_some_iff.1 ho).1
      have him : i ∈ rem ops.size listed := mem_rem.2 ⟨hilt, h1⟩
      obtain ⟨pre, post, hrem⟩ := List.append_of_mem him
      -- what stands before i is listed
      have hbef : ∀ j, ((Go.Region.before ops).getD i 0).testBit j = true → listed.getD j false = true := fun j hj => by
        obtain ⟨e, he, hb, hj⟩ := before_spec ho hj
        have hl := hpre e (by simpa using he) hb
        rcases hj with rfl | hj
        · exact hl
        · exact hcl _ hl j hj
      have hwhole : (rem ops.size listed).map (elAt ops l) = pre.map (elAt ops l) ++ elAt ops l i :: post.map (elAt ops l) := by rw [hrem]; simp
      rw [hwhole] at hrun
      obtain ⟨q, hq1, hq2, hq3, hq4⟩ := hget i o (by simpa using ho)
      have hel : (elAt ops l i).1 = q := by simp [elAt, hq1]
      have hsorted := rem_sorted ops.size listed
      obtain ⟨st1, stF', hstep, hrest, heqv⟩ := to_front hlo (x := elAt ops l i) (pre := pre.map (elAt ops l)) (post := post.map (elAt ops l)) (fun y hy => by
          have : ∃ k, y = elAt ops l k := by
            simp only [List.mem_append, List.mem_map, List.mem_cons] at hy
            rcases hy with ⟨k, _, h⟩ | h | ⟨k, _, h⟩
            · exact ⟨k, h.symm⟩
            · exact ⟨i, h⟩
            · exact ⟨k, h.symm⟩
          obtain ⟨k, rfl⟩ := this
          intro hf
          have hf : flagAt ops l.length (l.getD k default) k = false := hf
          unfold flagAt at hf
          simp only [Bool.or_eq_false_iff, Bool.not_eq_false'] at hf
          exact hf.1) (fun y hy => by
          obtain ⟨k, hk, rfl⟩ := List.mem_map.1 hy
          have hkm : k ∈ rem ops.size listed := by rw [hrem]; simp [hk]
          have hki : k < i := by
            rw [hrem, List.pairwise_append] at hsorted
            exact hsorted.2.2 k hk i (by simp)
          have hnb : ((Go.Region.before ops).getD i 0).testBit k = false := by
            cases hq : ((Go.Region.before ops).getD i 0).testBit k with
            | false => rfl
            | true =>
              have := hbef k hq
              have h2 := (mem_rem.1 hkm).2
              have hlt : k < listed.size := by rw [hs]; exact (mem_rem.1 hkm).1
              simp only [Array.getD_eq_getD_getElem?, Array.getElem?_eq_getElem hlt, Option.getD_some] at this h2
              rw [this] at h2; cases h2
          have s1 : serialAt ops l.length i = false := by
            unfold serialAt
            rw [List.all_eq_false]
            refine ⟨k, by rw [List.mem_range]; omega, ?_⟩
            have b1 : Nat.beq k i = false := by
              cases hq : Nat.beq k i with
              | false => rfl
              | true => have := Nat.eq_of_beq_eq_true hq; omega
            have b2 : Nat.blt k i = true := by simpa using hki
            rw [b1, b2, cond_true, hnb]; simp
          have s2 : serialAt ops l.length k = false := by
            unfold serialAt
            rw [List.all_eq_false]
            refine ⟨i, by rw [List.mem_range]; omega, ?_⟩
            have b1 : Nat.beq i k = false := by
              cases hq : Nat.beq i k with
              | false => rfl
              | true => have := Nat.eq_of_beq_eq_true hq; omega
            have b2 : Nat.blt i k = false := by
              cases hq : Nat.blt i k with
              | false => rfl
              | true => have : i < k := by simpa using hq
                        omega
            rw [b1, b2, cond_false, hnb]; simp
          refine ⟨fun hf => ?_, fun hf => ?_⟩
          · show flagAt ops l.length (l.getD k default) k = false
            unfold flagAt
            rw [show (l.getD k default).k.free = true from hf, s2]; rfl
          · show flagAt ops l.length (l.getD i default) i = false
            unfold flagAt
            rw [show (l.getD i default).k.free = true from hf, s1]; rfl) (fun y hy => by
          obtain ⟨k, hk, rfl⟩ := List.mem_map.1 hy
          have hkm : k ∈ rem ops.size listed := by rw [hrem]; simp [hk]
          have hki : k < i := by
            rw [hrem, List.pairwise_append] at hsorted
            exact hsorted.2.2 k hk i (by simp)
          have hnb : ((Go.Region.before ops).getD i 0).testBit k = false := by
            cases hq : ((Go.Region.before ops).getD i 0).testBit k with
            | false => rfl
            | true =>
              have := hbef k hq
              have h2 := (mem_rem.1 hkm).2
              have hlt : k < listed.size := by rw [hs]; exact (mem_rem.1 hkm).1
              simp only [Array.getD_eq_getD_getElem?, Array.getElem?_eq_getElem hlt, Option.getD_some] at this h2
              rw [this] at h2; cases h2
          have hkl : k < l.length := by rw [hll]; omega
          have hil : i < l.length := by rw [hll]; omega
          have ek : (elAt ops l k).1 = l[k] := by simp [elAt, hkl]
          have ei : (elAt ops l i).1 = l[i] := by simp [elAt, hil]
          refine ⟨?_, fun n hn => ?_⟩
          · simp only [orderOk, List.all_eq_true] at hord
            have := hord (l[k], k) (by rw [List.mem_zipIdx_iff_getElem?]; simp [hkl]) (l[i], i) (by rw [List.mem_zipIdx_iff_getElem?]; simp [hil])
            simp only [Bool.or_eq_true, Bool.not_eq_true', hnb, Bool.false_eq_true, or_false] at this
            rw [ek, ei]
            refine apart_spec (this.resolve_left ?_)
            have hbl : Nat.blt k i = true := by simpa using hki
            rw [hbl]; simp
          · refine hasNat_mem ?_
            show n ∈ notYet ops l i
            unfold notYet
            rw [List.mem_flatMap]
            refine ⟨(l[k], k), by rw [List.mem_zipIdx_iff_getElem?]; simp [hkl], ?_⟩
            simp only [hnb, Bool.false_eq_true, if_false]
            rw [ek] at hn
            exact hn) hrun
      have hrem' := rem_set hs hrem
      have hf' : (rem ops.size (listed.setIfInBounds i true)).length = fuel := by
        rw [hrem'] ; rw [hrem] at hf; simp at hf ⊢; omega
      have hcl' : ∀ x, (listed.setIfInBounds i true).getD x false = true → ∀ j, ((Go.Region.before ops).getD x 0).testBit j = true → (listed.setIfInBounds i true).getD j false = true := by
        intro x hx j hj
        by_cases hxi : i = x
        · subst hxi; exact Go.getD_set_true (hbef j hj)
        · rw [Go.getD_set_ne false hxi] at hx
          exact Go.getD_set_true (hcl x hx j hj)
      have go : ∀ {g1 : Gh} {w1 : World} {β1 : Nat → Nat} {a1 : Act}, a1.tmps.size = a.tmps.size → DefOk g1 w w1 a.defers a1.defers → a1.defers = a.defers → Rel M g1 w1 β1 st1 a1.tmps → Evo g w g1 w1 → Go.wpAnyIn F m P .any ops Q fuel (listed.setIfInBounds i true) a1 w1 := by
        intro g1 w1 β1 a1 hs1 hd1 hq1 hR1 hE1
        refine ih _ (by simpa using hs) hf' hcl' st1 stF' g1 w1 β1 a1 (by rw [hs1]; exact hnt) (by rw [hrem', List.map_append]; exact hrest) hR1 Q (fun a' w' st' he hg => ?_)
        exact hQ a' w' st' (heqv.trans he) (hg.trans hE1 hs1 hd1 (fun _ => hq1) id)
      have hd : DstOk o a := fun n hn => Nat.lt_of_lt_of_le (hdst o (by
        have := Array.mem_of_getElem? ho
        simpa using this) n hn) hnt
      unfold Go.wpOpIn
      simp only [ho]
      unfold stepD at hstep
      rw [hel] at hstep
      split at hstep
      · rename_i hw
        rw [wanted_rep hR hq3 hw]
        simp only [if_true]
        refine wpIn_of_wp hF (hnd o (by
          have := Array.mem_of_getElem? ho
          simpa using this)) ?_
        split at hstep
        · rename_i r hr
          rw [Bool.cond_eq_ite] at hstep
          split at hstep
          · cases hstep
          · rename_i hp
            have hpan : r.pan = false := by
              simp only [Bool.or_eq_true, not_or] at hp
              simpa using hp.1
            have hput := putD_put hstep
            have hq5 := hr
            rw [hq4] at hq5
            have hq6 := orStuck_some hq5
            rw [← hq4] at hq6
            refine sim_op hcs hd hR hq6 (fun hloc hn => ?_) hr ⟨fun _ c w1 g1 β1 hR1 hE1 => ?_, fun hp2 => ?_⟩
            · rw [hn] at hloc; simp at hloc
            · rw [← hq2, hput, hq2] at hR1
              exact go (put_size _ _ _) (put_def _ _ _) (put_defers _ _ _) hR1 hE1
            · rw [hpan] at hp2; cases hp2
        · cases hstep
      · rename_i hw
        rw [wanted_rep hR hq3 hw]
        simp only [Bool.false_eq_true, if_false]
        simp only [Option.some.injEq] at hstep
        subst hstep
        refine ⟨fun f _ => hF.fn f, ?_⟩
        exact go (put_size _ _ _) (put_def _ _ _) (put_defers _ _ _) (by rw [hq2]; exact rel_skip hR hd) (Evo.refl g w)
      · cases hstep

theorem openSim (hm : P.follows .mixedOrders = true) (hcs : CallSim P M call) (hlo : CallLo call) : OpenSim P M call := by
  intro A rid ops l htr hlex hord st e st' hrun g w β a nt hdst hnt hR F m hF hnd Q hQ
  obtain ⟨rfl, hrunD⟩ := runOpsD_runD hrun
  have hll : l.length = ops.size := by simpa using (trOps_get htr).1
  refine Go.wpIn_region_any hm ?_
  have hall : ∀ i, i < ops.size → (Array.replicate ops.size false).getD i true = false := fun i hi => by simp [hi]
  have hrem : rem ops.size (Array.replicate ops.size false) = List.range ops.size := by
    unfold rem
    rw [List.filter_eq_self]
    intro i hi
    rw [hall i (by simpa using hi)]; rfl
  have hsm : SameMem w { w with drawn := w.drawn + 1 } := ⟨rfl, rfl, rfl⟩
  refine sim_any hcs hlo hF htr hlex hord hdst (nd_of hnd) ops.size _ (by simp) (by rw [hrem]; simp) (fun x hx => ?_) st st' g { w with drawn := w.drawn + 1 } β a hnt (by rw [hrem, ← hll, ← zip_els]; exact hrunD) (hR.sameMem hsm) Q (fun a' w' st2 he hg => ?_)
  · exfalso
    simp only [Array.getD_eq_getD_getElem?] at hx
    by_cases hlt : x < ops.size
    · simp [hlt] at hx
    · rw [Array.getElem?_eq_none (by simp; omega)] at hx; simp at hx
  · refine hQ .normal a' w' (show Post True M g w a .nrm st' .normal a' w' from ?_)
    obtain ⟨⟨g1, β1, hR1, hE1, hd1⟩, hs1, hq1⟩ := hg
    refine ⟨⟨g1, β1, ⟨?_, fun k => ?_, fun id o ho => ?_, hR1.fresh, hR1.gl⟩, (hsm.evo g).trans hE1, hd1.imp (fun ms h => ⟨h.1, MarksOk.base (w0 := { w with drawn := w.drawn + 1 }) (w0' := w) (Nat.le_refl _) h.2⟩)⟩, hs1, hq1⟩
    · rw [hR1.n, he.H]
    · rw [← he.e k]; exact hR1.e k
    · exact hR1.h id o (by rw [he.H]; exact ho)

/-- Calls by the small semantics are the model's. -/
theorem sound {pg : Pg} (hm : P.follows .mixedOrders = true) (hT : Tab P M pg) (hx : CallSim P M pg.ext) (hxlo : CallLo pg.ext) (n : Nat) : CallSim P M (callN pg n) := by
  have key : ∀ n, ExSim P M (exec pg n) := sim_exec (fun n h => sim_callWith hT hx (lo_exec hxlo n) h (exec_step n)) (fun n hcs => openSim hm hcs (lo_callWith hxlo (lo_exec hxlo n))) (fun n h => rangeSim hT.2 h)
  exact sim_callWith hT hx (lo_exec hxlo n) (key n) (exec_step n)

/-- The same for a function of the table, as a contract. -/
theorem sound_calls {pg : Pg} (hm : P.follows .mixedOrders = true) (hT : Tab P M pg) (hx : CallSim P M pg.ext) (hxlo : CallLo pg.ext) {n i : Nat} {vs : List V} {H : List Obj} {r : Cr} (hcall : callN pg n i vs H = some r) {f' : FuncId} (hlook : look M.fm f' = some i) (hext : pg.fn i ≠ none)
    {g : Gh} {w : World} {argv : List Value} (hargs : ArgsRep M g w 0 vs argv) (hH : RelH M g w H) : Go.Calls P f' argv.toArray w (CallPost M g w r) := by
  have key : ∀ n, ExSim P M (exec pg n) := sim_exec (fun n h => sim_callWith hT hx (lo_exec hxlo n) h (exec_step n)) (fun n hcs => openSim hm hcs (lo_callWith hxlo (lo_exec hxlo n))) (fun n h => rangeSim hT.2 h)
  exact (calls_callWith hT (lo_exec hxlo n) (key n) (exec_step n) hcall hlook hext hargs hH).1

end
end W

/-
  What the kernel works out of a call on closed data, as a fact about the call.
-/
set_option linter.unusedSimpArgs false
set_option linter.unusedVariables false
namespace W
open Go (IntKind BinOp UnOp)
mutual
def eqD : D → D → Bool
  | .b x, .b y => x == y
  | .i k x, .i k' y => eqK k k' && eqI x y
  | .s x, .s y => eqT x y
  | .nil, .nil => true
  | .sl x, .sl y => eqDs x y
  | .agg x, .agg y => eqDs x y
  | .np, .np => true
  | .nf, .nf => true
  | .ni, .ni => true
  | .nm, .nm => true
  | _, _ => false
def eqDs : List D → List D → Bool
  | [], [] => true
  | x :: l, y :: r => eqD x y && eqDs l r
  | _, _ => false
end
theorem eqK_id {k k' : IntKind} (h : eqK k k' = true) : k = k' := by cases k <;> cases k' <;> first | rfl | cases h
theorem eqI_id {x y : Int} (h : eqI x y = true) : x = y := by
  cases x <;> cases y <;> first | (have := Nat.eq_of_beq_eq_true h; subst this; rfl) | cases h
theorem eqT_id : ∀ {x y : List Nat}, eqT x y = true → x = y
  | [], [], _ => rfl
  | a :: x, b :: y, h => by
    simp only [eqT, Bool.and_eq_true] at h
    rw [Nat.eq_of_beq_eq_true h.1, eqT_id h.2]
  | [], _ :: _, h => by cases h
  | _ :: _, [], h => by cases h
mutual
theorem eqD_id : ∀ {x y : D}, eqD x y = true → x = y
  | .b x, y, h => by cases y <;> simp only [eqD] at h <;> first | cases h | skip; rw [eq_of_beq h]
  | .i k x, y, h => by
    cases y <;> simp only [eqD] at h <;> first | cases h | skip
    simp only [Bool.and_eq_true] at h
    rw [eqK_id h.1, eqI_id h.2]
  | .s x, y, h => by cases y <;> simp only [eqD] at h <;> first | cases h | skip; rw [eqT_id h]
  | .nil, y, h => by cases y <;> simp only [eqD] at h <;> first | rfl | (cases h; done) | (cases h; rfl)
  | .sl x, y, h => by cases y <;> simp only [eqD] at h <;> first | cases h | skip; rw [eqDs_id h]
  | .agg x, y, h => by cases y <;> simp only [eqD] at h <;> first | cases h | skip; rw [eqDs_id h]
  | .np, y, h => by cases y <;> simp only [eqD] at h <;> first | rfl | (cases h; done) | (cases h; rfl)
  | .nf, y, h => by cases y <;> simp only [eqD] at h <;> first | rfl | (cases h; done) | (cases h; rfl)
  | .ni, y, h => by cases y <;> simp only [eqD] at h <;> first | rfl | (cases h; done) | (cases h; rfl)
  | .nm, y, h => by cases y <;> simp only [eqD] at h <;> first | rfl | (cases h; done) | (cases h; rfl)
theorem eqDs_id : ∀ {x y : List D}, eqDs x y = true → x = y
  | [], [], _ => rfl
  | a :: x, b :: y, h => by
    simp only [eqDs, Bool.and_eq_true] at h
    rw [eqD_id h.1, eqDs_id h.2]
  | [], _ :: _, h => by simp [eqDs] at h
  | _ :: _, [], h => by simp [eqDs] at h
end
def eqVs : List V → List D → Bool
  | [], [] => true
  | .d x :: l, y :: r => eqD x y && eqVs l r
  | _, _ => false
theorem eqVs_id : ∀ {l : List V} {r : List D}, eqVs l r = true → l = r.map .d
  | [], [], _ => rfl
  | v :: l, y :: r, h => by
    cases v with
    | d x =>
      simp only [eqVs, Bool.and_eq_true] at h
      rw [eqD_id h.1, eqVs_id h.2]; rfl
    | _ => cases h
  | [], _ :: _, h => by simp [eqVs] at h
  | v :: _, [], h => by cases v <;> simp [eqVs] at h
/-- A call left this datum, and the objects as they were. -/
def isD (r : Option Cr) (x : D) : Bool := match r with
  | some ⟨false, true, .d y, _, _⟩ => eqD y x
  | _ => false
def isOsl (r : Option Cr) (x : List D) : Bool := match r with
  | some ⟨false, true, .osl y, _, _⟩ => eqDs y x
  | _ => false
def isTup (r : Option Cr) (x : List D) : Bool := match r with
  | some ⟨false, true, .tup y, _, _⟩ => eqVs y x
  | _ => false

theorem call_same {pg : Pg} (hx : CallLo pg.ext) {f : Nat} {vs : List V} {H H' : List Obj} {v : V} {lo : Nat} (h : callL pg f vs H = some ⟨false, true, v, H', lo⟩) : callL pg f vs H = some ⟨false, true, v, H, lo⟩ := by
  obtain ⟨n, hn⟩ := callL_iff.1 h
  have hlo := (lo_callWith hx (lo_exec hx n) _ _ _ _ hn).2.2 rfl
  simp only at hlo
  rw [hlo] at h
  exact h
theorem isD_call {pg : Pg} (hx : CallLo pg.ext) {N f : Nat} {vs : List V} {H : List Obj} {x : D} (h : isD (callJ pg N f vs H) x = true) : ∃ lo, callL pg f vs H = some ⟨false, true, .d x, H, lo⟩ := by
  unfold isD at h
  split at h
  · rename_i y H' lo hr
    rw [eqD_id h] at hr
    exact ⟨lo, call_same hx (callJ_lim hr)⟩
  · cases h
theorem isOsl_call {pg : Pg} (hx : CallLo pg.ext) {N f : Nat} {vs : List V} {H : List Obj} {x : List D} (h : isOsl (callJ pg N f vs H) x = true) : ∃ lo, callL pg f vs H = some ⟨false, true, .osl x, H, lo⟩ := by
  unfold isOsl at h
  split at h
  · rename_i y H' lo hr
    rw [eqDs_id h] at hr
    exact ⟨lo, call_same hx (callJ_lim hr)⟩
  · cases h
theorem isTup_call {pg : Pg} (hx : CallLo pg.ext) {N f : Nat} {vs : List V} {H : List Obj} {x : List D} (h : isTup (callJ pg N f vs H) x = true) : ∃ lo, callL pg f vs H = some ⟨false, true, .tup (x.map .d), H, lo⟩ := by
  unfold isTup at h
  split at h
  · rename_i y H' lo hr
    rw [eqVs_id h] at hr
    exact ⟨lo, call_same hx (callJ_lim hr)⟩
  · cases h
theorem noExt_lo {fn : Nat → Option Fn} : CallLo (Pg.mk fn fun _ _ _ => none).ext := fun _ _ _ _ h => by cases h
end W

set_option linter.unusedSimpArgs false
set_option linter.unusedVariables false
namespace W
open Go (IntKind BinOp UnOp)
set_option maxRecDepth 20000
def pg : Pg := ⟨prog, fun _ _ _ => none⟩
theorem ext_lo : CallLo pg.ext := noExt_lo
def tyD (f n : Int) (s : List Nat) (o : D) : D := .agg [.i .i64 f, .i .i64 n, .s s, o]
theorem basic_call {n : Int} {H : List Obj} : callL pg 19 [.d (.i .i64 n)] H = some ⟨false, true, .d (.agg [.i .i64 n, .i .i64 0, .s [], .nil]), H, H.length⟩ := by
  rw [callL_fn (fn := f_waferref11_Basic) rfl rfl]
  simp only [f_waferref11_Basic, argEnv_cons, Nat.zero_add, argEnv_nil, exL_seq, exL_ops, runOps_n, evalK_allocL, List.map_cons, List.map_nil, opC_ok, put_box, killLp_cons, killV_d, killLp_nil, runOps_nil, thenC_nrm, evalK_mov, rd_t, reduceCtorEq, get_ne, get_eq, readV_d, spent_t, put_d, evalK_build, one_i, cells_d1, vone_d, List.length_cons, List.length_nil, Nat.reduceAdd, Nat.reduceLT, fillC_1, List.set_cons_zero, fillC_nil, aggO_some, mkAgg_eq, allD_d, allD_nil, consD_some, aggV_some, okS_some, evalK_store, Nat.reduceEqDiff, readV_box, storeV_lp, cells_agg, ones_cons, one_s, one_nil, ones_nil, Bool.and_self, storeB_box, setCells_all, storeR_some, put_none, exL_ret, finC_ret, resultVs_cons, resultV_cell, resC_box, Nat.reduceLeDiff, boxV_A, List.drop_zero, List.take_succ_cons, List.take_zero, copy1_d, resultVs_nil, consO_some, leaveC_1, leaves_d, ref_d, settle_d, leave_pure]
  all_goals rfl
theorem arr_call {n f m : Int} {s : List Nat} {o : D} (ho : o = .nil ∨ ∃ l, o = .sl l) {H : List Obj} : callL pg 16 [.d (.i .i64 n), .d (.agg [.i .i64 f, .i .i64 m, .s s, o])] H = some ⟨false, true, .d (.agg [.i .i64 7, .i .i64 n, .s [], .sl [.agg [.i .i64 f, .i .i64 m, .s s, o]]]), H, H.length⟩ := by
  rw [callL_fn (fn := f_waferref11_Arr) rfl rfl]
  rcases ho with rfl | ⟨l, rfl⟩
  all_goals simp only [f_waferref11_Arr, argEnv_cons, Nat.zero_add, Nat.reduceAdd, argEnv_nil, exL_seq, exL_ops, runOps_n, evalK_box, rd_t, reduceCtorEq, get_ne, get_eq, readV_d, spent_t, cells_agg, List.map_cons, List.map_nil, ones_cons, vone_d, one_i, one_s, one_nil, ones_nil, Bool.and_self, boxN_t, opC_ok, put_box, killLp_cons, killV_d, killLp_nil, evalK_allocL, killV_box, runOps_nil, thenC_nrm, evalK_mov, put_d, evalK_load, Nat.reduceEqDiff, readV_box, loadV_lp, List.length_cons, List.length_nil, Nat.reduceLeDiff, boxV_A, List.drop_zero, List.take_succ_cons, List.take_zero, copy1_d, mkAgg_eq, allD_d, allD_nil, consD_some, aggV_some, okS_some, evalK_buildSlice, dcells_agg, List.reduceReplicate, Nat.reduceLT, fillD_cons, List.set_cons_zero, fillD_nil, wfs_cons, wf_agg, dones_cons, dones_nil, wfs_nil, slO_some, put_osl, evalK_build, rd_c, readV_osl, cells_d1, fillC_1, List.set_cons_succ, one_sl, fillC_nil, aggO_some, evalK_store, storeV_lp, storeB_box, setCells_all, storeR_some, put_none, exL_ret, finC_ret, resultVs_cons, resultV_cell, resC_box, resultVs_nil, consO_some, leaveC_1, leaves_d, ref_d, settle_d, leave_pure]
  all_goals rfl
theorem known_run : isD (callJ pg 3000 7 [] []) (.b true) = true := by decide +kernel
theorem known_call : ∃ lo, callL pg 7 [] [] = some ⟨false, true, .d (.b true), [], lo⟩ := isD_call ext_lo known_run
def I0 : D := .agg [.i .i64 1, .i .i64 0, .s [], .nil]
def A1 (n : Int) (t : D) : D := .agg [.i .i64 7, .i .i64 n, .s [], .sl [t]]
def recG (d : Int) : D := .agg [.s [], .b false, .s [], .sl [.agg [.s [97], .b false, .i .i64 7, .i .i64 16, .s [], .sl [A1 1023 I0]], .agg [.s [98], .b false, .i .i64 7, .i .i64 d, .s [], .sl [I0]]]]
def HG (d : Int) : List Obj := [.map [(.s [77, 46, 82], .d (recG d))]]
theorem wordsG0 : isTup (callJ pg 3000 17 [.d (.agg [.i .i64 8, .i .i64 0, .s [77, 46, 82], .nil]), .map 0] (HG 14)) [.i .i64 16382, .b true] = true := by decide +kernel
theorem wordsG1 : isTup (callJ pg 3000 17 [.d (.agg [.i .i64 8, .i .i64 0, .s [77, 46, 82], .nil]), .map 0] (HG 15)) [.i .i64 16383, .b true] = true := by decide +kernel
theorem wordsG2 : isTup (callJ pg 3000 17 [.d (.agg [.i .i64 8, .i .i64 0, .s [77, 46, 82], .nil]), .map 0] (HG 16)) [.i .i64 16384, .b true] = true := by decide +kernel
theorem wordsG3 : isTup (callJ pg 3000 17 [.d (.agg [.i .i64 8, .i .i64 0, .s [77, 46, 82], .nil]), .map 0] (HG 17)) [.i .i64 0, .b false] = true := by decide +kernel
theorem wordsG4 : isTup (callJ pg 3000 17 [.d (.agg [.i .i64 8, .i .i64 0, .s [77, 46, 82], .nil]), .map 0] (HG 18)) [.i .i64 0, .b false] = true := by decide +kernel
theorem words16 : isTup (callJ pg 3000 17 [.d (A1 16 (A1 1024 I0)), .d .nm] []) [.i .i64 16384, .b true] = true := by decide +kernel
theorem words17 : isTup (callJ pg 3000 17 [.d (A1 17 (A1 1024 I0)), .d .nm] []) [.i .i64 0, .b false] = true := by decide +kernel
theorem great_law {n : Int} (hn : 0 ≤ n) (b : Bool) : callL pg 6 [.d (.i .u8 n), .d (.b b)] [] = some ⟨false, true, .d (.b true), [], 0⟩ := by
  obtain ⟨lo, hk⟩ := known_call
  have h5 : n.tmod 5 = 0 ∨ n.tmod 5 = 1 ∨ n.tmod 5 = 2 ∨ n.tmod 5 = 3 ∨ n.tmod 5 = 4 := by
    have := Int.tmod_eq_emod_of_nonneg (b := 5) hn
    omega
  obtain ⟨l0, g0⟩ := isTup_call ext_lo wordsG0
  obtain ⟨l1, g1⟩ := isTup_call ext_lo wordsG1
  obtain ⟨l2, g2⟩ := isTup_call ext_lo wordsG2
  obtain ⟨l3, g3⟩ := isTup_call ext_lo wordsG3
  obtain ⟨l4, g4⟩ := isTup_call ext_lo wordsG4
  obtain ⟨l8, w2⟩ := isTup_call ext_lo words16
  obtain ⟨l9, w3⟩ := isTup_call ext_lo words17
  have hz : ∀ n : Nat, min 0 n = 0 := Nat.zero_min
  have b1 := fun (H : List Obj) => basic_call (n := 1) (H := H)
  have a1 := fun (n : Int) (H : List Obj) => arr_call (n := n) (f := 1) (m := 0) (s := []) (o := .nil) (.inl rfl) (H := H)
  have a2 := fun (n m : Int) (t : D) (H : List Obj) => arr_call (n := n) (f := 7) (m := m) (s := []) (o := .sl [t]) (.inr ⟨_, rfl⟩) (H := H)
  simp only [HG, recG, A1, I0, List.map_cons, List.map_nil] at g0 g1 g2 g3 g4 w2 w3
  have ix : iaV (.d (.sl [.agg [.i .i64 7, .i .i64 1024, .s [], .sl [.agg [.i .i64 1, .i .i64 0, .s [], .nil]]]])) (.d (.i .i64 0)) 4 none = some (.cp (.agg [.i .i64 7, .i .i64 1024, .s [], .sl [.agg [.i .i64 1, .i .i64 0, .s [], .nil]]])) := rfl
  have ld : ∀ st, loadV none ⟨4, true⟩ st (.cp (.agg [.i .i64 7, .i .i64 1024, .s [], .sl [.agg [.i .i64 1, .i .i64 0, .s [], .nil]]])) = some (.d (.agg [.i .i64 7, .i .i64 1024, .s [], .sl [.agg [.i .i64 1, .i .i64 0, .s [], .nil]]])) := fun st => rfl
  have xk0 : wr .i64 (wr .i64 0 - 2) = -2 := rfl
  have yk0 : wr .i64 14 = 14 := rfl
  have zk0 : wr .i64 16382 = 16382 := rfl
  have xk1 : wr .i64 (wr .i64 1 - 2) = -1 := rfl
  have yk1 : wr .i64 15 = 15 := rfl
  have zk1 : wr .i64 16383 = 16383 := rfl
  have xk2 : wr .i64 (wr .i64 2 - 2) = 0 := rfl
  have yk2 : wr .i64 16 = 16 := rfl
  have zk2 : wr .i64 16384 = 16384 := rfl
  have xk3 : wr .i64 (wr .i64 3 - 2) = 1 := rfl
  have yk3 : wr .i64 17 = 17 := rfl
  have zk3 : wr .i64 16385 = 16385 := rfl
  have xk4 : wr .i64 (wr .i64 4 - 2) = 2 := rfl
  have yk4 : wr .i64 18 = 18 := rfl
  have zk4 : wr .i64 16386 = 16386 := rfl
  rw [callL_fn (fn := f_waferlaw12_TypesGreat) rfl rfl]
  rcases h5 with hm | hm | hm | hm | hm
  · cases b
    all_goals simp only [f_waferlaw12_TypesGreat, argEnv_cons, Nat.zero_add, Nat.reduceAdd, argEnv_nil, List.length_nil, exL_seq, exL_ops, runOps_n, evalK_mov, rd_c, spent_c, opC_ok, put_d, runOps_nil, thenC_nrm, evalK_call, List.map_nil, allLeave_nil, eCall_f, hk, callC_some, spentAll_nil, hz, evalK_un, rd_t, get_eq, readV_d, un_not, Bool.not_true, Option.map_some, okS_some, exL_cond, condC_b, Bool.false_eq_true, ↓reduceIte, exL_skip, reduceCtorEq, get_ne, spent_t, evalK_bin, isC_t, isC_c, Bool.or_true, Int.reduceEq, bin_rem, hm, evalK_conv, bin_sub, xk0, Int.reduceNeg, List.map_cons, allLeave_cons, leaves_d, Bool.and_self, b1, spentAll_cons, a1, a2, evalK_allocL, put_box, killLp_cons, killV_d, killLp_nil, evalK_store, rd_mv, Nat.reduceEqDiff, takeV_d, readV_box, spent_mv, storeV_lp, cells_agg, List.length_cons, ones_cons, vone_d, one_i, one_s, one_sl, ones_nil, storeB_box, setCells_all, storeR_some, put_none, evalK_load, loadV_lp, Nat.reduceLeDiff, boxV_A, List.drop_zero, List.take_succ_cons, List.take_zero, copy1_d, mkAgg_eq, allD_d, allD_nil, consD_some, aggV_some, w2, put_tup, readV_tup, evalK_extract, extV_0, copy_d, extV_1, evalK_fieldAddr, faV_lp, put_lp, readV_lp, boxV_1, List.getElem?_cons_succ, List.getElem?_cons_zero, evalK_indexAddr, ix, put_cp, readV_cp, ld, w3, runOps_g, wantG_bt, wantC_b, bin_eql, decide_true, evalK_pick, pickV_b, Bool.not_false, exL_ret, finC_ret, resultVs_cons, resultV_t, ownV_d, resultVs_nil, consO_some, leaveC_1, evalK_build, cells_d1, Nat.reduceLT, fillC_1, List.set_cons_zero, dones_cons, dones_nil, fillC_A, List.cons_append, List.nil_append, List.drop_succ_cons, List.append_nil, fillC_nil, aggO_some, Bool.or_false, bin_add, Int.reduceAdd, yk0, evalK_buildSlice, dcells_agg, List.reduceReplicate, fillD_cons, List.set_cons_succ, fillD_nil, wfs_cons, wf_agg, one_b, wfs_nil, slO_some, put_osl, readV_osl, killV_osl, killV_box, killV_undef, evalK_mkMap, put_map, evalK_mapUpdate, readV_map, ok_d, updV_sE, updE_map, keySet_nil, setO_some, setAt_one, takeV_map, leaves_map, g0, bin_leq, Int.reduceLE, Bool.or_self, bin_beql, beq_self_eq_true, wantG_bf, zk0, thenC_ret]
    all_goals rfl
  · cases b
    all_goals simp only [f_waferlaw12_TypesGreat, argEnv_cons, Nat.zero_add, Nat.reduceAdd, argEnv_nil, List.length_nil, exL_seq, exL_ops, runOps_n, evalK_mov, rd_c, spent_c, opC_ok, put_d, runOps_nil, thenC_nrm, evalK_call, List.map_nil, allLeave_nil, eCall_f, hk, callC_some, spentAll_nil, hz, evalK_un, rd_t, get_eq, readV_d, un_not, Bool.not_true, Option.map_some, okS_some, exL_cond, condC_b, Bool.false_eq_true, ↓reduceIte, exL_skip, reduceCtorEq, get_ne, spent_t, evalK_bin, isC_t, isC_c, Bool.or_true, Int.reduceEq, bin_rem, hm, evalK_conv, bin_sub, xk1, Int.reduceNeg, List.map_cons, allLeave_cons, leaves_d, Bool.and_self, b1, spentAll_cons, a1, a2, evalK_allocL, put_box, killLp_cons, killV_d, killLp_nil, evalK_store, rd_mv, Nat.reduceEqDiff, takeV_d, readV_box, spent_mv, storeV_lp, cells_agg, List.length_cons, ones_cons, vone_d, one_i, one_s, one_sl, ones_nil, storeB_box, setCells_all, storeR_some, put_none, evalK_load, loadV_lp, Nat.reduceLeDiff, boxV_A, List.drop_zero, List.take_succ_cons, List.take_zero, copy1_d, mkAgg_eq, allD_d, allD_nil, consD_some, aggV_some, w2, put_tup, readV_tup, evalK_extract, extV_0, copy_d, extV_1, evalK_fieldAddr, faV_lp, put_lp, readV_lp, boxV_1, List.getElem?_cons_succ, List.getElem?_cons_zero, evalK_indexAddr, ix, put_cp, readV_cp, ld, w3, runOps_g, wantG_bt, wantC_b, bin_eql, decide_true, evalK_pick, pickV_b, Bool.not_false, exL_ret, finC_ret, resultVs_cons, resultV_t, ownV_d, resultVs_nil, consO_some, leaveC_1, evalK_build, cells_d1, Nat.reduceLT, fillC_1, List.set_cons_zero, dones_cons, dones_nil, fillC_A, List.cons_append, List.nil_append, List.drop_succ_cons, List.append_nil, fillC_nil, aggO_some, Bool.or_false, bin_add, Int.reduceAdd, yk1, evalK_buildSlice, dcells_agg, List.reduceReplicate, fillD_cons, List.set_cons_succ, fillD_nil, wfs_cons, wf_agg, one_b, wfs_nil, slO_some, put_osl, readV_osl, killV_osl, killV_box, killV_undef, evalK_mkMap, put_map, evalK_mapUpdate, readV_map, ok_d, updV_sE, updE_map, keySet_nil, setO_some, setAt_one, takeV_map, leaves_map, g1, bin_leq, Int.reduceLE, Bool.or_self, bin_beql, beq_self_eq_true, wantG_bf, zk1, thenC_ret]
    all_goals rfl
  · cases b
    all_goals simp only [f_waferlaw12_TypesGreat, argEnv_cons, Nat.zero_add, Nat.reduceAdd, argEnv_nil, List.length_nil, exL_seq, exL_ops, runOps_n, evalK_mov, rd_c, spent_c, opC_ok, put_d, runOps_nil, thenC_nrm, evalK_call, List.map_nil, allLeave_nil, eCall_f, hk, callC_some, spentAll_nil, hz, evalK_un, rd_t, get_eq, readV_d, un_not, Bool.not_true, Option.map_some, okS_some, exL_cond, condC_b, Bool.false_eq_true, ↓reduceIte, exL_skip, reduceCtorEq, get_ne, spent_t, evalK_bin, isC_t, isC_c, Bool.or_true, Int.reduceEq, bin_rem, hm, evalK_conv, bin_sub, xk2, List.map_cons, allLeave_cons, leaves_d, Bool.and_self, b1, spentAll_cons, a1, a2, evalK_allocL, put_box, killLp_cons, killV_d, killLp_nil, evalK_store, rd_mv, Nat.reduceEqDiff, takeV_d, readV_box, spent_mv, storeV_lp, cells_agg, List.length_cons, ones_cons, vone_d, one_i, one_s, one_sl, ones_nil, storeB_box, setCells_all, storeR_some, put_none, evalK_load, loadV_lp, Nat.reduceLeDiff, boxV_A, List.drop_zero, List.take_succ_cons, List.take_zero, copy1_d, mkAgg_eq, allD_d, allD_nil, consD_some, aggV_some, w2, put_tup, readV_tup, evalK_extract, extV_0, copy_d, extV_1, evalK_fieldAddr, faV_lp, put_lp, readV_lp, boxV_1, List.getElem?_cons_succ, List.getElem?_cons_zero, evalK_indexAddr, ix, put_cp, readV_cp, ld, w3, runOps_g, wantG_bt, wantC_b, bin_eql, decide_true, evalK_pick, pickV_b, Bool.not_false, exL_ret, finC_ret, resultVs_cons, resultV_t, ownV_d, resultVs_nil, consO_some, leaveC_1, evalK_build, cells_d1, Nat.reduceLT, fillC_1, List.set_cons_zero, dones_cons, dones_nil, fillC_A, List.cons_append, List.nil_append, List.drop_succ_cons, List.append_nil, fillC_nil, aggO_some, Bool.or_false, bin_add, Int.reduceAdd, yk2, evalK_buildSlice, dcells_agg, List.reduceReplicate, fillD_cons, List.set_cons_succ, fillD_nil, wfs_cons, wf_agg, one_b, wfs_nil, slO_some, put_osl, readV_osl, killV_osl, killV_box, killV_undef, evalK_mkMap, put_map, evalK_mapUpdate, readV_map, ok_d, updV_sE, updE_map, keySet_nil, setO_some, setAt_one, takeV_map, leaves_map, g2, bin_leq, Int.reduceLE, Bool.or_self, bin_beql, beq_self_eq_true, wantG_bf, zk2, thenC_ret]
    all_goals rfl
  · cases b
    all_goals simp only [f_waferlaw12_TypesGreat, argEnv_cons, Nat.zero_add, Nat.reduceAdd, argEnv_nil, List.length_nil, exL_seq, exL_ops, runOps_n, evalK_mov, rd_c, spent_c, opC_ok, put_d, runOps_nil, thenC_nrm, evalK_call, List.map_nil, allLeave_nil, eCall_f, hk, callC_some, spentAll_nil, hz, evalK_un, rd_t, get_eq, readV_d, un_not, Bool.not_true, Option.map_some, okS_some, exL_cond, condC_b, Bool.false_eq_true, ↓reduceIte, exL_skip, reduceCtorEq, get_ne, spent_t, evalK_bin, isC_t, isC_c, Bool.or_true, Int.reduceEq, bin_rem, hm, evalK_conv, bin_sub, xk3, List.map_cons, allLeave_cons, leaves_d, Bool.and_self, b1, spentAll_cons, a1, a2, evalK_allocL, put_box, killLp_cons, killV_d, killLp_nil, evalK_store, rd_mv, Nat.reduceEqDiff, takeV_d, readV_box, spent_mv, storeV_lp, cells_agg, List.length_cons, ones_cons, vone_d, one_i, one_s, one_sl, ones_nil, storeB_box, setCells_all, storeR_some, put_none, evalK_load, loadV_lp, Nat.reduceLeDiff, boxV_A, List.drop_zero, List.take_succ_cons, List.take_zero, copy1_d, mkAgg_eq, allD_d, allD_nil, consD_some, aggV_some, w2, put_tup, readV_tup, evalK_extract, extV_0, copy_d, extV_1, evalK_fieldAddr, faV_lp, put_lp, readV_lp, boxV_1, List.getElem?_cons_succ, List.getElem?_cons_zero, evalK_indexAddr, ix, put_cp, readV_cp, ld, w3, runOps_g, wantG_bt, wantC_b, bin_eql, decide_true, evalK_pick, pickV_b, Bool.not_false, exL_ret, finC_ret, resultVs_cons, resultV_t, ownV_d, resultVs_nil, consO_some, leaveC_1, evalK_build, cells_d1, Nat.reduceLT, fillC_1, List.set_cons_zero, dones_cons, dones_nil, fillC_A, List.cons_append, List.nil_append, List.drop_succ_cons, List.append_nil, fillC_nil, aggO_some, Bool.or_false, bin_add, Int.reduceAdd, yk3, evalK_buildSlice, dcells_agg, List.reduceReplicate, fillD_cons, List.set_cons_succ, fillD_nil, wfs_cons, wf_agg, one_b, wfs_nil, slO_some, put_osl, readV_osl, killV_osl, killV_box, killV_undef, evalK_mkMap, put_map, evalK_mapUpdate, readV_map, ok_d, updV_sE, updE_map, keySet_nil, setO_some, setAt_one, takeV_map, leaves_map, g3, bin_leq, Int.reduceLE, decide_false, Bool.or_self, bin_beql, beq_self_eq_true, wantG_bf, pickV_t, thenC_ret]
    all_goals rfl
  · cases b
    all_goals simp only [f_waferlaw12_TypesGreat, argEnv_cons, Nat.zero_add, Nat.reduceAdd, argEnv_nil, List.length_nil, exL_seq, exL_ops, runOps_n, evalK_mov, rd_c, spent_c, opC_ok, put_d, runOps_nil, thenC_nrm, evalK_call, List.map_nil, allLeave_nil, eCall_f, hk, callC_some, spentAll_nil, hz, evalK_un, rd_t, get_eq, readV_d, un_not, Bool.not_true, Option.map_some, okS_some, exL_cond, condC_b, Bool.false_eq_true, ↓reduceIte, exL_skip, reduceCtorEq, get_ne, spent_t, evalK_bin, isC_t, isC_c, Bool.or_true, Int.reduceEq, bin_rem, hm, evalK_conv, bin_sub, xk4, List.map_cons, allLeave_cons, leaves_d, Bool.and_self, b1, spentAll_cons, a1, a2, evalK_allocL, put_box, killLp_cons, killV_d, killLp_nil, evalK_store, rd_mv, Nat.reduceEqDiff, takeV_d, readV_box, spent_mv, storeV_lp, cells_agg, List.length_cons, ones_cons, vone_d, one_i, one_s, one_sl, ones_nil, storeB_box, setCells_all, storeR_some, put_none, evalK_load, loadV_lp, Nat.reduceLeDiff, boxV_A, List.drop_zero, List.take_succ_cons, List.take_zero, copy1_d, mkAgg_eq, allD_d, allD_nil, consD_some, aggV_some, w2, put_tup, readV_tup, evalK_extract, extV_0, copy_d, extV_1, evalK_fieldAddr, faV_lp, put_lp, readV_lp, boxV_1, List.getElem?_cons_succ, List.getElem?_cons_zero, evalK_indexAddr, ix, put_cp, readV_cp, ld, w3, runOps_g, wantG_bt, wantC_b, bin_eql, decide_true, evalK_pick, pickV_b, Bool.not_false, exL_ret, finC_ret, resultVs_cons, resultV_t, ownV_d, resultVs_nil, consO_some, leaveC_1, evalK_build, cells_d1, Nat.reduceLT, fillC_1, List.set_cons_zero, dones_cons, dones_nil, fillC_A, List.cons_append, List.nil_append, List.drop_succ_cons, List.append_nil, fillC_nil, aggO_some, Bool.or_false, bin_add, Int.reduceAdd, yk4, evalK_buildSlice, dcells_agg, List.reduceReplicate, fillD_cons, List.set_cons_succ, fillD_nil, wfs_cons, wf_agg, one_b, wfs_nil, slO_some, put_osl, readV_osl, killV_osl, killV_box, killV_undef, evalK_mkMap, put_map, evalK_mapUpdate, readV_map, ok_d, updV_sE, updE_map, keySet_nil, setO_some, setAt_one, takeV_map, leaves_map, g4, bin_leq, Int.reduceLE, decide_false, Bool.or_self, bin_beql, beq_self_eq_true, wantG_bf, pickV_t, thenC_ret]
    all_goals rfl
end W

set_option linter.unusedSimpArgs false
set_option linter.unusedVariables false
namespace W
open Go (IntKind BinOp UnOp)
set_option maxRecDepth 20000
def nm (i : Nat) : List Nat := [77, 46, 97 + i]
def vrD (i : Nat) : D := .agg [.s [102, 97 + i], .b false, .i .i64 7, .i .i64 ((i + 1 : Nat) : Int), .s [], .sl [.agg [.i .i64 1, .i .i64 0, .s [], .nil]]]
def rcD (i : Nat) : D := .agg [.s [82], .b false, .s (if i = 0 then [] else nm (i - 1)), .sl [vrD i]]
def es : Nat → List (D × V)
  | 0 => []
  | k + 1 => es k ++ [(.s (nm k), .d (rcD k))]
def fl : Nat → List D
  | 0 => []
  | x + 1 => fl x ++ [vrD x]
end W

