/-
  TypesRecords: part 6 of what the proof rests on (a value semantics for a part of the language, sound against the model; the walks).
-/
import Derived.WalkKit
import Derived.ProofKit
import Derived.OpenShut
import Derived.Carry
import Derived.ChangeSame
import Derived.RowKit
import Derived.Lib.LaidTab
import Derived.Test.YtbdngljblileeaaDoorW5
set_option linter.unusedSimpArgs false
set_option linter.unusedVariables false
namespace W
open Go (IntKind BinOp UnOp)
set_option maxRecDepth 20000
structure RtOk (rt : D → Bool) : Prop where
  k : ∀ (k : Int) (s : List Nat) (o : D), rt (.agg [.i .i64 7, .i .i64 k, .s s, o]) = true → 1 ≤ k ∧ k ≤ 1024
  y : ∀ (k : Int) (s : List Nat) (o : D), rt (.agg [.i .i64 7, .i .i64 k, .s s, o]) = true → ∃ y, itemsD o = [y]
  s : ∀ (k : Int) (s : List Nat) (o : D), rt (.agg [.i .i64 8, .i .i64 k, .s s, o]) = true → s ≠ []
def Low (rt : D → Bool) (ord : Ord) (m : Memo) (q : Nat) : Prop := ∀ s v, lookM s m = some v → v < 0 → ∀ h, h < q → recW ord (wd rt ord h) s = none
def NegIn (m' m : Memo) : Prop := ∀ s v, lookM s m' = some v → v < 0 → ∃ v', lookM s m = some v' ∧ v' < 0
theorem Low.of {rt : D → Bool} {ord : Ord} {m m' : Memo} {q q' : Nat} (h : Low rt ord m q) (hn : NegIn m' m) (hq : q' ≤ q) : Low rt ord m' q' := fun s v hl hv h' hh => by
  obtain ⟨v', h1, h2⟩ := hn s v hl hv
  exact h s v' h1 h2 h' (by omega)
theorem NegIn.refl (m : Memo) : NegIn m m := fun s v h1 h2 => ⟨v, h1, h2⟩
theorem NegIn.trans {a b c : Memo} (h : NegIn a b) (h' : NegIn b c) : NegIn a c := fun s v h1 h2 => by
  obtain ⟨v', h3, h4⟩ := h s v h1 h2
  exact h' s v' h3 h4
def I64 (t : D) : Prop := ∃ f k s o, t = .agg [.i .i64 f, .i .i64 k, .s s, o]
theorem sumA_nonneg {g : D → Option Int} (hg : ∀ t n, g t = some n → 0 ≤ n) : ∀ (l : List D) (n : Int), sumA (l.map g) = some n → 0 ≤ n
  | [], n, h => by simp only [List.map_nil, sumA] at h; cases h; omega
  | t :: l, n, h => by
    simp only [List.map_cons, sumA] at h
    split at h
    · rename_i a b h1 h2
      cases h
      have := hg t a h1
      have := sumA_nonneg hg l b h2
      omega
    · cases h
theorem limW_some {x : Option Int} {n : Int} (h : limW x = some n) : x = some n ∧ n ≤ 16384 := by
  unfold limW at h
  split at h
  · split at h
    · cases h; exact ⟨rfl, by assumption⟩
    · cases h
  · cases h
theorem recW_some {ord : Ord} {g : D → Option Int} {s : List Nat} {n : Int} (h : recW ord g s = some n) : ∃ l, ord s = some l ∧ sumA (l.map g) = some n ∧ n ≤ 16384 := by
  unfold recW at h
  split at h
  · cases h
  · rename_i l hl
    obtain ⟨h1, h2⟩ := limW_some h
    exact ⟨l, hl, h1, h2⟩
theorem recW_det {rt : D → Bool} {ord : Ord} {h h' : Nat} {s : List Nat} {a b : Int} (h1 : recW ord (wd rt ord h) s = some a) (h2 : recW ord (wd rt ord h') s = some b) : a = b := by
  have e1 := recW_le (wd_le (Nat.le_max_left h h')) h1
  have e2 := recW_le (wd_le (Nat.le_max_right h h')) h2
  rw [e1] at e2; cases e2; rfl
theorem wd_bad {rt : D → Bool} {ord : Ord} {t : D} (h : rt t = false) : ∀ q, wd rt ord q t = none
  | 0 => rfl
  | q + 1 => by simp [wd, stepW, h]
theorem wd_arr {rt : D → Bool} {ord : Ord} {k n : Int} {s : List Nat} {o y : D} (hr : rt (.agg [.i .i64 7, .i .i64 k, .s s, o]) = true) (hy : itemsD o = [y]) {q : Nat} (h : wd rt ord q (.agg [.i .i64 7, .i .i64 k, .s s, o]) = some n) :
    ∃ p z, q = p + 1 ∧ wd rt ord p y = some z ∧ z ≤ Int.tdiv 16384 k ∧ n = z * k := by
  cases q with
  | zero => cases h
  | succ p =>
    simp only [wd, stepW, hr, if_true, hy, arrW] at h
    split at h
    · rename_i z hz
      split at h
      · rename_i hle
        cases h
        exact ⟨p, z, rfl, hz, hle, rfl⟩
      · cases h
    · cases h
theorem wd_rec {rt : D → Bool} {ord : Ord} {k n : Int} {s : List Nat} {o : D} (hr : rt (.agg [.i .i64 8, .i .i64 k, .s s, o]) = true) {q : Nat} (h : wd rt ord q (.agg [.i .i64 8, .i .i64 k, .s s, o]) = some n) :
    ∃ p, q = p + 1 ∧ recW ord (wd rt ord p) s = some n := by
  cases q with
  | zero => cases h
  | succ p =>
    simp only [wd, stepW, hr, if_true] at h
    exact ⟨p, rfl, by simpa using h⟩
theorem leastW {P : Nat → Prop} : ∀ q, P q → ∃ p, p ≤ q ∧ P p ∧ ∀ h, h < p → ¬ P h := by
  intro q
  induction q using Nat.strongRecOn with
  | ind q ih =>
    intro hq
    by_cases h : ∃ p, p < q ∧ P p
    · obtain ⟨p, h1, h2⟩ := h
      obtain ⟨p', i1, i2, i3⟩ := ih p h1 h2
      exact ⟨p', by omega, i2, i3⟩
    · exact ⟨q, Nat.le_refl _, hq, fun p hp hP => h ⟨p, hp, hP⟩⟩
def Cpl (rt : D → Bool) (ord : Ord) (m m' : Memo) (r : Int) : Tsk → Prop
  | .ty t => ∀ q n, wd rt ord q t = some n → InvM rt ord m → Low rt ord m q → r = n ∧ InvM rt ord m' ∧ NegIn m' m
  | .sum a l => ∀ q k, sumA (l.map (wd rt ord q)) = some k → 0 ≤ a → a + k ≤ 16384 → InvM rt ord m → Low rt ord m q → r = a + k ∧ InvM rt ord m' ∧ NegIn m' m
theorem Ev.complete {rt : D → Bool} {ord : Ord} (hrt : RtOk rt) (hpos : ∀ q t n, wd rt ord q t = some n → 0 ≤ n) {m m' : Memo} {T : Tsk} {r : Int} (h : Ev rt ord m T m' r) : Cpl rt ord m m' r T := by
  induction h with
  | bad h => intro q n hq; rw [wd_bad h] at hq; cases hq
  | @arrNo m m' k s o y n hr hy h hn ih =>
    intro q n' hq hi hl
    obtain ⟨p, z, rfl, h1, h2, h3⟩ := wd_arr hr hy hq
    obtain ⟨e, _, _⟩ := ih p z h1 hi (hl.of (NegIn.refl _) (by omega))
    have := hpos p y z h1
    omega
  | @arr m m' k s o y n hr hy h h0 hn ih =>
    intro q n' hq hi hl
    obtain ⟨p, z, rfl, h1, h2, h3⟩ := wd_arr hr hy hq
    obtain ⟨e, i1, i2⟩ := ih p z h1 hi (hl.of (NegIn.refl _) (by omega))
    subst e
    exact ⟨h3.symm, i1, i2⟩
  | @one m f k s o hr h7 h8 =>
    intro q n hq hi hl
    cases q with
    | zero => cases hq
    | succ q =>
      simp only [wd, stepW, hr, if_true, if_neg h7, if_neg h8] at hq
      cases hq
      exact ⟨rfl, hi, NegIn.refl _⟩
  | @memo m k s o v hr hlk =>
    intro q n hq hi hl
    obtain ⟨p, rfl, h1⟩ := wd_rec hr hq
    by_cases hv : v < 0
    · have := hl s v hlk hv p (by omega)
      rw [h1] at this; cases this
    · obtain ⟨h', h2⟩ := hi s v hlk (by omega)
      exact ⟨recW_det h2 h1, hi, NegIn.refl _⟩
  | @noCh m k s o hr hlk ho =>
    intro q n hq hi hl
    obtain ⟨p, rfl, h1⟩ := wd_rec hr hq
    obtain ⟨l, h2, _⟩ := recW_some h1
    rw [ho] at h2; cases h2
  | @recNo m m' k s o l r hr hlk ho h hn ih =>
    intro q n hq hi hl
    obtain ⟨p, rfl, h1⟩ := wd_rec hr hq
    obtain ⟨p0, hp0, ⟨n0, hn0⟩, hmin⟩ := leastW (P := fun p => ∃ n, recW ord (wd rt ord p) s = some n) p ⟨n, h1⟩
    obtain ⟨l', e1, e2, e3⟩ := recW_some hn0
    rw [ho] at e1; cases e1
    have hlow : Low rt ord (setM s (-1) m) p0 := fun s' v' hl' hv' h' hh => by
      rw [lookM_set] at hl'
      split at hl'
      · rename_i e
        rw [e]
        cases hx : recW ord (wd rt ord h') s with
        | none => rfl
        | some z => exact absurd ⟨z, hx⟩ (hmin h' hh)
      · exact hl s' v' hl' hv' h' (by omega)
    have := (ih p0 n0 e2 (by omega) (by omega) (hi.neg s) hlow).1
    have := sumA_nonneg (hpos p0) l n0 e2
    omega
  | @recOk m m' k s o l r hr hlk ho h hn ih =>
    intro q n hq hi hl
    obtain ⟨p, rfl, h1⟩ := wd_rec hr hq
    obtain ⟨p0, hp0, ⟨n0, hn0⟩, hmin⟩ := leastW (P := fun p => ∃ n, recW ord (wd rt ord p) s = some n) p ⟨n, h1⟩
    obtain ⟨l', e1, e2, e3⟩ := recW_some hn0
    rw [ho] at e1; cases e1
    have hlow : Low rt ord (setM s (-1) m) p0 := fun s' v' hl' hv' h' hh => by
      rw [lookM_set] at hl'
      split at hl'
      · rename_i e
        rw [e]
        cases hx : recW ord (wd rt ord h') s with
        | none => rfl
        | some z => exact absurd ⟨z, hx⟩ (hmin h' hh)
      · exact hl s' v' hl' hv' h' (by omega)
    obtain ⟨i0, i1, i2⟩ := ih p0 n0 e2 (by omega) (by omega) (hi.neg s) hlow
    have hrn : r = n0 := by omega
    subst hrn
    refine ⟨recW_det hn0 h1, i1.set hn0, fun s' v' hl' hv' => ?_⟩
    rw [lookM_set] at hl'
    split at hl'
    · cases hl'; omega
    · rename_i hne
      obtain ⟨v2, j1, j2⟩ := i2 s' v' hl' hv'
      rw [lookM_set, if_neg hne] at j1
      exact ⟨v2, j1, j2⟩
  | sumNil =>
    intro q k hk h0 h1 hi hl
    simp only [List.map_nil, sumA] at hk
    cases hk
    exact ⟨by omega, hi, NegIn.refl _⟩
  | @sumNo m m' n k t l h hk ih =>
    intro q z hz h0 h1 hi hl
    simp only [List.map_cons, sumA] at hz
    split at hz
    · rename_i a b e1 e2
      cases hz
      have := (ih q a e1 hi hl).1
      have := hpos q t a e1
      have := sumA_nonneg (hpos q) l b e2
      omega
    · cases hz
  | @sumCons m m' m'' n k r t l h h0 hk h2 ih1 ih2 =>
    intro q z hz h0' h1 hi hl
    simp only [List.map_cons, sumA] at hz
    split at hz
    · rename_i a b e1 e2
      cases hz
      obtain ⟨j1, j2, j3⟩ := ih1 q a e1 hi hl
      subst j1
      obtain ⟨k1, k2, k3⟩ := ih2 q b e2 (by omega) (by omega) j2 (hl.of j3 (Nat.le_refl _))
      exact ⟨by omega, k2, k3.trans j3⟩
    · cases hz
theorem wd_pos {rt : D → Bool} {ord : Ord} (hrt : RtOk rt) (h64 : ∀ t, rt t = true → I64 t) : ∀ q t n, wd rt ord q t = some n → 0 ≤ n
  | 0, t, n, h => by cases h
  | q + 1, t, n, h => by
    have ih := wd_pos (ord := ord) hrt h64 q
    by_cases hr : rt t = true
    · obtain ⟨f, k, s, o, rfl⟩ := h64 t hr
      by_cases h7 : f = 7
      · subst h7
        obtain ⟨y, hy⟩ := hrt.y k s o hr
        obtain ⟨p, z, e, h1, h2, h3⟩ := wd_arr hr hy h
        cases e
        have := ih y z h1
        have hk := (hrt.k k s o hr).1
        rw [h3]
        exact Int.mul_nonneg this (by omega)
      · by_cases h8 : f = 8
        · subst h8
          obtain ⟨p, e, h1⟩ := wd_rec hr h
          cases e
          obtain ⟨l, _, h2, _⟩ := recW_some h1
          exact sumA_nonneg ih l n h2
        · simp only [wd, stepW, hr, if_true, if_neg h7, if_neg h8] at h
          cases h; omega
    · rw [wd_bad (by simpa using hr)] at h; cases h
theorem Ev.agree {rt : D → Bool} {o1 o2 : Ord} (hrt : RtOk rt) (h64 : ∀ t, rt t = true → I64 t) (ho : OrdEq o1 o2) {t : D} {m1 m2 : Memo} {r1 r2 : Int} (h1 : Ev rt o1 [] (.ty t) m1 r1) (h2 : Ev rt o2 [] (.ty t) m2 r2) :
    (0 ≤ r1 ∨ 0 ≤ r2) → r1 = r2 := by
  have i1 : InvM rt o1 [] := fun s v h => by cases h
  have i2 : InvM rt o2 [] := fun s v h => by cases h
  rintro (h | h)
  · obtain ⟨_, q, hq⟩ := h1.sound i1 h
    rw [wd_ord ho] at hq
    exact (h2.complete hrt (wd_pos hrt h64) q r1 hq i2 (fun s v h => by cases h)).1.symm
  · obtain ⟨_, q, hq⟩ := h2.sound i2 h
    rw [wd_ord ho.symm] at hq
    exact (h1.complete hrt (wd_pos hrt h64) q r2 hq i1 (fun s v h => by cases h)).1
def missing (K : List (List Nat)) (m : Memo) : Nat := (K.filter fun s => (lookM s m).isNone).length
def SubM (m m' : Memo) : Prop := ∀ s, lookM s m' = none → lookM s m = none
theorem SubM.set (s : List Nat) (v : Int) (m : Memo) : SubM m (setM s v m) := fun s' h => by
  rw [lookM_set] at h
  split at h
  · cases h
  · exact h
theorem filter_le {α : Type} {p q : α → Bool} (h : ∀ x, p x = true → q x = true) : ∀ l : List α, (l.filter p).length ≤ (l.filter q).length
  | [] => by simp
  | x :: l => by
    have ih := filter_le h l
    simp only [List.filter_cons]
    cases hp : p x
    · cases q x <;> simp <;> omega
    · simp [h x hp]; exact ih
theorem filter_lt {α : Type} {p q : α → Bool} (h : ∀ x, p x = true → q x = true) {y : α} (hy : p y = false) (hq : q y = true) : ∀ l : List α, y ∈ l → (l.filter p).length < (l.filter q).length
  | [], hm => by cases hm
  | x :: l, hm => by
    simp only [List.filter_cons]
    simp only [List.mem_cons] at hm
    rcases hm with rfl | hm
    · have := filter_le h l
      simp [hy, hq]; omega
    · have ih := filter_lt h hy hq l hm
      cases hp : p x
      · cases q x <;> simp <;> omega
      · simp [h x hp]; exact ih
theorem missing_le {K : List (List Nat)} {m m' : Memo} (h : SubM m m') : missing K m' ≤ missing K m :=
  filter_le (fun s hs => by simp only [Option.isNone_iff_eq_none] at hs ⊢; exact h s hs) K
theorem missing_lt {K : List (List Nat)} {m : Memo} {s : List Nat} {v : Int} (hs : s ∈ K) (hm : lookM s m = none) : missing K (setM s v m) < missing K m :=
  filter_lt (fun s' hs => by simp only [Option.isNone_iff_eq_none] at hs ⊢; exact SubM.set s v m s' hs) (y := s) (by simp [lookM_set]) (by simp [hm]) K hs
theorem Ev.total {rt : D → Bool} {ord : Ord} {N : Nat} {K : List (List Nat)} (hrt : RtOk rt) (hK : ∀ s l, ord s = some l → s ∈ K ∧ ∀ t ∈ l, Lt N t) : ∀ (q : Nat) (m : Memo), missing K m ≤ q → ∀ (d : Nat) (t : D), Lt d t →
    ∃ m' r, Ev rt ord m (.ty t) m' r ∧ SubM m m' := by
  intro q
  induction q with
  | zero =>
    intro m hm d
    induction d with
    | zero => intro t h; exact h.elim
    | succ d ihd =>
      intro t ht
      obtain ⟨f, k, s, o, rfl, ho, hl, hi⟩ := ht
      cases hr : rt (.agg [.i .i64 f, .i .i64 k, .s s, o]) with
      | false => exact ⟨m, -1, .bad hr, fun _ h => h⟩
      | true =>
        by_cases h7 : f = 7
        · subst h7
          obtain ⟨y, hy⟩ := hrt.y k s o hr
          obtain ⟨m', n, h1, h2⟩ := ihd y (hi y (by rw [hy]; simp))
          by_cases hn : n < 0 ∨ Int.tdiv 16384 k < n
          · exact ⟨m', -1, .arrNo hr hy h1 hn, h2⟩
          · exact ⟨m', n * k, .arr hr hy h1 (by omega) (by omega), h2⟩
        · by_cases h8 : f = 8
          · subst h8
            cases hlk : lookM s m with
            | some v => exact ⟨m, v, .memo hr hlk, fun _ h => h⟩
            | none =>
              cases ho : ord s with
              | none => exact ⟨_, -1, .noCh hr hlk ho, SubM.set s _ m⟩
              | some l =>
                have := missing_lt (v := -1) (hK s l ho).1 hlk
                omega
          · exact ⟨m, 1, .one hr h7 h8, fun _ h => h⟩
  | succ q ihq =>
    have hsum : ∀ (l : List D) (m : Memo) (n : Int), missing K m ≤ q → (∀ t ∈ l, Lt N t) → ∃ m' r, Ev rt ord m (.sum n l) m' r ∧ SubM m m' := by
      intro l
      induction l with
      | nil => intro m n _ _; exact ⟨m, n, .sumNil, fun _ h => h⟩
      | cons t l ihl =>
        intro m n hm hl
        obtain ⟨m', k, h1, h2⟩ := ihq m hm N t (hl t (by simp))
        by_cases hk : k < 0 ∨ 16384 < n + k
        · exact ⟨m', -1, .sumNo h1 hk, h2⟩
        · obtain ⟨m'', r, h3, h4⟩ := ihl m' (n + k) (Nat.le_trans (missing_le h2) hm) (fun t ht => hl t (by simp [ht]))
          exact ⟨m'', r, .sumCons h1 (by omega) (by omega) h3, fun s h => h2 s (h4 s h)⟩
    intro m hm d
    induction d with
    | zero => intro t h; exact h.elim
    | succ d ihd =>
      intro t ht
      obtain ⟨f, k, s, o, rfl, ho, hl, hi⟩ := ht
      cases hr : rt (.agg [.i .i64 f, .i .i64 k, .s s, o]) with
      | false => exact ⟨m, -1, .bad hr, fun _ h => h⟩
      | true =>
        by_cases h7 : f = 7
        · subst h7
          obtain ⟨y, hy⟩ := hrt.y k s o hr
          obtain ⟨m', n, h1, h2⟩ := ihd y (hi y (by rw [hy]; simp))
          by_cases hn : n < 0 ∨ Int.tdiv 16384 k < n
          · exact ⟨m', -1, .arrNo hr hy h1 hn, h2⟩
          · exact ⟨m', n * k, .arr hr hy h1 (by omega) (by omega), h2⟩
        · by_cases h8 : f = 8
          · subst h8
            cases hlk : lookM s m with
            | some v => exact ⟨m, v, .memo hr hlk, fun _ h => h⟩
            | none =>
              cases ho : ord s with
              | none => exact ⟨_, -1, .noCh hr hlk ho, SubM.set s _ m⟩
              | some l =>
                have := missing_lt (v := -1) (hK s l ho).1 hlk
                obtain ⟨m', r, h1, h2⟩ := hsum l (setM s (-1) m) 0 (by omega) (hK s l ho).2
                by_cases h0 : r < 0
                · exact ⟨m', -1, .recNo hr hlk ho h1 h0, fun s' h => SubM.set s (-1) m s' (h2 s' h)⟩
                · exact ⟨_, r, .recOk hr hlk ho h1 (by omega), fun s' h => SubM.set s (-1) m s' (h2 s' (SubM.set s r m' s' h))⟩
          · exact ⟨m, 1, .one hr h7 h8, fun _ h => h⟩
end W

set_option linter.unusedSimpArgs false
set_option linter.unusedVariables false
namespace W
open Go (IntKind BinOp UnOp)
set_option maxRecDepth 20000
def rtN (N : Nat) : D → Bool
  | .agg [.i .i64 f, .i .i64 m, .s s, o] => rightN N (.agg [.i .i64 f, .i .i64 m, .s s, o])
  | _ => false
theorem rtN_agg {N : Nat} {f m : Int} {s : List Nat} {o : D} : rtN N (.agg [.i .i64 f, .i .i64 m, .s s, o]) = rightN N (.agg [.i .i64 f, .i .i64 m, .s s, o]) := rfl
theorem rtN_64 {N : Nat} (t : D) (h : rtN N t = true) : I64 t := by
  unfold rtN at h
  split at h
  · exact ⟨_, _, _, _, rfl⟩
  · cases h
theorem rtN_ok (N : Nat) : RtOk (rtN N) := by
  refine ⟨fun k s o h => ?_, fun k s o h => ?_, fun k s o h => ?_⟩
  · rw [rtN_agg] at h
    cases N with
    | zero => cases h
    | succ n =>
      simp only [rightN] at h
      simp at h
      exact ⟨h.1.1, h.1.2.1⟩
  · rw [rtN_agg] at h
    cases N with
    | zero => cases h
    | succ n =>
      simp only [rightN] at h
      simp at h
      obtain ⟨_, h⟩ := h
      split at h
      · rename_i y hy; exact ⟨y, hy⟩
      · cases h
  · rw [rtN_agg] at h
    cases N with
    | zero => cases h
    | succ n =>
      simp only [rightN] at h
      simp at h
      exact h.2.1
def ty6 (x : D6) : D := match x.1 with
  | .agg [_, _, f, m, s, o] => .agg [f, m, s, o]
  | _ => .nil
def flT (l : List RecE) : List D := l.flatMap fun r => (dec6 r.fs).map ty6
def ordT (R : List RecE) : Ord := fun s => (chF R R.length s).map flT
def ordR (R : List RecE) : Ord := fun s => (refFl R R.length s).map fun l => l.map ty6
theorem flT_perm (l : List RecE) : (flT l).Perm ((l.reverse.flatMap fun r => dec6 r.fs).map ty6) := by
  induction l with
  | nil => exact .nil
  | cons r l ih =>
    simp only [flT, List.flatMap_cons, List.reverse_cons, List.flatMap_append, List.map_append, List.flatMap_nil, List.append_nil]
    exact (List.Perm.append_left _ ih).trans List.perm_append_comm
theorem ord_eq (R : List RecE) : OrdEq (ordT R) (ordR R) := fun s => by
  unfold ordT ordR
  rw [refFl_ch]
  cases chF R R.length s with
  | none => exact .inl ⟨rfl, rfl⟩
  | some l => exact .inr ⟨_, _, rfl, rfl, flT_perm l⟩
theorem ty6_lt {n : Nat} {x : D6} (h : Fd n x.1) : Lt n (ty6 x) := by
  obtain ⟨nm, ex, f, m, s, o, e, hl⟩ := h
  unfold ty6
  rw [e]
  exact hl
theorem ordR_lt {R : List RecE} {n : Nat} (hfs : ∀ r ∈ R, FsOk n r.fs) (s : List Nat) (l : List D) (h : ordR R s = some l) : s ∈ R.map (·.k) ∧ ∀ t ∈ l, Lt n t := by
  unfold ordR at h
  cases hq : refFl R R.length s with
  | none => rw [hq] at h; cases h
  | some L =>
    rw [hq] at h
    cases h
    constructor
    · cases hr : findR s R with
      | none =>
        exfalso
        have : refFl R R.length s = none := by rw [refFl_ch, chF_none hr]; rfl
        rw [this] at hq; cases hq
      | some r =>
        obtain ⟨h1, h2⟩ := findR_mem hr
        exact List.mem_map.2 ⟨r, h1, h2⟩
    · intro t ht
      obtain ⟨x, hx, rfl⟩ := List.mem_map.1 ht
      exact ty6_lt ((refFl_len hfs _ _ _ hq).2 x hx)
theorem ordT_lt {R : List RecE} {n : Nat} (hfs : ∀ r ∈ R, FsOk n r.fs) (s : List Nat) (l : List D) (h : ordT R s = some l) : s ∈ R.map (·.k) ∧ ∀ t ∈ l, Lt n t := by
  rcases ord_eq R s with ⟨h1, h2⟩ | ⟨a, b, h1, h2, h3⟩
  · rw [h1] at h; cases h
  · rw [h1] at h; cases h
    obtain ⟨i1, i2⟩ := ordR_lt hfs s b h2
    exact ⟨i1, fun t ht => i2 t (h3.mem_iff.1 ht)⟩
def BdM (m : Memo) : Prop := ∀ s v, lookM s m = some v → -1 ≤ v ∧ v ≤ 16384
theorem BdM.set {m : Memo} (h : BdM m) (s : List Nat) {v : Int} (h1 : -1 ≤ v) (h2 : v ≤ 16384) : BdM (setM s v m) := fun s' v' hl => by
  rw [lookM_set] at hl
  split at hl
  · cases hl; exact ⟨h1, h2⟩
  · exact h s' v' hl
theorem arr_le {n k : Int} (hk : 1 ≤ k) (h0 : 0 ≤ n) (h : n ≤ Int.tdiv 16384 k) : n * k ≤ 16384 := by
  rw [Int.tdiv_eq_ediv_of_nonneg (by omega)] at h
  exact (Int.le_ediv_iff_mul_le (by omega)).1 h
theorem arr_gt {n k : Int} (hk : 1 ≤ k) (h : Int.tdiv 16384 k < n) : 16384 < n * k := by
  rw [Int.tdiv_eq_ediv_of_nonneg (by omega)] at h
  exact (Int.ediv_lt_iff_lt_mul (by omega)).1 h
def BdT : Tsk → Prop
  | .ty _ => True
  | .sum n _ => 0 ≤ n ∧ n ≤ 16384
theorem Ev.bd {rt : D → Bool} {ord : Ord} (hrt : RtOk rt) {m m' : Memo} {T : Tsk} {r : Int} (h : Ev rt ord m T m' r) : BdM m → BdT T → BdM m' ∧ -1 ≤ r ∧ r ≤ 16384 := by
  induction h with
  | bad h => exact fun hm _ => ⟨hm, by omega, by omega⟩
  | arrNo hr hy h hn ih => exact fun hm _ => ⟨(ih hm trivial).1, by omega, by omega⟩
  | @arr m m' k s o y n hr hy h h0 hn ih =>
    intro hm _
    have hk := (hrt.k k s o hr).1
    have := Int.mul_nonneg h0 (show (0 : Int) ≤ k by omega)
    exact ⟨(ih hm trivial).1, by omega, arr_le hk h0 hn⟩
  | one hr h7 h8 => exact fun hm _ => ⟨hm, by omega, by omega⟩
  | @memo m k s o v hr hl => exact fun hm _ => ⟨hm, hm s v hl⟩
  | noCh hr hl ho => exact fun hm _ => ⟨hm.set _ (by omega) (by omega), by omega, by omega⟩
  | recNo hr hl ho h hn ih => exact fun hm _ => ⟨(ih (hm.set _ (by omega) (by omega)) ⟨by omega, by omega⟩).1, by omega, by omega⟩
  | recOk hr hl ho h hn ih =>
    intro hm _
    obtain ⟨i1, i2, i3⟩ := ih (hm.set _ (by omega) (by omega)) ⟨by omega, by omega⟩
    exact ⟨i1.set _ i2 i3, i2, i3⟩
  | sumNil => exact fun hm ht => ⟨hm, by have := ht.1; omega, ht.2⟩
  | sumNo h hk ih => exact fun hm _ => ⟨(ih hm trivial).1, by omega, by omega⟩
  | sumCons h h0 hk h2 ih1 ih2 =>
    intro hm ht
    obtain ⟨i1, i2, i3⟩ := ih1 hm trivial
    exact ih2 i1 ⟨by have := ht.1; omega, hk⟩
def memoE (m : Memo) : List (D × V) := m.map fun p => (.s p.1, .d (.i .i64 p.2))
theorem keyFind_memo (s : List Nat) : ∀ m : Memo, keyFind (.s s) (memoE m) = some ((lookM s m).map fun v => .d (.i .i64 v))
  | [] => rfl
  | (k, v) :: m => by
    have ih := keyFind_memo s m
    simp only [memoE, List.map_cons, keyFind, same_s, lookM] at ih ⊢
    by_cases h : s = k
    · simp [h]
    · simp only [h, decide_false, if_false]
      exact ih
theorem keySet_memo (s : List Nat) (v : Int) : ∀ m : Memo, keySet (.s s) (.d (.i .i64 v)) (memoE m) = some (memoE (setM s v m))
  | [] => rfl
  | (k, w) :: m => by
    have ih := keySet_memo s v m
    simp only [memoE, List.map_cons, keySet, same_s, setM] at ih ⊢
    by_cases h : s = k
    · simp [h]
    · simp only [h, decide_false, if_false, ih, List.map_cons]
structure Hp (R : List RecE) (n : Nat) (H0 : List Obj) (zid rid mid : Nat) : Prop where
  z : H0[zid]? = some (.cells [.map rid, .map mid])
  r : H0[rid]? = some (.map (esR R))
  m : ∃ o, H0[mid]? = some o
  zm : zid ≠ mid
  rm : rid ≠ mid
  fs : ∀ x ∈ R, FsOk n x.fs
  len : R.length ≤ 1000
theorem Hp.lt {R : List RecE} {n : Nat} {H0 : List Obj} {zid rid mid : Nat} (h : Hp R n H0 zid rid mid) : mid < H0.length := by
  obtain ⟨o, h⟩ := h.m
  exact (List.getElem?_eq_some_iff.1 h).1
theorem leave_w {H0 : List Obj} {mid : Nat} {m m' : Memo} {lo : Nat} {e : Env} {v : V} (hm : mid ≤ lo) (hmid : mid < H0.length) (h : H0.length ≤ lo → m' = m) (hv : v.leaves = true) (hr : v.ref = 0) (hs : ∀ n H, settle n H v = v) :
    ∃ sm lo2, mid ≤ lo2 ∧ (H0.length ≤ lo2 → m' = m) ∧ leave (setAt H0 mid (.map (memoE m))) false v ⟨e, setAt H0 mid (.map (memoE m')), min H0.length lo⟩ = some ⟨false, sm, v, setAt H0 mid (.map (memoE m')), lo2⟩ := by
  by_cases hl : lo < H0.length
  · refine ⟨false, lo, hm, fun h => by omega, ?_⟩
    rw [Nat.min_eq_right (by omega)]
    exact leave_new hv (.inr (by simp [setAt]; omega)) (hs _ _)
  · have e1 := h (by omega)
    subst e1
    refine ⟨true, H0.length, by omega, fun _ => rfl, ?_⟩
    rw [Nat.min_eq_left (by omega)]
    exact leave_same hv (by omega) (by simp [setAt]) (hs _ _)
end W

set_option linter.unusedSimpArgs false
set_option linter.unusedVariables false
namespace W
open Go (IntKind BinOp UnOp)
set_option maxRecDepth 20000
abbrev hpM (H0 : List Obj) (mid : Nat) (m : Memo) : List Obj := setAt H0 mid (.map (memoE m))
structure HpF (H0 : List Obj) (R : List RecE) (zid rid mid : Nat) : Prop where
  z : ∀ o, (setAt H0 mid o)[zid]? = some (.cells [.map rid, .map mid])
  r : ∀ o, (setAt H0 mid o)[rid]? = some (.map (esR R))
  m : ∀ o, (setAt H0 mid o)[mid]? = some o
theorem Hp.f {R : List RecE} {n : Nat} {H0 : List Obj} {zid rid mid : Nat} (h : Hp R n H0 zid rid mid) : HpF H0 R zid rid mid := by
  obtain ⟨o', ho'⟩ := h.m
  refine ⟨fun o => ?_, fun o => ?_, fun o => setAt_get ho'⟩
  · rw [setAt_ne (eq_false h.zm)]; exact h.z
  · rw [setAt_ne (eq_false h.rm)]; exact h.r
noncomputable abbrev outerT (H0 : List Obj) (zid mid : Nat) (ms : Memo) (name : List Nat) (recs : List RecE) (j : Nat) (a : Int) (m : Memo) : Option Cr :=
  finC (hpM H0 mid ms) true [.t 4] (thenC pg (blockC 0 [0, 1, 9] (f_types_sizes_record_l2 pg (.ptr zid 0) (.d (.s name)) (.d (.i .i64 a)) (.d (slD recD recs)) (.d (.i .i64 (recs.length : Nat))) (.d (.i .i64 (j : Nat))) (hpM H0 mid m) mid)) f_types_sizes_record_R3)
noncomputable abbrev innerT (H0 : List Obj) (zid mid : Nat) (ms : Memo) (name : List Nat) (recs : List RecE) (j : Nat) (L : List D6) (i : Nat) (a : Int) (m : Memo) : Option Cr :=
  finC (hpM H0 mid ms) true [.t 4] (thenC pg (blockC 0 [0, 1, 9] (thenC pg (thenC pg (blockC 1 [0, 1, 9, 42, 43, 44] (blockC 2 [0, 1, 9, 42, 43, 44]
    (f_types_sizes_record_l0 pg (.ptr zid 0) (.d (.s name)) (.d (.i .i64 a)) (.d (slD recD recs)) (.d (.i .i64 (recs.length : Nat))) (.d (.i .i64 (j : Nat))) (.d (slD e6 L)) (.d (.i .i64 (L.length : Nat))) (.d (.i .i64 (i : Nat))) (hpM H0 mid m) mid))) f_types_sizes_record_R1) f_types_sizes_record_L2)) f_types_sizes_record_R3)
def resT (H0 : List Obj) (mid : Nat) (name : List Nat) (m' : Memo) (r : Int) : Option Cr :=
  some ⟨false, false, .d (.i .i64 (if r < 0 then -1 else r)), hpM H0 mid (if r < 0 then m' else setM name r m'), mid⟩
theorem skelT {R : List RecE} {n : Nat} {H0 : List Obj} {zid rid mid : Nat} (hp : Hp R n H0 zid rid mid) {ms m : Memo} {name : List Nat} {recs : List RecE} (hR : ∀ x ∈ recs, x ∈ R) (hlen : recs.length ≤ 1000) {a : Int} {l : List D} {res : Option Cr}
    (hend : l = [] → outerT H0 zid mid ms name recs recs.length a m = res)
    (hstep : ∀ (j : Nat) (rc : RecE) (L : List D6) (i : Nat) (x : D6), recs[j]? = some rc → rc.fs = slD e6 L → L.length ≤ 5 → L[i]? = some x → Fd n x.1 → l = ty6 x :: ((L.drop (i + 1)).map ty6 ++ flT (recs.drop (j + 1))) → innerT H0 zid mid ms name recs j L i a m = res) :
    ∀ (d j : Nat), recs.length - j = d → j ≤ recs.length →
      (flT (recs.drop j) = l → outerT H0 zid mid ms name recs j a m = res) ∧ (∀ (rc : RecE) (L : List D6) (i : Nat), recs[j]? = some rc → rc.fs = slD e6 L → L.length ≤ 5 → (∀ y ∈ L, Fd n y.1) → i ≤ L.length → (L.drop i).map ty6 ++ flT (recs.drop (j + 1)) = l → innerT H0 zid mid ms name recs j L i a m = res)
  | 0, j, hd, hj => by
    have e : j = recs.length := by omega
    subst e
    refine ⟨fun h => hend (by rw [← h, List.drop_length]; rfl), fun rc L i h => ?_⟩
    simp at h
  | d + 1, j, hd, hj => by
    have hjl : j < recs.length := by omega
    have ihO := (skelT hp hR hlen hend hstep d (j + 1) (by omega) (by omega)).1
    have hI : ∀ (rc : RecE) (L : List D6) (i : Nat), recs[j]? = some rc → rc.fs = slD e6 L → L.length ≤ 5 → (∀ y ∈ L, Fd n y.1) → i ≤ L.length → (L.drop i).map ty6 ++ flT (recs.drop (j + 1)) = l → innerT H0 zid mid ms name recs j L i a m = res := by
      intro rc L i hrc hL hLl hLy hi hl
      by_cases hlt : i < L.length
      · obtain ⟨x, hx⟩ : ∃ x, L[i]? = some x := ⟨L[i]'hlt, by simp⟩
        refine hstep j rc L i x hrc hL hLl hx (hLy x (List.mem_of_getElem? hx)) ?_
        obtain ⟨hi', e⟩ := List.getElem?_eq_some_iff.1 hx
        rw [← hl, List.drop_eq_getElem_cons hi', e]
        rfl
      · have e : i = L.length := by omega
        subst e
        rw [← ihO (by rw [← hl, List.drop_length]; rfl)]
        have hlt' : ((L.length : Int) < (L.length : Int)) = False := by simp
        have hw : wr .i64 ((j : Int) + 1) = ((j + 1 : Nat) : Int) := by rw [wr_i64 (by omega) (by omega)]; omega
        unfold innerT outerT
        rw [f_types_sizes_record_l0_eq]
        simp only [f_types_sizes_record_B0, Int.reduceNeg, keepV_ptr, keepV_d, exL_seq, exL_ops, runOps_n, evalK_bin, isC_t, Bool.or_self, rd_t, reduceCtorEq, get_ne, Nat.reduceEqDiff, get_eq, readV_d, bin_lss, hlt', decide_false, okS_some, opC_ok, put_d, runOps_nil, thenC_nrm, exL_cond, condC_b, Bool.false_eq_true, ↓reduceIte, exL_exit, thenC_exit, blockC_exit, restrict_cons, restrict_nil, blockC_nrm, f_types_sizes_record_R1, isC_c, Bool.or_true, rd_c, bin_add, hw, evalK_mov, spent_t, f_types_sizes_record_l2_in]
    refine ⟨fun hl => ?_, hI⟩
    obtain ⟨rc, hrc⟩ : ∃ x, recs[j]? = some x := ⟨recs[j]'hjl, by simp⟩
    obtain ⟨L, hL, hLl, hLy⟩ := hp.fs rc (hR rc (List.mem_of_getElem? hrc))
    have hin := hI rc L 0 hrc hL hLl hLy (by omega) (by
      rw [← hl]
      obtain ⟨hi', e⟩ := List.getElem?_eq_some_iff.1 hrc
      rw [List.drop_eq_getElem_cons hi', e, List.drop_zero]
      simp [flT, hL, dec6_slD])
    rw [← hin]
    have hlt : ((j : Int) < (recs.length : Int)) = True := eq_true (by omega)
    have hr2 : (itemsD (slD recD recs))[j]? = some (recD rc) := by rw [items_slD]; simp [hrc]
    have hix := of_ix' (z := 4) hr2 (recD_cells rc) (k := .i64)
    have hone : (slD e6 L).one = true := by cases L <;> rfl
    have hlen6 := fun H => slD_len (e := e6) (L := L) H
    have hld : ∀ st, loadV none ⟨1, false⟩ st (.cp (slD e6 L)) = some (.d (slD e6 L)) := fun st => by cases L <;> rfl
    unfold outerT innerT
    rw [f_types_sizes_record_l2_eq]
    obtain ⟨k0, nm, ex, base, fs⟩ := rc
    simp only at hL
    subst hL
    simp only [recD] at hix
    simp only [f_types_sizes_record_B2, keepV_ptr, keepV_d, exL_seq, exL_ops, runOps_n, evalK_bin, isC_t, Bool.or_self, rd_t, reduceCtorEq, get_ne, Nat.reduceEqDiff, get_eq, readV_d, bin_lss, hlt, decide_true, okS_some, opC_ok, put_d, runOps_nil, thenC_nrm, exL_cond, condC_b, ↓reduceIte, exL_skip, exL_block, evalK_indexAddr, hix, put_cp, evalK_load, readV_cp, List.length_cons, List.length_nil, Nat.zero_add, Nat.reduceAdd, loadV_cp_agg, evalK_allocL, List.map_cons, List.map_nil, put_box, killLp_cons, killV_d, killV_cp, killV_ptr, killLp_nil, evalK_store, readV_box, spent_t, storeV_lp, cells_agg, ones_cons, vone_d, one_s, one_b, hone, ones_nil, Bool.and_self, storeB_box, setCells_all, storeR_some, put_none, evalK_fieldAddr, faV_lp, put_lp, readV_lp, loadV_lp, boxV_1, List.getElem?_cons_succ, List.getElem?_cons_zero, Option.map_some, copy1_d, evalK_lenL, hlen6, evalK_mov, rd_c, spent_c, f_types_sizes_record_l0_in, Int.cast_ofNat_Int]
    all_goals rfl
end W

set_option linter.unusedSimpArgs false
set_option linter.unusedVariables false
namespace W
open Go (IntKind BinOp UnOp)
set_option maxRecDepth 20000
def WT (R : List RecE) (n : Nat) (H0 : List Obj) (zid rid mid : Nat) (m m' : Memo) (r : Int) : Tsk → Prop
  | .ty t => Lt n t → BdM m → ∃ sm lo, mid ≤ lo ∧ (H0.length ≤ lo → m' = m) ∧ callL pg 31 [.ptr zid 0, .d t] (hpM H0 mid m) = some ⟨false, sm, .d (.i .i64 r), hpM H0 mid m', lo⟩
  | .sum a l => 0 ≤ a → a ≤ 16384 → BdM m → (∀ t ∈ l, Lt n t) → ∀ (ms : Memo) (name : List Nat) (recs : List RecE), (∀ x ∈ recs, x ∈ R) → recs.length ≤ 1000 →
    (flT recs = l → outerT H0 zid mid ms name recs 0 a m = resT H0 mid name m' r) ∧
    (∀ (j : Nat) (rc : RecE) (L : List D6) (i : Nat), recs[j]? = some rc → rc.fs = slD e6 L → L.length ≤ 5 → (∀ y ∈ L, Fd n y.1) → i ≤ L.length → (L.drop i).map ty6 ++ flT (recs.drop (j + 1)) = l → innerT H0 zid mid ms name recs j L i a m = resT H0 mid name m' r)
theorem leave_lo {H0 : List Obj} {mid : Nat} (hmid : mid < H0.length) {ms m : Memo} {x : D} {e : Env} : leave (hpM H0 mid ms) false (.d x) ⟨e, hpM H0 mid m, mid⟩ = some ⟨false, false, .d x, hpM H0 mid m, mid⟩ :=
  leave_new rfl (.inr (by simp [setAt]; exact hmid)) rfl
theorem sumNil_W {R : List RecE} {n : Nat} {H0 : List Obj} {zid rid mid : Nat} (hp : Hp R n H0 zid rid mid) {m : Memo} {a : Int} : WT R n H0 zid rid mid m m a (.sum a []) := by
  intro h0 h1 hb _ ms name recs hR hlen
  have hsk := skelT (l := []) hp hR hlen (ms := ms) (m := m) (name := name) (a := a) (res := resT H0 mid name m a) (fun _ => by
    have hlt : ((recs.length : Int) < (recs.length : Int)) = False := by simp
    have hks := keySet_memo name a m
    have hfz := hp.f.z
    have hfm := hp.f.m
    have hl := fun x e ms m => leave_lo (mid := mid) hp.lt (ms := ms) (m := m) (x := x) (e := e)
    unfold outerT resT
    rw [if_neg (by omega), if_neg (by omega), f_types_sizes_record_l2_eq]
    simp only [f_types_sizes_record_B2, keepV_ptr, keepV_d, exL_seq, exL_ops, runOps_n, evalK_bin, isC_t, Bool.or_self, rd_t, reduceCtorEq, get_ne, Nat.reduceEqDiff, get_eq, readV_d, bin_lss, hlt, decide_false, okS_some, opC_ok, put_d, runOps_nil, thenC_nrm, exL_cond, condC_b, Bool.false_eq_true, ↓reduceIte, exL_exit, thenC_exit, blockC_exit, restrict_cons, restrict_nil, f_types_sizes_record_R3, evalK_mov, readV_ptr, spent_t, put_ptr, evalK_nilCheck, evalK_fieldAddr, faV_ptr, Nat.zero_add, evalK_load, loadV_ptr, hfz, cellV_1, List.getElem?_cons_succ, List.getElem?_cons_zero, Option.map_some, copy1_map, put_map, evalK_mapUpdate, readV_map, ok_d, updV_sE, hfm, updE_map, hks, setO_some, setAt_setAt, Nat.min_self, put_none, exL_ret, finC_ret, resultVs_cons, resultV_t, ownV_d, resultVs_nil, consO_some, leaveC_1, hl]) (fun j rc L i x _ _ _ _ _ h => by cases h)
  exact ⟨fun h => (hsk _ 0 rfl (by omega)).1 (by simpa using h), fun j rc L i h1 h2 h3 h4 h5 h6 => (hsk _ j rfl (by have := (List.getElem?_eq_some_iff.1 h1).1; omega)).2 rc L i h1 h2 h3 h4 h5 h6⟩
theorem sumNo_W {R : List RecE} {n : Nat} {H0 : List Obj} {zid rid mid : Nat} (hp : Hp R n H0 zid rid mid) {m m' : Memo} {a k : Int} {t : D} {l : List D} (hk : k < 0 ∨ 16384 < a + k) (hkb : -1 ≤ k ∧ k ≤ 16384)
    (ih : WT R n H0 zid rid mid m m' k (.ty t)) : WT R n H0 zid rid mid m m' (-1) (.sum a (t :: l)) := by
  intro h0 h1 hb hlt ms name recs hR hlen
  obtain ⟨sm, lo, l1, l2, hc⟩ := ih (hlt t (by simp)) hb
  have hsk := skelT (l := t :: l) hp hR hlen (ms := ms) (m := m) (name := name) (a := a) (res := resT H0 mid name m' (-1)) (fun h => by cases h) (fun j rc L i x hrc hL hLl hx hfx hl => by
    have e1 : t = ty6 x := by injection hl
    have hil : i < L.length := (List.getElem?_eq_some_iff.1 hx).1
    have hltI : ((i : Int) < (L.length : Int)) = True := eq_true (by omega)
    have hx2 : (itemsD (slD e6 L))[i]? = some x.1 := by rw [items_slD]; simp [hx, e6]
    have hix := of_ix' hx2 x.2 (k := .i64)
    obtain ⟨nm, ex, f, mm, s, o, e2, lt⟩ := hfx
    rw [e2] at hix
    have ho1 := lt.one
    have e3 : ty6 x = .agg [.i .i64 f, .i .i64 mm, .s s, o] := by unfold ty6; rw [e2]
    rw [e1, e3] at hc
    have hmin : min mid lo = mid := Nat.min_eq_left l1
    have hll := fun x e ms m => leave_lo (mid := mid) hp.lt (ms := ms) (m := m) (x := x) (e := e)
    have hwr : wr .i64 (a + k) = a + k := wr_i64 (by omega) (by omega)
    unfold innerT resT
    rw [if_pos (by omega), if_pos (by omega), f_types_sizes_record_l0_eq]
    by_cases hk0 : k < 0
    · simp only [f_types_sizes_record_B0, Int.reduceNeg, keepV_ptr, keepV_d, exL_seq, exL_ops, runOps_n, evalK_bin, isC_t, Bool.or_self, rd_t, reduceCtorEq, get_ne, Nat.reduceEqDiff, get_eq, readV_d, bin_lss, hltI, decide_true, okS_some, opC_ok, put_d, runOps_nil, thenC_nrm, exL_cond, condC_b, ↓reduceIte, exL_skip, exL_block, evalK_indexAddr, hix, put_cp, evalK_load, readV_cp, List.length_cons, List.length_nil, Nat.zero_add, Nat.reduceAdd, loadV_cp_agg, evalK_allocL, List.map_cons, List.map_nil, put_box, killLp_cons, killV_d, killV_cp, killV_ptr, killLp_nil, evalK_store, readV_box, spent_t, storeV_lp, cells_agg, ones_cons, vone_d, one_s, one_b, one_i, ho1, ones_nil, Bool.and_self, storeB_box, setCells_all, storeR_some, put_none, evalK_mov, readV_ptr, put_ptr, evalK_fieldAddr, faV_lp, put_lp, readV_lp, loadV_lp, Nat.reduceLeDiff, boxV_A, List.drop_succ_cons, List.drop_zero, List.take_succ_cons, List.take_zero, copy1_d, mkAgg_eq, allD_d, allD_nil, consD_some, aggV_some, evalK_call, allLeave_cons, leaves_ptr, leaves_d, allLeave_nil, eCall_f, hc, callC_some, spentAll_cons, spentAll_nil, hmin, rd_mv, takeV_d, spent_mv, bin_add, hwr, isC_c, Bool.or_true, rd_c, eq_true hk0, runOps_g, wantG_bf, Bool.not_true, wantC_b, Bool.false_eq_true, put_tup, evalK_pick, readV_tup, pickV_t, spent_c, exL_ret, blockC_ret, thenC_ret, finC_ret, resultVs_cons, resultV_t, ownV_d, resultVs_nil, consO_some, leaveC_1, hll]
    · have hgt : 16384 < a + k := by omega
      simp only [f_types_sizes_record_B0, Int.reduceNeg, keepV_ptr, keepV_d, exL_seq, exL_ops, runOps_n, evalK_bin, isC_t, Bool.or_self, rd_t, reduceCtorEq, get_ne, Nat.reduceEqDiff, get_eq, readV_d, bin_lss, hltI, decide_true, okS_some, opC_ok, put_d, runOps_nil, thenC_nrm, exL_cond, condC_b, ↓reduceIte, exL_skip, exL_block, evalK_indexAddr, hix, put_cp, evalK_load, readV_cp, List.length_cons, List.length_nil, Nat.zero_add, Nat.reduceAdd, loadV_cp_agg, evalK_allocL, List.map_cons, List.map_nil, put_box, killLp_cons, killV_d, killV_cp, killV_ptr, killLp_nil, evalK_store, readV_box, spent_t, storeV_lp, cells_agg, ones_cons, vone_d, one_s, one_b, one_i, ho1, ones_nil, Bool.and_self, storeB_box, setCells_all, storeR_some, put_none, evalK_mov, readV_ptr, put_ptr, evalK_fieldAddr, faV_lp, put_lp, readV_lp, loadV_lp, Nat.reduceLeDiff, boxV_A, List.drop_succ_cons, List.drop_zero, List.take_succ_cons, List.take_zero, copy1_d, mkAgg_eq, allD_d, allD_nil, consD_some, aggV_some, evalK_call, allLeave_cons, leaves_ptr, leaves_d, allLeave_nil, eCall_f, hc, callC_some, spentAll_cons, spentAll_nil, hmin, rd_mv, takeV_d, spent_mv, bin_add, hwr, isC_c, Bool.or_true, rd_c, eq_false hk0, decide_false, runOps_g, wantG_bf, Bool.not_false, wantC_b, bin_gtr, eq_true hgt, evalK_pick, pickV_b, Bool.false_eq_true, spent_c, exL_ret, blockC_ret, thenC_ret, finC_ret, resultVs_cons, resultV_t, ownV_d, resultVs_nil, consO_some, leaveC_1, hll])
  exact ⟨fun h => (hsk _ 0 rfl (by omega)).1 (by simpa using h), fun j rc L i h1 h2 h3 h4 h5 h6 => (hsk _ j rfl (by have := (List.getElem?_eq_some_iff.1 h1).1; omega)).2 rc L i h1 h2 h3 h4 h5 h6⟩
theorem sumCons_W {R : List RecE} {n : Nat} {H0 : List Obj} {zid rid mid : Nat} (hp : Hp R n H0 zid rid mid) {m m' m'' : Memo} {a k r : Int} {t : D} {l : List D} (hk0 : 0 ≤ k) (hk : a + k ≤ 16384) (hb' : BdM m')
    (ih : WT R n H0 zid rid mid m m' k (.ty t)) (ih2 : WT R n H0 zid rid mid m' m'' r (.sum (a + k) l)) : WT R n H0 zid rid mid m m'' r (.sum a (t :: l)) := by
  intro h0 h1 hb hlt ms name recs hR hlen
  obtain ⟨sm, lo, l1, l2, hc⟩ := ih (hlt t (by simp)) hb
  have ih2' := (ih2 (by omega) hk hb' (fun t ht => hlt t (by simp [ht])) ms name recs hR hlen).2
  have hsk := skelT (l := t :: l) hp hR hlen (ms := ms) (m := m) (name := name) (a := a) (res := resT H0 mid name m'' r) (fun h => by cases h) (fun j rc L i x hrc hL hLl hx hfx hl => by
    have e1 : t = ty6 x := by injection hl
    have e1' : l = (L.drop (i + 1)).map ty6 ++ flT (recs.drop (j + 1)) := by injection hl
    have hil : i < L.length := (List.getElem?_eq_some_iff.1 hx).1
    obtain ⟨L', hL', hLl', hLy⟩ := hp.fs rc (hR rc (List.mem_of_getElem? hrc))
    have eL : L = L' := by have := congrArg dec6 (hL.symm.trans hL'); rwa [dec6_slD, dec6_slD] at this
    have ihf := ih2' j rc L (i + 1) hrc hL hLl (by rw [eL]; exact hLy) (by omega) e1'.symm
    have hltI : ((i : Int) < (L.length : Int)) = True := eq_true (by omega)
    have hw : wr .i64 ((i : Int) + 1) = ((i + 1 : Nat) : Int) := by rw [wr_i64 (by omega) (by omega)]; omega
    have hx2 : (itemsD (slD e6 L))[i]? = some x.1 := by rw [items_slD]; simp [hx, e6]
    have hix := of_ix' hx2 x.2 (k := .i64)
    obtain ⟨nm, ex, f, mm, s, o, e2, lt⟩ := hfx
    rw [e2] at hix
    have ho1 := lt.one
    have e3 : ty6 x = .agg [.i .i64 f, .i .i64 mm, .s s, o] := by unfold ty6; rw [e2]
    rw [e1, e3] at hc
    have hmin : min mid lo = mid := Nat.min_eq_left l1
    have hwr : wr .i64 (a + k) = a + k := wr_i64 (by omega) (by omega)
    have hk1 : ¬ k < 0 := by omega
    have hgt : ¬ 16384 < a + k := by omega
    rw [← ihf]
    unfold innerT
    rw [f_types_sizes_record_l0_eq]
    simp only [f_types_sizes_record_B0, Int.reduceNeg, keepV_ptr, keepV_d, exL_seq, exL_ops, runOps_n, evalK_bin, isC_t, Bool.or_self, rd_t, reduceCtorEq, get_ne, Nat.reduceEqDiff, get_eq, readV_d, bin_lss, hltI, decide_true, okS_some, opC_ok, put_d, runOps_nil, thenC_nrm, exL_cond, condC_b, ↓reduceIte, exL_skip, exL_block, evalK_indexAddr, hix, put_cp, evalK_load, readV_cp, List.length_cons, List.length_nil, Nat.zero_add, Nat.reduceAdd, loadV_cp_agg, evalK_allocL, List.map_cons, List.map_nil, put_box, killLp_cons, killV_d, killV_cp, killV_ptr, killLp_nil, evalK_store, readV_box, spent_t, storeV_lp, cells_agg, ones_cons, vone_d, one_s, one_b, one_i, ho1, ones_nil, Bool.and_self, storeB_box, setCells_all, storeR_some, put_none, evalK_mov, readV_ptr, put_ptr, evalK_fieldAddr, faV_lp, put_lp, readV_lp, loadV_lp, Nat.reduceLeDiff, boxV_A, List.drop_succ_cons, List.drop_zero, List.take_succ_cons, List.take_zero, copy1_d, mkAgg_eq, allD_d, allD_nil, consD_some, aggV_some, evalK_call, allLeave_cons, leaves_ptr, leaves_d, allLeave_nil, eCall_f, hc, callC_some, spentAll_cons, spentAll_nil, hmin, rd_mv, takeV_d, spent_mv, bin_add, hwr, isC_c, Bool.or_true, rd_c, eq_false hk1, decide_false, runOps_g, wantG_bf, Bool.not_false, wantC_b, bin_gtr, eq_false hgt, evalK_pick, pickV_b, Bool.false_eq_true, blockC_nrm, restrict_cons, restrict_nil, hw, f_types_sizes_record_l0_in])
  exact ⟨fun h => (hsk _ 0 rfl (by omega)).1 (by simpa using h), fun j rc L i h1 h2 h3 h4 h5 h6 => (hsk _ j rfl (by have := (List.getElem?_eq_some_iff.1 h1).1; omega)).2 rc L i h1 h2 h3 h4 h5 h6⟩
theorem recMemo_W {R : List RecE} {n : Nat} {H0 : List Obj} {zid rid mid : Nat} (hp : Hp R n H0 zid rid mid) {m : Memo} {s : List Nat} {v : Int} (hl : lookM s m = some v) : callL pg 38 [.ptr zid 0, .d (.s s)] (hpM H0 mid m) = some ⟨false, true, .d (.i .i64 v), hpM H0 mid m, (hpM H0 mid m).length⟩ := by
  have hfz := hp.f.z
  have hfm := hp.f.m
  have hkf := keyFind_memo s m
  rw [hl] at hkf
  rw [callL_fn (fn := f_types_sizes_record) rfl rfl]
  simp only [f_types_sizes_record, Int.reduceNeg, argEnv_cons, Nat.zero_add, Nat.reduceAdd, argEnv_nil, setAt_length, exL_seq, exL_ops, runOps_n, evalK_mov, rd_c, spent_c, opC_ok, put_d, runOps_nil, thenC_nrm, rd_t, reduceCtorEq, get_ne, get_eq, readV_ptr, spent_t, put_ptr, evalK_nilCheck, okS_some, evalK_fieldAddr, faV_ptr, evalK_load, loadV_ptr, hfz, cellV_1, List.getElem?_cons_succ, List.getElem?_cons_zero, Option.map_some, copy1_map, put_map, Nat.reduceEqDiff, readV_d, evalK_lookup, readV_map, lookV_sE, hfm, lookE_map, hkf, findV_t, copy_d, put_tup, readV_tup, evalK_extract, extV_0, extV_1, exL_cond, condC_b, ↓reduceIte, exL_ret, thenC_ret, finC_ret, resultVs_cons, resultV_t, ownV_d, resultVs_nil, consO_some, leaveC_1]
  all_goals exact leave_same rfl (by simp [V.ref]) (by simp [setAt, hpM]) rfl
theorem recNoCh_W {R : List RecE} {n : Nat} {H0 : List Obj} {zid rid mid : Nat} (hp : Hp R n H0 zid rid mid) {m : Memo} {s : List Nat} (hs : s ≠ []) (hl : lookM s m = none) (ho : chF R R.length s = none) : callL pg 38 [.ptr zid 0, .d (.s s)] (hpM H0 mid m) = some ⟨false, false, .d (.i .i64 (-1)), hpM H0 mid (setM s (-1) m), mid⟩ := by
  have hfz := hp.f.z
  have hfm := hp.f.m
  have hfr := hp.f.r
  have hkf := keyFind_memo s m
  have hks := keySet_memo s (-1) m
  rw [hl] at hkf
  have hch := chain_call (hfr (.map (memoE (setM s (-1) m)))) (fun x hx => (hp.fs x hx).one) hp.len hs
  rw [ho] at hch
  simp only [resCh] at hch
  have hll := fun x e ms m => leave_lo (mid := mid) hp.lt (ms := ms) (m := m) (x := x) (e := e)
  have hmn : min H0.length mid = mid := Nat.min_eq_right (by have := hp.lt; omega)
  have hmn2 : min mid H0.length = mid := Nat.min_eq_left (by have := hp.lt; omega)
  rw [callL_fn (fn := f_types_sizes_record) rfl rfl]
  simp only [f_types_sizes_record, Int.reduceNeg, argEnv_cons, Nat.zero_add, Nat.reduceAdd, argEnv_nil, setAt_length, exL_seq, exL_ops, runOps_n, evalK_mov, rd_c, spent_c, opC_ok, put_d, runOps_nil, thenC_nrm, rd_t, reduceCtorEq, get_ne, get_eq, readV_ptr, spent_t, put_ptr, evalK_nilCheck, okS_some, evalK_fieldAddr, faV_ptr, evalK_load, loadV_ptr, hfz, cellV_1, List.getElem?_cons_succ, List.getElem?_cons_zero, Option.map_some, copy1_map, put_map, Nat.reduceEqDiff, readV_d, evalK_lookup, readV_map, lookV_sE, hfm, lookE_map, hkf, Option.map_none, findV_t0, put_tup, readV_tup, evalK_extract, extV_0, copy_d, extV_1, exL_cond, condC_b, Bool.false_eq_true, ↓reduceIte, exL_skip, evalK_mapUpdate, ok_d, updV_sE, updE_map, hks, setO_some, setAt_setAt, hmn, put_none, Nat.add_zero, evalK_call, List.map_cons, List.map_nil, allLeave_cons, leaves_d, leaves_map, allLeave_nil, Bool.and_self, eCall_f, hch, callC_some, spentAll_cons, spentAll_nil, hmn2, evalK_un, un_not, Bool.not_false, exL_ret, thenC_ret, finC_ret, resultVs_cons, resultV_t, ownV_d, resultVs_nil, consO_some, leaveC_1, hll]
theorem recOk_W {R : List RecE} {n : Nat} {H0 : List Obj} {zid rid mid : Nat} (hp : Hp R n H0 zid rid mid) {m m' : Memo} {s : List Nat} {recs : List RecE} {r : Int} (hs : s ≠ []) (hl : lookM s m = none) (ho : chF R R.length s = some recs)
    (ih : outerT H0 zid mid m s recs 0 0 (setM s (-1) m) = resT H0 mid s m' r) : callL pg 38 [.ptr zid 0, .d (.s s)] (hpM H0 mid m) = resT H0 mid s m' r := by
  have hfz := hp.f.z
  have hfm := hp.f.m
  have hfr := hp.f.r
  have hkf := keyFind_memo s m
  have hks := keySet_memo s (-1) m
  rw [hl] at hkf
  have hch := chain_call (hfr (.map (memoE (setM s (-1) m)))) (fun x hx => (hp.fs x hx).one) hp.len hs
  rw [ho] at hch
  simp only [resCh, List.nil_append] at hch
  have hmn : min H0.length mid = mid := Nat.min_eq_right (by have := hp.lt; omega)
  have hmn2 : min mid H0.length = mid := Nat.min_eq_left (by have := hp.lt; omega)
  have hlen := fun H => slD_len (e := recD) (L := recs) H
  rw [← ih, callL_fn (fn := f_types_sizes_record) rfl rfl]
  unfold outerT
  simp only [f_types_sizes_record, Int.reduceNeg, argEnv_cons, Nat.zero_add, Nat.reduceAdd, argEnv_nil, setAt_length, exL_seq, exL_ops, runOps_n, evalK_mov, rd_c, spent_c, opC_ok, put_d, runOps_nil, thenC_nrm, rd_t, reduceCtorEq, get_ne, get_eq, readV_ptr, spent_t, put_ptr, evalK_nilCheck, okS_some, evalK_fieldAddr, faV_ptr, evalK_load, loadV_ptr, hfz, cellV_1, List.getElem?_cons_succ, List.getElem?_cons_zero, Option.map_some, copy1_map, put_map, Nat.reduceEqDiff, readV_d, evalK_lookup, readV_map, lookV_sE, hfm, lookE_map, hkf, Option.map_none, findV_t0, put_tup, readV_tup, evalK_extract, extV_0, copy_d, extV_1, exL_cond, condC_b, Bool.false_eq_true, ↓reduceIte, exL_skip, evalK_mapUpdate, ok_d, updV_sE, updE_map, hks, setO_some, setAt_setAt, hmn, put_none, Nat.add_zero, evalK_call, List.map_cons, List.map_nil, allLeave_cons, leaves_d, leaves_map, allLeave_nil, Bool.and_self, eCall_f, hch, callC_some, spentAll_cons, spentAll_nil, hmn2, evalK_un, un_not, Bool.not_true, evalK_lenL, hlen, exL_block, f_types_sizes_record_l2_in, keepV_ptr, keepV_d, Int.cast_ofNat_Int]
  all_goals rfl
end W

set_option linter.unusedSimpArgs false
set_option linter.unusedVariables false
namespace W
open Go (IntKind BinOp UnOp)
set_option maxRecDepth 20000
theorem Lt.parts {n : Nat} {f m : Int} {s : List Nat} {o : D} (h : Lt n (.agg [.i .i64 f, .i .i64 m, .s s, o])) : (o = .nil ∨ ∃ l, o = .sl l) ∧ ∀ y ∈ itemsD o, Lt n y := by
  cases n with
  | zero => exact h.elim
  | succ n =>
    obtain ⟨_, _, _, _, e, ho, _, hi⟩ := h
    cases e
    exact ⟨ho, fun y hy => (hi y hy).up⟩
theorem Lt.form {n : Nat} {t : D} (h : Lt n t) : ∃ f m s o, t = .agg [.i .i64 f, .i .i64 m, .s s, o] := by
  cases n with
  | zero => exact h.elim
  | succ n =>
    obtain ⟨f, m, s, o, e, _⟩ := h
    exact ⟨f, m, s, o, e⟩
theorem wordsBad_W {R : List RecE} {n : Nat} {H0 : List Obj} {zid rid mid : Nat} (hp : Hp R n H0 zid rid mid) {m : Memo} {t : D} (h : rtN n t = false) : WT R n H0 zid rid mid m m (-1) (.ty t) := by
  intro ht hb
  obtain ⟨f, k, s, o, rfl⟩ := ht.form
  have hr := right_call ht.ok (H := hpM H0 mid m)
  rw [rtN_agg] at h
  rw [h] at hr
  have ho1 := ht.one
  have hlen : (hpM H0 mid m).length = H0.length := by simp [setAt, hpM]
  refine ⟨true, H0.length, by have := hp.lt; omega, fun _ => rfl, ?_⟩
  rw [callL_fn (fn := f_types_sizes_words) rfl rfl]
  simp only [f_types_sizes_words, Int.reduceNeg, argEnv_cons, Nat.zero_add, Nat.reduceAdd, argEnv_nil, setAt_length, exL_seq, exL_ops, runOps_n, evalK_box, rd_t, reduceCtorEq, get_ne, get_eq, readV_d, spent_t, cells_agg, List.map_cons, List.map_nil, ones_cons, vone_d, one_i, one_s, ho1, ones_nil, Bool.and_self, boxN_t, opC_ok, put_box, killLp_cons, killV_ptr, killV_d, killLp_nil, evalK_mov, rd_c, spent_c, put_d, runOps_nil, thenC_nrm, exL_block, evalK_load, Nat.reduceEqDiff, readV_box, loadV_lp, List.length_cons, List.length_nil, Nat.reduceLeDiff, boxV_A, List.drop_zero, List.take_succ_cons, List.take_zero, copy1_d, mkAgg_eq, allD_d, allD_nil, consD_some, aggV_some, okS_some, evalK_call, allLeave_cons, leaves_d, allLeave_nil, eCall_f, hr, callC_some, spentAll_cons, spentAll_nil, Nat.min_self, evalK_un, un_not, Bool.not_false, Option.map_some, exL_cond, condC_b, ↓reduceIte, exL_ret, blockC_ret, thenC_ret, finC_ret, resultVs_cons, resultV_t, ownV_d, resultVs_nil, consO_some, leaveC_1]
  all_goals exact leave_same rfl (by simp [V.ref]) (by simp [setAt, hpM]) rfl
theorem wordsOne_W {R : List RecE} {n : Nat} {H0 : List Obj} {zid rid mid : Nat} (hp : Hp R n H0 zid rid mid) {m : Memo} {f k : Int} {s : List Nat} {o : D} (h : rtN n (.agg [.i .i64 f, .i .i64 k, .s s, o]) = true) (h7 : f ≠ 7) (h8 : f ≠ 8) : WT R n H0 zid rid mid m m 1 (.ty (.agg [.i .i64 f, .i .i64 k, .s s, o])) := by
  intro ht hb
  have hr := right_call ht.ok (H := hpM H0 mid m)
  rw [rtN_agg] at h
  rw [h] at hr
  have ho1 := ht.one
  refine ⟨true, H0.length, by have := hp.lt; omega, fun _ => rfl, ?_⟩
  rw [callL_fn (fn := f_types_sizes_words) rfl rfl]
  simp only [f_types_sizes_words, Int.reduceNeg, argEnv_cons, Nat.zero_add, Nat.reduceAdd, argEnv_nil, setAt_length, exL_seq, exL_ops, runOps_n, evalK_box, rd_t, reduceCtorEq, get_ne, get_eq, readV_d, spent_t, cells_agg, List.map_cons, List.map_nil, ones_cons, vone_d, one_i, one_s, ho1, ones_nil, Bool.and_self, boxN_t, opC_ok, put_box, killLp_cons, killV_ptr, killV_d, killLp_nil, evalK_mov, rd_c, spent_c, put_d, runOps_nil, thenC_nrm, exL_block, evalK_load, Nat.reduceEqDiff, readV_box, loadV_lp, List.length_cons, List.length_nil, Nat.reduceLeDiff, boxV_A, List.drop_zero, List.take_succ_cons, List.take_zero, copy1_d, mkAgg_eq, allD_d, allD_nil, consD_some, aggV_some, okS_some, evalK_call, allLeave_cons, leaves_d, allLeave_nil, eCall_f, hr, callC_some, spentAll_cons, spentAll_nil, Nat.min_self, evalK_un, un_not, Bool.not_true, Option.map_some, exL_cond, condC_b, Bool.false_eq_true, ↓reduceIte, evalK_fieldAddr, faV_lp, Nat.add_zero, put_lp, readV_lp, boxV_1, List.getElem?_cons_zero, evalK_bin, isC_t, isC_c, Bool.or_true, bin_eql, eq_false h7, decide_false, eq_false h8, exL_skip, blockC_nrm, restrict_nil, exL_ret, finC_ret, resultVs_cons, resultV_t, ownV_d, resultVs_nil, consO_some, leaveC_1]
  all_goals exact leave_same rfl (by simp [V.ref]) (by simp [setAt, hpM]) rfl
theorem wordsRec_W {R : List RecE} {n : Nat} {H0 : List Obj} {zid rid mid : Nat} (hp : Hp R n H0 zid rid mid) {m m' : Memo} {k : Int} {s : List Nat} {o : D} {r : Int} {sm : Bool} {lo : Nat} (h : rtN n (.agg [.i .i64 8, .i .i64 k, .s s, o]) = true)
    (hlo : mid ≤ lo) (hm : H0.length ≤ lo → m' = m) (hc : callL pg 38 [.ptr zid 0, .d (.s s)] (hpM H0 mid m) = some ⟨false, sm, .d (.i .i64 r), hpM H0 mid m', lo⟩) : WT R n H0 zid rid mid m m' r (.ty (.agg [.i .i64 8, .i .i64 k, .s s, o])) := by
  intro ht hb
  have hr := right_call ht.ok (H := hpM H0 mid m)
  rw [rtN_agg] at h
  rw [h] at hr
  have ho1 := ht.one
  have hw := fun e => leave_w (e := e) (v := .d (.i .i64 r)) hlo hp.lt hm rfl rfl (fun _ _ => rfl)
  rw [callL_fn (fn := f_types_sizes_words) rfl rfl]
  simp only [f_types_sizes_words, Int.reduceNeg, argEnv_cons, Nat.zero_add, Nat.reduceAdd, argEnv_nil, setAt_length, exL_seq, exL_ops, runOps_n, evalK_box, rd_t, reduceCtorEq, get_ne, get_eq, readV_d, spent_t, cells_agg, List.map_cons, List.map_nil, ones_cons, vone_d, one_i, one_s, ho1, ones_nil, Bool.and_self, boxN_t, opC_ok, put_box, killLp_cons, killV_ptr, killV_d, killLp_nil, evalK_mov, rd_c, spent_c, put_d, runOps_nil, thenC_nrm, exL_block, evalK_load, Nat.reduceEqDiff, readV_box, loadV_lp, List.length_cons, List.length_nil, Nat.reduceLeDiff, boxV_A, List.drop_zero, List.take_succ_cons, List.take_zero, copy1_d, mkAgg_eq, allD_d, allD_nil, consD_some, aggV_some, okS_some, evalK_call, allLeave_cons, leaves_d, allLeave_nil, eCall_f, hr, callC_some, spentAll_cons, spentAll_nil, Nat.min_self, evalK_un, un_not, Bool.not_true, Option.map_some, exL_cond, condC_b, Bool.false_eq_true, ↓reduceIte, evalK_fieldAddr, faV_lp, Nat.add_zero, put_lp, readV_lp, boxV_1, List.getElem?_cons_zero, evalK_bin, isC_t, isC_c, Bool.or_true, bin_eql, Int.reduceEq, decide_false, decide_true, rd_mv, takeV_ptr, spent_mv, put_ptr, List.getElem?_cons_succ, leaves_ptr, hc, takeV_d, exL_ret, blockC_ret, thenC_ret, finC_ret, resultVs_cons, resultV_t, ownV_d, resultVs_nil, consO_some, leaveC_1]
  exact hw _
theorem wordsArr_W {R : List RecE} {n : Nat} {H0 : List Obj} {zid rid mid : Nat} (hp : Hp R n H0 zid rid mid) {m m' : Memo} {k : Int} {s : List Nat} {o y : D} {z r : Int} (h : rtN n (.agg [.i .i64 7, .i .i64 k, .s s, o]) = true) (hy : itemsD o = [y])
    (hz : -1 ≤ z ∧ z ≤ 16384) (ih : WT R n H0 zid rid mid m m' z (.ty y)) (hr' : r = if z < 0 ∨ Int.tdiv 16384 k < z then -1 else z * k) : WT R n H0 zid rid mid m m' r (.ty (.agg [.i .i64 7, .i .i64 k, .s s, o])) := by
  intro ht hb
  have hr := right_call ht.ok (H := hpM H0 mid m)
  have hk := (rtN_ok n).k k s o h
  rw [rtN_agg] at h
  rw [h] at hr
  have ho1 := ht.one
  obtain ⟨ho, hi⟩ := ht.parts
  have hly := hi y (by rw [hy]; simp)
  obtain ⟨sm, lo, hlo, hm, hc⟩ := ih hly hb
  have hx := of_ix (o := o) (n := 0) (y := y) (by rw [hy]; rfl) hly.ok.cells (k := .i64)
  rw [show ((0 : Nat) : Int) = 0 from rfl] at hx
  obtain ⟨f', m2, s', o', rfl⟩ := hly.form
  have hw := fun e => leave_w (e := e) (v := .d (.i .i64 r)) hlo hp.lt hm rfl rfl (fun _ _ => rfl)
  have hkz : (k = 0) = False := eq_false (by omega)
  have e1 := Int.tdiv_eq_ediv_of_nonneg (a := 16384) (b := k) (by omega)
  have e2 : (16384 : Int) / k ≤ 16384 := Int.ediv_le_self k (by omega)
  have e3 : (0 : Int) ≤ 16384 / k := Int.ediv_nonneg (by omega) (by omega)
  have hq : wr .i64 (Int.tdiv 16384 k) = Int.tdiv 16384 k := wr_i64 (by omega) (by omega)
  rw [callL_fn (fn := f_types_sizes_words) rfl rfl]
  by_cases h0 : z < 0
  · have hr1 : r = -1 := by rw [hr', if_pos (.inl h0)]
    subst hr1
    simp only [f_types_sizes_words, Int.reduceNeg, argEnv_cons, Nat.zero_add, Nat.reduceAdd, argEnv_nil, setAt_length, exL_seq, exL_ops, runOps_n, evalK_box, rd_t, reduceCtorEq, get_ne, get_eq, readV_d, spent_t, cells_agg, List.map_cons, List.map_nil, ones_cons, vone_d, one_i, one_s, ho1, ones_nil, Bool.and_self, boxN_t, opC_ok, put_box, killLp_cons, killV_ptr, killV_d, killLp_nil, evalK_mov, rd_c, spent_c, put_d, runOps_nil, thenC_nrm, exL_block, evalK_load, Nat.reduceEqDiff, readV_box, loadV_lp, List.length_cons, List.length_nil, Nat.reduceLeDiff, boxV_A, List.drop_zero, List.take_succ_cons, List.take_zero, copy1_d, mkAgg_eq, allD_d, allD_nil, consD_some, aggV_some, okS_some, evalK_call, allLeave_cons, leaves_d, allLeave_nil, eCall_f, hr, callC_some, spentAll_cons, spentAll_nil, Nat.min_self, evalK_un, un_not, Bool.not_true, Option.map_some, exL_cond, condC_b, Bool.false_eq_true, ↓reduceIte, evalK_fieldAddr, faV_lp, Nat.add_zero, put_lp, readV_lp, boxV_1, List.getElem?_cons_zero, evalK_bin, isC_t, isC_c, Bool.or_true, bin_eql, decide_true, rd_mv, takeV_ptr, spent_mv, put_ptr, List.getElem?_cons_succ, evalK_indexAddr, hx, put_cp, readV_cp, loadV_cp_agg, leaves_ptr, hc, takeV_d, bin_lss, eq_true h0, runOps_g, wantG_bf, wantC_b, put_tup, evalK_pick, readV_tup, pickV_t, exL_ret, thenC_ret, blockC_ret, finC_ret, resultVs_cons, resultV_t, ownV_d, resultVs_nil, consO_some, leaveC_1]
    exact hw _
  · by_cases h1 : Int.tdiv 16384 k < z
    · have hr1 : r = -1 := by rw [hr', if_pos (.inr h1)]
      subst hr1
      simp only [f_types_sizes_words, Int.reduceNeg, argEnv_cons, Nat.zero_add, Nat.reduceAdd, argEnv_nil, setAt_length, exL_seq, exL_ops, runOps_n, evalK_box, rd_t, reduceCtorEq, get_ne, get_eq, readV_d, spent_t, cells_agg, List.map_cons, List.map_nil, ones_cons, vone_d, one_i, one_s, ho1, ones_nil, Bool.and_self, boxN_t, opC_ok, put_box, killLp_cons, killV_ptr, killV_d, killLp_nil, evalK_mov, rd_c, spent_c, put_d, runOps_nil, thenC_nrm, exL_block, evalK_load, Nat.reduceEqDiff, readV_box, loadV_lp, List.length_cons, List.length_nil, Nat.reduceLeDiff, boxV_A, List.drop_zero, List.take_succ_cons, List.take_zero, copy1_d, mkAgg_eq, allD_d, allD_nil, consD_some, aggV_some, okS_some, evalK_call, allLeave_cons, leaves_d, allLeave_nil, eCall_f, hr, callC_some, spentAll_cons, spentAll_nil, Nat.min_self, evalK_un, un_not, Bool.not_true, Option.map_some, exL_cond, condC_b, Bool.false_eq_true, ↓reduceIte, evalK_fieldAddr, faV_lp, Nat.add_zero, put_lp, readV_lp, boxV_1, List.getElem?_cons_zero, evalK_bin, isC_t, isC_c, Bool.or_true, bin_eql, decide_true, rd_mv, takeV_ptr, spent_mv, put_ptr, List.getElem?_cons_succ, evalK_indexAddr, hx, put_cp, readV_cp, loadV_cp_agg, leaves_ptr, hc, takeV_d, bin_lss, eq_false h0, decide_false, runOps_g, wantG_bf, Bool.not_false, wantC_b, Bool.or_false, hkz, bin_quo, hq, Bool.or_self, bin_gtr, eq_true h1, evalK_pick, pickV_b, exL_ret, thenC_ret, blockC_ret, finC_ret, resultVs_cons, resultV_t, ownV_d, resultVs_nil, consO_some, leaveC_1]
      exact hw _
    · have hr1 : r = z * k := by rw [hr', if_neg (by omega)]
      have h5 := arr_le (n := z) (k := k) hk.1 (by omega) (by omega)
      have h6 := Int.mul_nonneg (show (0 : Int) ≤ z by omega) (show (0 : Int) ≤ k by omega)
      have hwm : wr .i64 (z * k) = z * k := wr_i64 (by omega) (by omega)
      subst hr1
      simp only [f_types_sizes_words, Int.reduceNeg, argEnv_cons, Nat.zero_add, Nat.reduceAdd, argEnv_nil, setAt_length, exL_seq, exL_ops, runOps_n, evalK_box, rd_t, reduceCtorEq, get_ne, get_eq, readV_d, spent_t, cells_agg, List.map_cons, List.map_nil, ones_cons, vone_d, one_i, one_s, ho1, ones_nil, Bool.and_self, boxN_t, opC_ok, put_box, killLp_cons, killV_ptr, killV_d, killLp_nil, evalK_mov, rd_c, spent_c, put_d, runOps_nil, thenC_nrm, exL_block, evalK_load, Nat.reduceEqDiff, readV_box, loadV_lp, List.length_cons, List.length_nil, Nat.reduceLeDiff, boxV_A, List.drop_zero, List.take_succ_cons, List.take_zero, copy1_d, mkAgg_eq, allD_d, allD_nil, consD_some, aggV_some, okS_some, evalK_call, allLeave_cons, leaves_d, allLeave_nil, eCall_f, hr, callC_some, spentAll_cons, spentAll_nil, Nat.min_self, evalK_un, un_not, Bool.not_true, Option.map_some, exL_cond, condC_b, Bool.false_eq_true, ↓reduceIte, evalK_fieldAddr, faV_lp, Nat.add_zero, put_lp, readV_lp, boxV_1, List.getElem?_cons_zero, evalK_bin, isC_t, isC_c, Bool.or_true, bin_eql, decide_true, rd_mv, takeV_ptr, spent_mv, put_ptr, List.getElem?_cons_succ, evalK_indexAddr, hx, put_cp, readV_cp, loadV_cp_agg, leaves_ptr, hc, takeV_d, bin_lss, eq_false h0, decide_false, runOps_g, wantG_bf, Bool.not_false, wantC_b, Bool.or_false, hkz, bin_quo, hq, Bool.or_self, bin_gtr, eq_false h1, evalK_pick, pickV_b, exL_skip, bin_mul, hwm, exL_ret, blockC_ret, thenC_ret, finC_ret, resultVs_cons, resultV_t, ownV_d, resultVs_nil, consO_some, leaveC_1]
      exact hw _
theorem words_W {R : List RecE} {n : Nat} {H0 : List Obj} {zid rid mid : Nat} (hp : Hp R n H0 zid rid mid) {m m' : Memo} {T : Tsk} {r : Int} (h : Ev (rtN n) (ordT R) m T m' r) : BdM m → BdT T → WT R n H0 zid rid mid m m' r T := by
  induction h with
  | bad h => exact fun _ _ => wordsBad_W hp h
  | @arrNo m m' k s o y z hr hy h hn ih => exact fun hb _ => wordsArr_W hp hr hy (h.bd (rtN_ok n) hb trivial).2 (ih hb trivial) (by rw [if_pos hn])
  | @arr m m' k s o y z hr hy h h0 hn ih => exact fun hb _ => wordsArr_W hp hr hy (h.bd (rtN_ok n) hb trivial).2 (ih hb trivial) (by rw [if_neg (by omega)])
  | one hr h7 h8 => exact fun _ _ => wordsOne_W hp hr h7 h8
  | @memo m k s o v hr hl => exact fun _ _ => wordsRec_W hp hr (by have := hp.lt; simp [setAt, hpM]; omega) (fun _ => rfl) (recMemo_W hp hl)
  | @noCh m k s o hr hl ho =>
    intro _ _
    have hch : chF R R.length s = none := by
      unfold ordT at ho
      cases hq : chF R R.length s with
      | none => rfl
      | some l => rw [hq] at ho; cases ho
    exact wordsRec_W hp hr (Nat.le_refl _) (fun h => by have := hp.lt; omega) (recNoCh_W hp ((rtN_ok n).s k s o hr) hl hch)
  | @recNo m m' k s o l r hr hl ho h hn ih =>
    intro hb _
    obtain ⟨recs, hq, e⟩ : ∃ recs, chF R R.length s = some recs ∧ flT recs = l := by
      unfold ordT at ho
      cases hq : chF R R.length s with
      | none => rw [hq] at ho; cases ho
      | some l' => rw [hq] at ho; cases ho; exact ⟨l', rfl, rfl⟩
    obtain ⟨c1, c2⟩ := chF_mem _ _ _ hq
    have hb' := hb.set s (v := -1) (by omega) (by omega)
    have hW := (ih hb' ⟨by omega, by omega⟩ (by omega) (by omega) hb' (fun t ht => (ordT_lt hp.fs s l ho).2 t ht) m s recs c1 (by have := hp.len; omega)).1 e
    have hc := recOk_W hp ((rtN_ok n).s k s o hr) hl hq hW
    unfold resT at hc
    rw [if_pos hn, if_pos hn] at hc
    exact wordsRec_W hp hr (Nat.le_refl _) (fun h => by have := hp.lt; omega) hc
  | @recOk m m' k s o l r hr hl ho h hn ih =>
    intro hb _
    obtain ⟨recs, hq, e⟩ : ∃ recs, chF R R.length s = some recs ∧ flT recs = l := by
      unfold ordT at ho
      cases hq : chF R R.length s with
      | none => rw [hq] at ho; cases ho
      | some l' => rw [hq] at ho; cases ho; exact ⟨l', rfl, rfl⟩
    obtain ⟨c1, c2⟩ := chF_mem _ _ _ hq
    have hb' := hb.set s (v := -1) (by omega) (by omega)
    have hW := (ih hb' ⟨by omega, by omega⟩ (by omega) (by omega) hb' (fun t ht => (ordT_lt hp.fs s l ho).2 t ht) m s recs c1 (by have := hp.len; omega)).1 e
    have hc := recOk_W hp ((rtN_ok n).s k s o hr) hl hq hW
    unfold resT at hc
    rw [if_neg (by omega), if_neg (by omega)] at hc
    exact wordsRec_W hp hr (Nat.le_refl _) (fun h => by have := hp.lt; omega) hc
  | sumNil => exact fun _ _ => sumNil_W hp
  | @sumNo m m' a k t l h hk ih => exact fun hb _ => sumNo_W hp hk (h.bd (rtN_ok n) hb trivial).2 (ih hb trivial)
  | @sumCons m m' m'' a k r t l h h0 hk h2 ih1 ih2 =>
    intro hb ht
    have hb' := (h.bd (rtN_ok n) hb trivial).1
    exact sumCons_W hp h0 hk hb' (ih1 hb trivial) (ih2 hb' ⟨by have := ht.1; omega, hk⟩)
theorem Words_call {H : List Obj} {R : List RecE} {id n : Nat} (hid : H[id]? = some (.map (esR R))) (hfs : ∀ r ∈ R, FsOk n r.fs) (hR : R.length ≤ 1000) {t : D} (ht : Lt n t) {m' : Memo} {r : Int} (hev : Ev (rtN n) (ordT R) [] (.ty t) m' r) :
    ∃ lo, H.length ≤ lo ∧ callL pg 17 [.d t, .map id] H = some ⟨false, true, .tup [.d (.i .i64 (max r 0)), .d (.b (decide (0 ≤ r)))], H, lo⟩ := by
  let H0 : List Obj := H ++ [.map []] ++ [.cells [.map id, .map H.length]]
  have hidl : id < H.length := (List.getElem?_eq_some_iff.1 hid).1
  have hp : Hp R n H0 (H.length + 1) id H.length := by
    refine ⟨by simp [H0], ?_, ⟨.map [], by simp [H0]⟩, by omega, by omega, hfs, hR⟩
    simp only [H0, List.append_assoc]
    exact push_old hid
  obtain ⟨sm, lo, hlo, _, hc⟩ := words_W hp hev (fun s v h => by cases h) trivial ht (fun s v h => by cases h)
  have hb := hev.bd (rtN_ok n) (fun s v h => by cases h) trivial
  rw [show hpM H0 H.length [] = H0 from setAt_self (by simp [H0, memoE])] at hc
  have ho := ht.form
  obtain ⟨f, k, s, o, rfl⟩ := ho
  have ho1 := ht.one
  have hmx : (if 0 > r then (0 : Int) else r) = max r 0 := by split <;> omega
  have hmn : min H.length lo = H.length := Nat.min_eq_left hlo
  simp only [H0] at hc
  have hll : ∀ (e : Env) (H' : List Obj), leave H false (.tup [.d (.i .i64 (max r 0)), .d (.b (decide (0 ≤ r)))]) ⟨e, H', H.length⟩ = some ⟨false, true, .tup [.d (.i .i64 (max r 0)), .d (.b (decide (0 ≤ r)))], H, H.length⟩ := fun e H' => leave_pure rfl rfl rfl
  refine ⟨H.length, Nat.le_refl _, ?_⟩
  rw [callL_fn (fn := f_types_Words) rfl rfl]
  simp only [f_types_Words, argEnv_cons, Nat.zero_add, Nat.reduceAdd, argEnv_nil, exL_seq, exL_ops, runOps_n, evalK_box, rd_t, get_eq, readV_d, spent_t, cells_agg, List.map_cons, List.map_nil, ones_cons, vone_d, one_i, one_s, ho1, ones_nil, Bool.and_self, boxN_t, opC_ok, put_box, killLp_cons, killV_d, killV_map, killLp_nil, evalK_mov, rd_c, spent_c, put_d, runOps_nil, thenC_nrm, Nat.reduceEqDiff, get_ne, reduceCtorEq, readV_map, put_map, evalK_mkMap, evalK_build, cells_map, vone_map, List.length_cons, List.length_nil, Nat.reduceLT, fillC_1, List.set_cons_zero, List.set_cons_succ, fillC_nil, aggO_some, mkAgg_eq, allD_map, aggV_none, okS_some, put_agg, readV_agg, copy1_map, cells_aggV, boxN_f, List.length_append, put_ptr, readV_ptr, rd_mv, takeV_ptr, spent_mv, evalK_load, readV_box, loadV_lp, Nat.reduceLeDiff, boxV_A, List.drop_zero, List.take_succ_cons, List.take_zero, copy1_d, allD_d, allD_nil, consD_some, aggV_some, evalK_call, allLeave_cons, leaves_ptr, leaves_d, allLeave_nil, eCall_f, hc, callC_some, spentAll_cons, spentAll_nil, hmn, takeV_d, evalK_max, maxD_2, hmx, evalK_bin, isC_t, isC_c, Bool.or_true, bin_geq, exL_ret, finC_ret, resultVs_cons, resultV_t, ownV_d, resultVs_nil, consO_some, leaveC_2, hll]
end W

set_option linter.unusedSimpArgs false
set_option linter.unusedVariables false
namespace W
open Go (IntKind BinOp UnOp)
set_option maxRecDepth 20000
structure HpR (R : List RecE) (n : Nat) (H0 : List Obj) (rid mid : Nat) : Prop where
  r : H0[rid]? = some (.map (esR R))
  m : ∃ o, H0[mid]? = some o
  rm : rid ≠ mid
  fs : ∀ x ∈ R, FsOk n x.fs
  len : R.length ≤ 1000
theorem HpR.lt {R : List RecE} {n : Nat} {H0 : List Obj} {rid mid : Nat} (h : HpR R n H0 rid mid) : mid < H0.length := by
  obtain ⟨o, h⟩ := h.m
  exact (List.getElem?_eq_some_iff.1 h).1
structure HpFR (H0 : List Obj) (R : List RecE) (rid mid : Nat) : Prop where
  r : ∀ o, (setAt H0 mid o)[rid]? = some (.map (esR R))
  m : ∀ o, (setAt H0 mid o)[mid]? = some o
theorem HpR.f {R : List RecE} {n : Nat} {H0 : List Obj} {rid mid : Nat} (h : HpR R n H0 rid mid) : HpFR H0 R rid mid := by
  obtain ⟨o', ho'⟩ := h.m
  refine ⟨fun o => ?_, fun o => setAt_get ho'⟩
  rw [setAt_ne (eq_false h.rm)]; exact h.r
def resN (r : Int) : V := .tup [.d (.i .i64 (max r 0)), .d (.b (decide (0 ≤ r)))]
theorem resN_neg {r : Int} (h : r < 0) : resN r = .tup [.d (.i .i64 0), .d (.b false)] := by
  unfold resN
  rw [show max r 0 = 0 by omega, decide_eq_false (by omega)]
theorem resN_pos {r : Int} (h : 0 ≤ r) : resN r = .tup [.d (.i .i64 r), .d (.b true)] := by
  unfold resN
  rw [show max r 0 = r by omega, decide_eq_true h]
noncomputable abbrev loopR (H0 : List Obj) (rid mid : Nat) (ms : Memo) (c0 c1 : D) (s : List Nat) (c3 : D) (L : List D6) (i : Nat) (a : Int) (m : Memo) : Option Cr :=
  finC (hpM H0 mid ms) false [.t 6, .t 7] (thenC pg (blockC 0 [] (thenC pg (blockC 1 [2, 3, 14] (f_waferref11_words_l0 pg (.map rid) (.map mid) (.box [.d c0, .d c1, .d (.s s), .d c3]) (.d (slD e6 L)) (.d (.i .i64 a)) (.d (.i .i64 (i : Nat))) (hpM H0 mid m) mid)) f_waferref11_words_R1)) f_waferref11_words_R2)
def resRR (H0 : List Obj) (mid : Nat) (name : List Nat) (m' : Memo) (r : Int) : Option Cr :=
  some ⟨false, false, resN r, hpM H0 mid (if r < 0 then m' else setM name r m'), mid⟩
def WR (R : List RecE) (n : Nat) (H0 : List Obj) (rid mid : Nat) (m m' : Memo) (r : Int) : Tsk → Prop
  | .ty t => Lt n t → BdM m → ∃ sm lo, mid ≤ lo ∧ (H0.length ≤ lo → m' = m) ∧ callL pg 32 [.d t, .map rid, .map mid] (hpM H0 mid m) = some ⟨false, sm, resN r, hpM H0 mid m', lo⟩
  | .sum a l => 0 ≤ a → a ≤ 16384 → BdM m → (∀ t ∈ l, Lt n t) → ∀ (ms : Memo) (c0 c1 : D) (s : List Nat) (c3 : D) (L : List D6) (i : Nat), L.length ≤ 10000 → (∀ y ∈ L, Fd n y.1) → i ≤ L.length → (L.drop i).map ty6 = l → loopR H0 rid mid ms c0 c1 s c3 L i a m = resRR H0 mid s m' r
theorem leave_loV {H0 : List Obj} {mid : Nat} (hmid : mid < H0.length) {ms m : Memo} {x y : D} {e : Env} : leave (hpM H0 mid ms) false (.tup [.d x, .d y]) ⟨e, hpM H0 mid m, mid⟩ = some ⟨false, false, .tup [.d x, .d y], hpM H0 mid m, mid⟩ :=
  leave_new rfl (.inr (by simp [setAt]; exact hmid)) rfl
theorem sumNil_R {R : List RecE} {n : Nat} {H0 : List Obj} {rid mid : Nat} (hp : HpR R n H0 rid mid) {m : Memo} {a : Int} : WR R n H0 rid mid m m a (.sum a []) := by
  intro h0 h1 hb _ ms c0 c1 s c3 L i hL hLy hi hl
  have e : i = L.length := by
    have := congrArg List.length hl
    simp at this; omega
  subst e
  have hlt : ((L.length : Int) < (L.length : Int)) = False := by simp
  have hks := keySet_memo s a m
  have hfm := hp.f.m
  have hlen := fun H => slD_len (e := e6) (L := L) H
  have hll := fun x y e ms m => leave_loV (mid := mid) hp.lt (ms := ms) (m := m) (x := x) (y := y) (e := e)
  unfold loopR resRR
  rw [if_neg (by omega), resN_pos h0, f_waferref11_words_l0_eq]
  simp only [f_waferref11_words_B0, keepV_map, keepV_box, keepV_d, exL_seq, exL_ops, runOps_n, evalK_mov, rd_t, Nat.reduceEqDiff, get_ne, get_eq, readV_d, spent_t, opC_ok, put_d, evalK_lenL, hlen, okS_some, evalK_bin, isC_t, Bool.or_self, bin_lss, hlt, decide_false, runOps_nil, thenC_nrm, exL_cond, condC_b, Bool.false_eq_true, ↓reduceIte, exL_exit, thenC_exit, blockC_exit, restrict_cons, restrict_nil, f_waferref11_words_R1, readV_map, put_map, evalK_fieldAddr, readV_box, faV_lp, Nat.zero_add, put_lp, evalK_load, readV_lp, loadV_lp, boxV_1, List.getElem?_cons_succ, List.getElem?_cons_zero, Option.map_some, copy1_d, evalK_mapUpdate, ok_d, updV_sE, hfm, updE_map, hks, setO_some, setAt_setAt, Nat.min_self, put_none, rd_c, spent_c, exL_ret, blockC_ret, thenC_ret, finC_ret, resultVs_cons, resultV_t, ownV_d, resultVs_nil, consO_some, leaveC_2, hll]
theorem sumNo_R {R : List RecE} {n : Nat} {H0 : List Obj} {rid mid : Nat} (hp : HpR R n H0 rid mid) {m m' : Memo} {a k : Int} {t : D} {l : List D} (hk : k < 0 ∨ 16384 < a + k) (hkb : -1 ≤ k ∧ k ≤ 16384)
    (ih : WR R n H0 rid mid m m' k (.ty t)) : WR R n H0 rid mid m m' (-1) (.sum a (t :: l)) := by
  intro h0 h1 hb hlt ms c0 c1 s c3 L i hL hLy hi hl
  obtain ⟨sm, lo, l1, l2, hc⟩ := ih (hlt t (by simp)) hb
  have hil : i < L.length := by
    have := congrArg List.length hl
    simp at this; omega
  obtain ⟨x, hx⟩ : ∃ x, L[i]? = some x := ⟨L[i]'hil, by simp⟩
  have hdr : L.drop i = x :: L.drop (i + 1) := by
    obtain ⟨hi', rfl⟩ := List.getElem?_eq_some_iff.1 hx
    exact List.drop_eq_getElem_cons hi'
  rw [hdr, List.map_cons] at hl
  have e1 : t = ty6 x := by injection hl with h1 h2; exact h1.symm
  have hltI : ((i : Int) < (L.length : Int)) = True := eq_true (by omega)
  have hx2 : (itemsD (slD e6 L))[i]? = some x.1 := by rw [items_slD]; simp [hx, e6]
  have hix := of_ix' hx2 x.2 (k := .i64)
  obtain ⟨nm, ex, f, mm, s', o, e2, lt⟩ := hLy x (List.mem_of_getElem? hx)
  rw [e2] at hix
  have ho1 := lt.one
  have e3 : ty6 x = .agg [.i .i64 f, .i .i64 mm, .s s', o] := by unfold ty6; rw [e2]
  rw [e1, e3] at hc
  have hmin : min mid lo = mid := Nat.min_eq_left l1
  have hll := fun x y e ms m => leave_loV (mid := mid) hp.lt (ms := ms) (m := m) (x := x) (y := y) (e := e)
  have hwr : wr .i64 (a + k) = a + k := wr_i64 (by omega) (by omega)
  have hlen := fun H => slD_len (e := e6) (L := L) H
  unfold loopR resRR
  rw [if_pos (by omega), resN_neg (by omega), f_waferref11_words_l0_eq]
  by_cases hk0 : k < 0
  · rw [resN_neg hk0] at hc
    simp only [f_waferref11_words_B0, keepV_map, keepV_box, keepV_d, exL_seq, exL_ops, runOps_n, evalK_mov, rd_t, Nat.reduceEqDiff, get_ne, get_eq, readV_d, spent_t, opC_ok, put_d, evalK_lenL, hlen, okS_some, evalK_bin, isC_t, Bool.or_self, bin_lss, hltI, decide_true, runOps_nil, thenC_nrm, exL_cond, condC_b, ↓reduceIte, exL_skip, exL_block, evalK_indexAddr, hix, put_cp, evalK_fieldAddr, readV_cp, Nat.reduceAdd, List.length_cons, List.length_nil, Nat.zero_add, Nat.reduceLeDiff, faV_cpA, List.drop_succ_cons, List.drop_zero, List.take_succ_cons, List.take_zero, evalK_load, loadV_cp_agg, readV_map, put_map, evalK_call, List.map_cons, List.map_nil, allLeave_cons, leaves_d, leaves_map, allLeave_nil, Bool.and_self, eCall_f, hc, callC_some, spentAll_cons, spentAll_nil, hmin, put_tup, readV_tup, evalK_extract, extV_0, copy_d, extV_1, evalK_un, un_not, Bool.not_false, Option.map_some, rd_c, spent_c, exL_ret, thenC_ret, blockC_ret, finC_ret, resultVs_cons, resultV_t, ownV_d, resultVs_nil, consO_some, leaveC_2, hll]
  · have hgt : 16384 < a + k := by omega
    rw [resN_pos (by omega)] at hc
    simp only [f_waferref11_words_B0, keepV_map, keepV_box, keepV_d, exL_seq, exL_ops, runOps_n, evalK_mov, rd_t, Nat.reduceEqDiff, get_ne, get_eq, readV_d, spent_t, opC_ok, put_d, evalK_lenL, hlen, okS_some, evalK_bin, isC_t, Bool.or_self, bin_lss, hltI, decide_true, runOps_nil, thenC_nrm, exL_cond, condC_b, ↓reduceIte, exL_skip, exL_block, evalK_indexAddr, hix, put_cp, evalK_fieldAddr, readV_cp, Nat.reduceAdd, List.length_cons, List.length_nil, Nat.zero_add, Nat.reduceLeDiff, faV_cpA, List.drop_succ_cons, List.drop_zero, List.take_succ_cons, List.take_zero, evalK_load, loadV_cp_agg, readV_map, put_map, evalK_call, List.map_cons, List.map_nil, allLeave_cons, leaves_d, leaves_map, allLeave_nil, Bool.and_self, eCall_f, hc, callC_some, spentAll_cons, spentAll_nil, hmin, put_tup, readV_tup, evalK_extract, extV_0, copy_d, extV_1, evalK_un, un_not, Bool.not_true, Option.map_some, Bool.false_eq_true, bin_add, hwr, isC_c, Bool.or_true, rd_c, bin_gtr, eq_true hgt, spent_c, exL_ret, blockC_ret, thenC_ret, finC_ret, resultVs_cons, resultV_t, ownV_d, resultVs_nil, consO_some, leaveC_2, hll]
theorem sumCons_R {R : List RecE} {n : Nat} {H0 : List Obj} {rid mid : Nat} (hp : HpR R n H0 rid mid) {m m' m'' : Memo} {a k r : Int} {t : D} {l : List D} (hk0 : 0 ≤ k) (hk : a + k ≤ 16384) (hb' : BdM m')
    (ih : WR R n H0 rid mid m m' k (.ty t)) (ih2 : WR R n H0 rid mid m' m'' r (.sum (a + k) l)) : WR R n H0 rid mid m m'' r (.sum a (t :: l)) := by
  intro h0 h1 hb hlt ms c0 c1 s c3 L i hL hLy hi hl
  obtain ⟨sm, lo, l1, l2, hc⟩ := ih (hlt t (by simp)) hb
  have hil : i < L.length := by
    have := congrArg List.length hl
    simp at this; omega
  obtain ⟨x, hx⟩ : ∃ x, L[i]? = some x := ⟨L[i]'hil, by simp⟩
  have hdr : L.drop i = x :: L.drop (i + 1) := by
    obtain ⟨hi', rfl⟩ := List.getElem?_eq_some_iff.1 hx
    exact List.drop_eq_getElem_cons hi'
  rw [hdr, List.map_cons] at hl
  have e1 : t = ty6 x := by injection hl with h1 h2; exact h1.symm
  have e1' : (L.drop (i + 1)).map ty6 = l := by injection hl
  have ihf := ih2 (by omega) hk hb' (fun t ht => hlt t (by simp [ht])) ms c0 c1 s c3 L (i + 1) hL hLy (by omega) e1'
  have hltI : ((i : Int) < (L.length : Int)) = True := eq_true (by omega)
  have hw : wr .i64 ((i : Int) + 1) = ((i + 1 : Nat) : Int) := by rw [wr_i64 (by omega) (by omega)]; omega
  have hx2 : (itemsD (slD e6 L))[i]? = some x.1 := by rw [items_slD]; simp [hx, e6]
  have hix := of_ix' hx2 x.2 (k := .i64)
  obtain ⟨nm, ex, f, mm, s', o, e2, lt⟩ := hLy x (List.mem_of_getElem? hx)
  rw [e2] at hix
  have ho1 := lt.one
  have e3 : ty6 x = .agg [.i .i64 f, .i .i64 mm, .s s', o] := by unfold ty6; rw [e2]
  rw [e1, e3, resN_pos hk0] at hc
  have hmin : min mid lo = mid := Nat.min_eq_left l1
  have hwr : wr .i64 (a + k) = a + k := wr_i64 (by omega) (by omega)
  have hgt : ¬ 16384 < a + k := by omega
  have hlen := fun H => slD_len (e := e6) (L := L) H
  rw [← ihf]
  unfold loopR
  rw [f_waferref11_words_l0_eq]
  simp only [f_waferref11_words_B0, keepV_map, keepV_box, keepV_d, exL_seq, exL_ops, runOps_n, evalK_mov, rd_t, Nat.reduceEqDiff, get_ne, get_eq, readV_d, spent_t, opC_ok, put_d, evalK_lenL, hlen, okS_some, evalK_bin, isC_t, Bool.or_self, bin_lss, hltI, decide_true, runOps_nil, thenC_nrm, exL_cond, condC_b, ↓reduceIte, exL_skip, exL_block, evalK_indexAddr, hix, put_cp, evalK_fieldAddr, readV_cp, Nat.reduceAdd, List.length_cons, List.length_nil, Nat.zero_add, Nat.reduceLeDiff, faV_cpA, List.drop_succ_cons, List.drop_zero, List.take_succ_cons, List.take_zero, evalK_load, loadV_cp_agg, readV_map, put_map, evalK_call, List.map_cons, List.map_nil, allLeave_cons, leaves_d, leaves_map, allLeave_nil, Bool.and_self, eCall_f, hc, callC_some, spentAll_cons, spentAll_nil, hmin, put_tup, readV_tup, evalK_extract, extV_0, copy_d, extV_1, evalK_un, un_not, Bool.not_true, Option.map_some, Bool.false_eq_true, bin_add, hwr, isC_c, Bool.or_true, rd_c, bin_gtr, eq_false hgt, decide_false, blockC_nrm, restrict_cons, restrict_nil, hw, f_waferref11_words_l0_in]
theorem wordsBad_R {R : List RecE} {n : Nat} {H0 : List Obj} {rid mid : Nat} (hp : HpR R n H0 rid mid) {m : Memo} {t : D} (h : rtN n t = false) : WR R n H0 rid mid m m (-1) (.ty t) := by
  intro ht hb
  obtain ⟨f, k, s, o, rfl⟩ := ht.form
  have hr := refRight_call ht.ok (H := hpM H0 mid m)
  rw [rtN_agg] at h
  rw [h] at hr
  have ho1 := ht.one
  refine ⟨true, H0.length, by have := hp.lt; omega, fun _ => rfl, ?_⟩
  rw [resN_neg (by omega), callL_fn (fn := f_waferref11_words) rfl rfl]
  simp only [f_waferref11_words, Int.reduceNeg, argEnv_cons, Nat.zero_add, Nat.reduceAdd, argEnv_nil, setAt_length, exL_seq, exL_ops, runOps_n, evalK_box, rd_t, get_eq, readV_d, spent_t, cells_agg, List.map_cons, List.map_nil, ones_cons, vone_d, one_i, one_s, ho1, ones_nil, Bool.and_self, boxN_t, opC_ok, put_box, killLp_cons, killV_d, killV_map, killLp_nil, evalK_mov, rd_c, spent_c, put_d, runOps_nil, thenC_nrm, evalK_load, Nat.reduceEqDiff, get_ne, readV_box, loadV_lp, List.length_cons, List.length_nil, Nat.reduceLeDiff, boxV_A, List.drop_zero, List.take_succ_cons, List.take_zero, copy1_d, mkAgg_eq, allD_d, allD_nil, consD_some, aggV_some, okS_some, evalK_call, allLeave_cons, leaves_d, allLeave_nil, eCall_f, hr, callC_some, spentAll_cons, spentAll_nil, Nat.min_self, evalK_un, un_not, Bool.not_false, Option.map_some, exL_cond, condC_b, ↓reduceIte, exL_ret, thenC_ret, finC_ret, resultVs_cons, resultV_t, ownV_d, resultVs_nil, consO_some, leaveC_2]
  all_goals exact leave_same rfl (by simp [V.ref, V.ref.refs]) (by simp [setAt, hpM]) rfl
theorem wordsOne_R {R : List RecE} {n : Nat} {H0 : List Obj} {rid mid : Nat} (hp : HpR R n H0 rid mid) {m : Memo} {f k : Int} {s : List Nat} {o : D} (h : rtN n (.agg [.i .i64 f, .i .i64 k, .s s, o]) = true) (h7 : f ≠ 7) (h8 : f ≠ 8) : WR R n H0 rid mid m m 1 (.ty (.agg [.i .i64 f, .i .i64 k, .s s, o])) := by
  intro ht hb
  have hr := refRight_call ht.ok (H := hpM H0 mid m)
  rw [rtN_agg] at h
  rw [h] at hr
  have ho1 := ht.one
  refine ⟨true, H0.length, by have := hp.lt; omega, fun _ => rfl, ?_⟩
  rw [resN_pos (by omega), callL_fn (fn := f_waferref11_words) rfl rfl]
  simp only [f_waferref11_words, Int.reduceNeg, f_waferref11_words_R2, argEnv_cons, Nat.zero_add, Nat.reduceAdd, argEnv_nil, setAt_length, exL_seq, exL_ops, runOps_n, evalK_box, rd_t, get_eq, readV_d, spent_t, cells_agg, List.map_cons, List.map_nil, ones_cons, vone_d, one_i, one_s, ho1, ones_nil, Bool.and_self, boxN_t, opC_ok, put_box, killLp_cons, killV_d, killV_map, killLp_nil, evalK_mov, rd_c, spent_c, put_d, runOps_nil, thenC_nrm, evalK_load, Nat.reduceEqDiff, get_ne, readV_box, loadV_lp, List.length_cons, List.length_nil, Nat.reduceLeDiff, boxV_A, List.drop_zero, List.take_succ_cons, List.take_zero, copy1_d, mkAgg_eq, allD_d, allD_nil, consD_some, aggV_some, okS_some, evalK_call, allLeave_cons, leaves_d, allLeave_nil, eCall_f, hr, callC_some, spentAll_cons, spentAll_nil, Nat.min_self, evalK_un, un_not, Bool.not_true, Option.map_some, exL_cond, condC_b, Bool.false_eq_true, ↓reduceIte, exL_skip, evalK_fieldAddr, faV_lp, Nat.add_zero, put_lp, readV_lp, boxV_1, List.getElem?_cons_zero, exL_block, evalK_bin, isC_t, isC_c, Bool.or_true, bin_eql, eq_false h7, decide_false, eq_false h8, blockC_nrm, restrict_nil, exL_ret, finC_ret, resultVs_cons, resultV_t, ownV_d, resultVs_nil, consO_some, leaveC_2]
  all_goals exact leave_same rfl (by simp [V.ref, V.ref.refs]) (by simp [setAt, hpM]) rfl
theorem wordsMemo_R {R : List RecE} {n : Nat} {H0 : List Obj} {rid mid : Nat} (hp : HpR R n H0 rid mid) {m : Memo} {k : Int} {s : List Nat} {o : D} {v : Int} (h : rtN n (.agg [.i .i64 8, .i .i64 k, .s s, o]) = true) (hl : lookM s m = some v) : WR R n H0 rid mid m m v (.ty (.agg [.i .i64 8, .i .i64 k, .s s, o])) := by
  intro ht hb
  have hr := refRight_call ht.ok (H := hpM H0 mid m)
  rw [rtN_agg] at h
  rw [h] at hr
  have ho1 := ht.one
  have hfm := hp.f.m
  have hkf := keyFind_memo s m
  rw [hl] at hkf
  have hmx : (if 0 > v then (0 : Int) else v) = max v 0 := by split <;> omega
  refine ⟨true, H0.length, by have := hp.lt; omega, fun _ => rfl, ?_⟩
  rw [callL_fn (fn := f_waferref11_words) rfl rfl]
  unfold resN
  simp only [f_waferref11_words, Int.reduceNeg, argEnv_cons, Nat.zero_add, Nat.reduceAdd, argEnv_nil, setAt_length, exL_seq, exL_ops, runOps_n, evalK_box, rd_t, get_eq, readV_d, spent_t, cells_agg, List.map_cons, List.map_nil, ones_cons, vone_d, one_i, one_s, ho1, ones_nil, Bool.and_self, boxN_t, opC_ok, put_box, killLp_cons, killV_d, killV_map, killLp_nil, evalK_mov, rd_c, spent_c, put_d, runOps_nil, thenC_nrm, evalK_load, Nat.reduceEqDiff, get_ne, readV_box, loadV_lp, List.length_cons, List.length_nil, Nat.reduceLeDiff, boxV_A, List.drop_zero, List.take_succ_cons, List.take_zero, copy1_d, mkAgg_eq, allD_d, allD_nil, consD_some, aggV_some, okS_some, evalK_call, allLeave_cons, leaves_d, allLeave_nil, eCall_f, hr, callC_some, spentAll_cons, spentAll_nil, Nat.min_self, evalK_un, un_not, Bool.not_true, Option.map_some, exL_cond, condC_b, Bool.false_eq_true, ↓reduceIte, exL_skip, evalK_fieldAddr, faV_lp, Nat.add_zero, put_lp, readV_lp, boxV_1, List.getElem?_cons_zero, exL_block, evalK_bin, isC_t, isC_c, Bool.or_true, bin_eql, Int.reduceEq, decide_false, decide_true, reduceCtorEq, readV_map, put_map, List.getElem?_cons_succ, evalK_lookup, lookV_sE, hfm, lookE_map, hkf, findV_t, copy_d, put_tup, readV_tup, evalK_extract, extV_0, extV_1, evalK_max, maxD_2, hmx, bin_geq, exL_ret, thenC_ret, blockC_ret, finC_ret, resultVs_cons, resultV_t, ownV_d, resultVs_nil, consO_some, leaveC_2]
  all_goals exact leave_same rfl (by simp [V.ref, V.ref.refs]) (by simp [setAt, hpM]) rfl
theorem wordsNoCh_R {R : List RecE} {n : Nat} {H0 : List Obj} {rid mid : Nat} (hp : HpR R n H0 rid mid) {m : Memo} {k : Int} {s : List Nat} {o : D} (h : rtN n (.agg [.i .i64 8, .i .i64 k, .s s, o]) = true) (hl : lookM s m = none) (ho : refFl R R.length s = none) : WR R n H0 rid mid m (setM s (-1) m) (-1) (.ty (.agg [.i .i64 8, .i .i64 k, .s s, o])) := by
  intro ht hb
  have hr := refRight_call ht.ok (H := hpM H0 mid m)
  rw [rtN_agg] at h
  rw [h] at hr
  have ho1 := ht.one
  have hfm := hp.f.m
  have hkf := keyFind_memo s m
  have hks := keySet_memo s (-1) m
  rw [hl] at hkf
  have hfr := hp.f.r (.map (memoE (setM s (-1) m)))
  have hfl := refFields_call hfr hp.fs hp.len (a := s)
  rw [ho] at hfl
  simp only [resF] at hfl
  have hmn : min H0.length mid = mid := Nat.min_eq_right (by have := hp.lt; omega)
  have hmn2 : min mid H0.length = mid := Nat.min_eq_left (by have := hp.lt; omega)
  have hll := fun x y e ms m => leave_loV (mid := mid) hp.lt (ms := ms) (m := m) (x := x) (y := y) (e := e)
  refine ⟨false, mid, Nat.le_refl _, fun h => by have := hp.lt; omega, ?_⟩
  rw [resN_neg (by omega), callL_fn (fn := f_waferref11_words) rfl rfl]
  simp only [f_waferref11_words, Int.reduceNeg, argEnv_cons, Nat.zero_add, Nat.reduceAdd, argEnv_nil, setAt_length, exL_seq, exL_ops, runOps_n, evalK_box, rd_t, get_eq, readV_d, spent_t, cells_agg, List.map_cons, List.map_nil, ones_cons, vone_d, one_i, one_s, ho1, ones_nil, Bool.and_self, boxN_t, opC_ok, put_box, killLp_cons, killV_d, killV_map, killLp_nil, evalK_mov, rd_c, spent_c, put_d, runOps_nil, thenC_nrm, evalK_load, Nat.reduceEqDiff, get_ne, readV_box, loadV_lp, List.length_cons, List.length_nil, Nat.reduceLeDiff, boxV_A, List.drop_zero, List.take_succ_cons, List.take_zero, copy1_d, mkAgg_eq, allD_d, allD_nil, consD_some, aggV_some, okS_some, evalK_call, allLeave_cons, leaves_d, allLeave_nil, eCall_f, hr, callC_some, spentAll_cons, spentAll_nil, Nat.min_self, evalK_un, un_not, Bool.not_true, Option.map_some, exL_cond, condC_b, Bool.false_eq_true, ↓reduceIte, exL_skip, evalK_fieldAddr, faV_lp, Nat.add_zero, put_lp, readV_lp, boxV_1, List.getElem?_cons_zero, exL_block, evalK_bin, isC_t, isC_c, Bool.or_true, bin_eql, Int.reduceEq, decide_false, decide_true, reduceCtorEq, readV_map, put_map, List.getElem?_cons_succ, evalK_lookup, lookV_sE, hfm, lookE_map, hkf, Option.map_none, findV_t0, put_tup, readV_tup, evalK_extract, extV_0, copy_d, extV_1, evalK_mapUpdate, ok_d, updV_sE, updE_map, hks, setO_some, setAt_setAt, hmn, put_none, leaves_map, hfl, hmn2, Bool.not_false, exL_ret, thenC_ret, blockC_ret, finC_ret, resultVs_cons, resultV_t, ownV_d, resultVs_nil, consO_some, leaveC_2, hll]
theorem wordsRec_R {R : List RecE} {n : Nat} {H0 : List Obj} {rid mid : Nat} (hp : HpR R n H0 rid mid) {m m' : Memo} {k : Int} {s : List Nat} {o : D} {L : List D6} {r : Int} (h : rtN n (.agg [.i .i64 8, .i .i64 k, .s s, o]) = true) (hl : lookM s m = none) (ho : refFl R R.length s = some L)
    (ih : ∀ ms c0 c1 c3, loopR H0 rid mid ms c0 c1 s c3 L 0 0 (setM s (-1) m) = resRR H0 mid s m' r) : WR R n H0 rid mid m (if r < 0 then m' else setM s r m') r (.ty (.agg [.i .i64 8, .i .i64 k, .s s, o])) := by
  intro ht hb
  have hr := refRight_call ht.ok (H := hpM H0 mid m)
  rw [rtN_agg] at h
  rw [h] at hr
  have ho1 := ht.one
  have hfm := hp.f.m
  have hkf := keyFind_memo s m
  have hks := keySet_memo s (-1) m
  rw [hl] at hkf
  have hfr := hp.f.r (.map (memoE (setM s (-1) m)))
  have hfl := refFields_call hfr hp.fs hp.len (a := s)
  rw [ho] at hfl
  simp only [resF] at hfl
  have hmn : min H0.length mid = mid := Nat.min_eq_right (by have := hp.lt; omega)
  have hmn2 : min mid H0.length = mid := Nat.min_eq_left (by have := hp.lt; omega)
  refine ⟨false, mid, Nat.le_refl _, fun h => by have := hp.lt; omega, ?_⟩
  have ih' := ih m (.i .i64 8) (.i .i64 k) o
  unfold resRR at ih'
  rw [← ih', callL_fn (fn := f_waferref11_words) rfl rfl]
  unfold loopR
  simp only [f_waferref11_words, Int.reduceNeg, argEnv_cons, Nat.zero_add, Nat.reduceAdd, argEnv_nil, setAt_length, exL_seq, exL_ops, runOps_n, evalK_box, rd_t, get_eq, readV_d, spent_t, cells_agg, List.map_cons, List.map_nil, ones_cons, vone_d, one_i, one_s, ho1, ones_nil, Bool.and_self, boxN_t, opC_ok, put_box, killLp_cons, killV_d, killV_map, killLp_nil, evalK_mov, rd_c, spent_c, put_d, runOps_nil, thenC_nrm, evalK_load, Nat.reduceEqDiff, get_ne, readV_box, loadV_lp, List.length_cons, List.length_nil, Nat.reduceLeDiff, boxV_A, List.drop_zero, List.take_succ_cons, List.take_zero, copy1_d, mkAgg_eq, allD_d, allD_nil, consD_some, aggV_some, okS_some, evalK_call, allLeave_cons, leaves_d, allLeave_nil, eCall_f, hr, callC_some, spentAll_cons, spentAll_nil, Nat.min_self, evalK_un, un_not, Bool.not_true, Option.map_some, exL_cond, condC_b, Bool.false_eq_true, ↓reduceIte, exL_skip, evalK_fieldAddr, faV_lp, Nat.add_zero, put_lp, readV_lp, boxV_1, List.getElem?_cons_zero, exL_block, evalK_bin, isC_t, isC_c, Bool.or_true, bin_eql, Int.reduceEq, decide_false, decide_true, reduceCtorEq, readV_map, put_map, List.getElem?_cons_succ, evalK_lookup, lookV_sE, hfm, lookE_map, hkf, Option.map_none, findV_t0, put_tup, readV_tup, evalK_extract, extV_0, copy_d, extV_1, evalK_mapUpdate, ok_d, updV_sE, updE_map, hks, setO_some, setAt_setAt, hmn, put_none, leaves_map, hfl, hmn2, f_waferref11_words_l0_in, keepV_map, keepV_box, keepV_d, Int.cast_ofNat_Int]
  all_goals rfl
theorem leave_wN {H0 : List Obj} {mid : Nat} {m m' : Memo} {lo : Nat} {e : Env} {x y : D} (hm : mid ≤ lo) (hmid : mid < H0.length) (h : H0.length ≤ lo → m' = m) :
    ∃ sm lo2, mid ≤ lo2 ∧ (H0.length ≤ lo2 → m' = m) ∧ leave (setAt H0 mid (.map (memoE m))) false (.tup [.d x, .d y]) ⟨e, setAt H0 mid (.map (memoE m')), min H0.length lo⟩ = some ⟨false, sm, .tup [.d x, .d y], setAt H0 mid (.map (memoE m')), lo2⟩ :=
  leave_w hm hmid h rfl rfl (fun _ _ => rfl)
theorem wordsArr_R {R : List RecE} {n : Nat} {H0 : List Obj} {rid mid : Nat} (hp : HpR R n H0 rid mid) {m m' : Memo} {k : Int} {s : List Nat} {o y : D} {z r : Int} (h : rtN n (.agg [.i .i64 7, .i .i64 k, .s s, o]) = true) (hy : itemsD o = [y])
    (hz : -1 ≤ z ∧ z ≤ 16384) (ih : WR R n H0 rid mid m m' z (.ty y)) (hr' : r = if z < 0 ∨ Int.tdiv 16384 k < z then -1 else z * k) : WR R n H0 rid mid m m' r (.ty (.agg [.i .i64 7, .i .i64 k, .s s, o])) := by
  intro ht hb
  have hr := refRight_call ht.ok (H := hpM H0 mid m)
  have hk := (rtN_ok n).k k s o h
  rw [rtN_agg] at h
  rw [h] at hr
  have ho1 := ht.one
  obtain ⟨ho, hi⟩ := ht.parts
  have hly := hi y (by rw [hy]; simp)
  obtain ⟨sm, lo, hlo, hm, hc⟩ := ih hly hb
  have hx := of_ix (o := o) (n := 0) (y := y) (by rw [hy]; rfl) hly.ok.cells (k := .i64)
  rw [show ((0 : Nat) : Int) = 0 from rfl] at hx
  obtain ⟨f', m2, s', o', rfl⟩ := hly.form
  have hw := fun e x y => leave_wN (e := e) (x := x) (y := y) hlo hp.lt hm
  rw [callL_fn (fn := f_waferref11_words) rfl rfl]
  by_cases h0 : z < 0
  · have hr1 : r = -1 := by rw [hr', if_pos (.inl h0)]
    subst hr1
    rw [resN_neg h0] at hc
    rw [resN_neg (by omega)]
    simp only [f_waferref11_words, Int.reduceNeg, argEnv_cons, Nat.zero_add, Nat.reduceAdd, argEnv_nil, setAt_length, exL_seq, exL_ops, runOps_n, evalK_box, rd_t, get_eq, readV_d, spent_t, cells_agg, List.map_cons, List.map_nil, ones_cons, vone_d, one_i, one_s, ho1, ones_nil, Bool.and_self, boxN_t, opC_ok, put_box, killLp_cons, killV_d, killV_map, killLp_nil, evalK_mov, rd_c, spent_c, put_d, runOps_nil, thenC_nrm, evalK_load, Nat.reduceEqDiff, get_ne, readV_box, loadV_lp, List.length_cons, List.length_nil, Nat.reduceLeDiff, boxV_A, List.drop_zero, List.take_succ_cons, List.take_zero, copy1_d, mkAgg_eq, allD_d, allD_nil, consD_some, aggV_some, okS_some, evalK_call, allLeave_cons, leaves_d, allLeave_nil, eCall_f, hr, callC_some, spentAll_cons, spentAll_nil, Nat.min_self, evalK_un, un_not, Bool.not_true, Option.map_some, exL_cond, condC_b, Bool.false_eq_true, ↓reduceIte, exL_skip, evalK_fieldAddr, faV_lp, Nat.add_zero, put_lp, readV_lp, boxV_1, List.getElem?_cons_zero, exL_block, evalK_bin, isC_t, isC_c, Bool.or_true, bin_eql, decide_true, List.getElem?_cons_succ, evalK_indexAddr, hx, put_cp, readV_cp, loadV_cp_agg, rd_mv, reduceCtorEq, takeV_map, spent_mv, put_map, leaves_map, hc, put_tup, readV_tup, evalK_extract, extV_0, copy_d, extV_1, Bool.not_false, runOps_g, wantG_bf, wantC_b, evalK_pick, pickV_t, exL_ret, thenC_ret, blockC_ret, finC_ret, resultVs_cons, resultV_t, ownV_d, resultVs_nil, consO_some, leaveC_2]
    exact hw _ _ _
  · rw [resN_pos (by omega)] at hc
    have hzk : z * k ≤ 16384 * 1024 := Int.le_trans (Int.mul_le_mul_of_nonneg_right hz.2 (by omega)) (by omega)
    have hzk0 := Int.mul_nonneg (show (0 : Int) ≤ z by omega) (show (0 : Int) ≤ k by omega)
    have hwm : wr .i64 (z * k) = z * k := wr_i64 (by omega) (by omega)
    by_cases h1 : Int.tdiv 16384 k < z
    · have hr1 : r = -1 := by rw [hr', if_pos (.inr h1)]
      have h2 := arr_gt hk.1 h1
      subst hr1
      rw [resN_neg (by omega)]
      simp only [f_waferref11_words, Int.reduceNeg, argEnv_cons, Nat.zero_add, Nat.reduceAdd, argEnv_nil, setAt_length, exL_seq, exL_ops, runOps_n, evalK_box, rd_t, get_eq, readV_d, spent_t, cells_agg, List.map_cons, List.map_nil, ones_cons, vone_d, one_i, one_s, ho1, ones_nil, Bool.and_self, boxN_t, opC_ok, put_box, killLp_cons, killV_d, killV_map, killLp_nil, evalK_mov, rd_c, spent_c, put_d, runOps_nil, thenC_nrm, evalK_load, Nat.reduceEqDiff, get_ne, readV_box, loadV_lp, List.length_cons, List.length_nil, Nat.reduceLeDiff, boxV_A, List.drop_zero, List.take_succ_cons, List.take_zero, copy1_d, mkAgg_eq, allD_d, allD_nil, consD_some, aggV_some, okS_some, evalK_call, allLeave_cons, leaves_d, allLeave_nil, eCall_f, hr, callC_some, spentAll_cons, spentAll_nil, Nat.min_self, evalK_un, un_not, Bool.not_true, Option.map_some, exL_cond, condC_b, Bool.false_eq_true, ↓reduceIte, exL_skip, evalK_fieldAddr, faV_lp, Nat.add_zero, put_lp, readV_lp, boxV_1, List.getElem?_cons_zero, exL_block, evalK_bin, isC_t, isC_c, Bool.or_true, bin_eql, decide_true, List.getElem?_cons_succ, evalK_indexAddr, hx, put_cp, readV_cp, loadV_cp_agg, rd_mv, reduceCtorEq, takeV_map, spent_mv, put_map, leaves_map, hc, put_tup, readV_tup, evalK_extract, extV_0, copy_d, extV_1, runOps_g, wantG_bf, Bool.not_false, wantC_b, Bool.or_self, bin_mul, hwm, bin_gtr, eq_true h2, evalK_pick, pickV_b, exL_ret, thenC_ret, blockC_ret, finC_ret, resultVs_cons, resultV_t, ownV_d, resultVs_nil, consO_some, leaveC_2]
      exact hw _ _ _
    · have hr1 : r = z * k := by rw [hr', if_neg (by omega)]
      have h5 : ¬ 16384 < z * k := by have := arr_le (n := z) (k := k) hk.1 (by omega) (by omega); omega
      subst hr1
      rw [resN_pos hzk0]
      simp only [f_waferref11_words, Int.reduceNeg, argEnv_cons, Nat.zero_add, Nat.reduceAdd, argEnv_nil, setAt_length, exL_seq, exL_ops, runOps_n, evalK_box, rd_t, get_eq, readV_d, spent_t, cells_agg, List.map_cons, List.map_nil, ones_cons, vone_d, one_i, one_s, ho1, ones_nil, Bool.and_self, boxN_t, opC_ok, put_box, killLp_cons, killV_d, killV_map, killLp_nil, evalK_mov, rd_c, spent_c, put_d, runOps_nil, thenC_nrm, evalK_load, Nat.reduceEqDiff, get_ne, readV_box, loadV_lp, List.length_cons, List.length_nil, Nat.reduceLeDiff, boxV_A, List.drop_zero, List.take_succ_cons, List.take_zero, copy1_d, mkAgg_eq, allD_d, allD_nil, consD_some, aggV_some, okS_some, evalK_call, allLeave_cons, leaves_d, allLeave_nil, eCall_f, hr, callC_some, spentAll_cons, spentAll_nil, Nat.min_self, evalK_un, un_not, Bool.not_true, Option.map_some, exL_cond, condC_b, Bool.false_eq_true, ↓reduceIte, exL_skip, evalK_fieldAddr, faV_lp, Nat.add_zero, put_lp, readV_lp, boxV_1, List.getElem?_cons_zero, exL_block, evalK_bin, isC_t, isC_c, Bool.or_true, bin_eql, decide_true, List.getElem?_cons_succ, evalK_indexAddr, hx, put_cp, readV_cp, loadV_cp_agg, rd_mv, reduceCtorEq, takeV_map, spent_mv, put_map, leaves_map, hc, put_tup, readV_tup, evalK_extract, extV_0, copy_d, extV_1, runOps_g, wantG_bf, Bool.not_false, wantC_b, Bool.or_self, bin_mul, hwm, bin_gtr, eq_false h5, decide_false, evalK_pick, pickV_b, exL_ret, blockC_ret, thenC_ret, finC_ret, resultVs_cons, resultV_t, ownV_d, resultVs_nil, consO_some, leaveC_2]
      exact hw _ _ _
theorem words_R {R : List RecE} {n : Nat} {H0 : List Obj} {rid mid : Nat} (hp : HpR R n H0 rid mid) {m m' : Memo} {T : Tsk} {r : Int} (h : Ev (rtN n) (ordR R) m T m' r) : BdM m → BdT T → WR R n H0 rid mid m m' r T := by
  induction h with
  | bad h => exact fun _ _ => wordsBad_R hp h
  | @arrNo m m' k s o y z hr hy h hn ih => exact fun hb _ => wordsArr_R hp hr hy (h.bd (rtN_ok n) hb trivial).2 (ih hb trivial) (by rw [if_pos hn])
  | @arr m m' k s o y z hr hy h h0 hn ih => exact fun hb _ => wordsArr_R hp hr hy (h.bd (rtN_ok n) hb trivial).2 (ih hb trivial) (by rw [if_neg (by omega)])
  | one hr h7 h8 => exact fun _ _ => wordsOne_R hp hr h7 h8
  | @memo m k s o v hr hl => exact fun _ _ => wordsMemo_R hp hr hl
  | @noCh m k s o hr hl ho =>
    intro _ _
    refine wordsNoCh_R hp hr hl ?_
    unfold ordR at ho
    cases hq : refFl R R.length s with
    | none => rfl
    | some l => rw [hq] at ho; cases ho
  | @recNo m m' k s o l r hr hl ho h hn ih =>
    intro hb _
    obtain ⟨L, hq, e⟩ : ∃ L, refFl R R.length s = some L ∧ L.map ty6 = l := by
      unfold ordR at ho
      cases hq : refFl R R.length s with
      | none => rw [hq] at ho; cases ho
      | some l' => rw [hq] at ho; cases ho; exact ⟨l', rfl, rfl⟩
    obtain ⟨c1, c2⟩ := refFl_len hp.fs _ _ _ hq
    have hb' := hb.set s (v := -1) (by omega) (by omega)
    have hW := fun ms c0 c1' c3 => (ih hb' ⟨by omega, by omega⟩ (by omega) (by omega) hb' (fun t ht => (ordR_lt hp.fs s l ho).2 t ht) ms c0 c1' s c3 L 0 (by have := hp.len; omega) c2 (by omega) (by simpa using e))
    have := wordsRec_R hp hr hl hq hW
    rw [if_pos hn] at this
    intro ht hb
    have := this ht hb
    rwa [resN_neg hn, ← resN_neg (show (-1 : Int) < 0 by omega)] at this
  | @recOk m m' k s o l r hr hl ho h hn ih =>
    intro hb _
    obtain ⟨L, hq, e⟩ : ∃ L, refFl R R.length s = some L ∧ L.map ty6 = l := by
      unfold ordR at ho
      cases hq : refFl R R.length s with
      | none => rw [hq] at ho; cases ho
      | some l' => rw [hq] at ho; cases ho; exact ⟨l', rfl, rfl⟩
    obtain ⟨c1, c2⟩ := refFl_len hp.fs _ _ _ hq
    have hb' := hb.set s (v := -1) (by omega) (by omega)
    have hW := fun ms c0 c1' c3 => (ih hb' ⟨by omega, by omega⟩ (by omega) (by omega) hb' (fun t ht => (ordR_lt hp.fs s l ho).2 t ht) ms c0 c1' s c3 L 0 (by have := hp.len; omega) c2 (by omega) (by simpa using e))
    have := wordsRec_R hp hr hl hq hW
    rwa [if_neg (by omega)] at this
  | sumNil => exact fun _ _ => sumNil_R hp
  | @sumNo m m' a k t l h hk ih => exact fun hb _ => sumNo_R hp hk (h.bd (rtN_ok n) hb trivial).2 (ih hb trivial)
  | @sumCons m m' m'' a k r t l h h0 hk h2 ih1 ih2 =>
    intro hb ht
    have hb' := (h.bd (rtN_ok n) hb trivial).1
    exact sumCons_R hp h0 hk hb' (ih1 hb trivial) (ih2 hb' ⟨by have := ht.1; omega, hk⟩)
theorem refWords_call {H : List Obj} {R : List RecE} {id n : Nat} (hid : H[id]? = some (.map (esR R))) (hfs : ∀ r ∈ R, FsOk n r.fs) (hR : R.length ≤ 1000) {t : D} (ht : Lt n t) {m' : Memo} {r : Int} (hev : Ev (rtN n) (ordR R) [] (.ty t) m' r) :
    ∃ lo, H.length ≤ lo ∧ callL pg 18 [.d t, .map id] H = some ⟨false, true, resN r, H, lo⟩ := by
  have hidl : id < H.length := (List.getElem?_eq_some_iff.1 hid).1
  have hp : HpR R n (H ++ [.map []]) id H.length := ⟨push_old hid, ⟨.map [], by simp⟩, by omega, hfs, hR⟩
  obtain ⟨sm, lo, hlo, _, hc⟩ := words_R hp hev (fun s v h => by cases h) trivial ht (fun s v h => by cases h)
  rw [show hpM (H ++ [.map []]) H.length [] = H ++ [.map []] from setAt_self (by simp [memoE])] at hc
  obtain ⟨f, k, s, o, rfl⟩ := ht.form
  have ho1 := ht.one
  have hmn : min H.length lo = H.length := Nat.min_eq_left hlo
  have hll : ∀ (e : Env) (H' : List Obj), leave H false (.tup [.d (.i .i64 (max r 0)), .d (.b (decide (0 ≤ r)))]) ⟨e, H', H.length⟩ = some ⟨false, true, .tup [.d (.i .i64 (max r 0)), .d (.b (decide (0 ≤ r)))], H, H.length⟩ := fun e H' => leave_pure rfl rfl rfl
  refine ⟨H.length, Nat.le_refl _, ?_⟩
  unfold resN at hc ⊢
  rw [callL_fn (fn := f_waferref11_Words) rfl rfl]
  simp only [f_waferref11_Words, argEnv_cons, Nat.zero_add, Nat.reduceAdd, argEnv_nil, exL_seq, exL_ops, runOps_n, evalK_box, rd_t, get_eq, readV_d, spent_t, cells_agg, List.map_cons, List.map_nil, ones_cons, vone_d, one_i, one_s, ho1, ones_nil, Bool.and_self, boxN_t, opC_ok, put_box, killLp_cons, killV_d, killV_map, killLp_nil, evalK_mov, rd_c, spent_c, put_d, runOps_nil, thenC_nrm, evalK_load, Nat.reduceEqDiff, get_ne, readV_box, loadV_lp, List.length_cons, List.length_nil, Nat.reduceLeDiff, boxV_A, List.drop_zero, List.take_succ_cons, List.take_zero, copy1_d, mkAgg_eq, allD_d, allD_nil, consD_some, aggV_some, okS_some, rd_mv, reduceCtorEq, takeV_map, spent_mv, put_map, evalK_mkMap, evalK_call, readV_map, allLeave_cons, leaves_d, leaves_map, allLeave_nil, eCall_f, hc, callC_some, spentAll_cons, spentAll_nil, hmn, put_tup, evalK_extract, extV_0, copy_d, extV_1, exL_ret, finC_ret, resultVs_cons, resultV_t, ownV_d, resultVs_nil, consO_some, leaveC_2, hll]
end W

set_option linter.unusedSimpArgs false
set_option linter.unusedVariables false
namespace W
open Go (IntKind BinOp UnOp)
set_option maxRecDepth 20000
theorem RiLt.le {n m : Nat} (h : n ≤ m) {x : D} (hx : RiLt n x) : RiLt m x := by
  obtain ⟨b, fs, f, m', s, o, rfl, h1, h2, h3, h4, h5, h6⟩ := hx
  exact ⟨b, fs, f, m', s, o, rfl, h1, h2, h3, h4, h5, h6.le h⟩
theorem rec_loop0 {H : List Obj} {x : D} {n : Nat} (hx : x = .nil ∨ ∃ q, x = .sl q) (hl : ∀ y ∈ itemsD x, RiOk n y) (hlim : ((itemsD x).length : Int) ≤ 9223372036854775807) {t0 t1 t2 t3 : D} {a b c : D} :
    ∀ (j i : Nat), (itemsD x).length - i = j → i ≤ (itemsD x).length → ∃ e,
    (blockC 0 [0, 1, 2, 3, 9] (f_waferlaw12_TypesRecords_l0 pg (.d x) (.d a) (.d b) (.d c) (.box [.d t0, .d t1, .d t2, .d t3]) (.d (.i .i64 (i : Nat))) H H.length)
      = some (.nrm, ⟨[(0, .d x), (1, .d a), (2, .d b), (3, .d c), (9, .box [.d t0, .d t1, .d t2, .d t3])], H, H.length⟩) ∧ ∀ y ∈ (itemsD x).drop i, RiLt n y) ∨
    blockC 0 [0, 1, 2, 3, 9] (f_waferlaw12_TypesRecords_l0 pg (.d x) (.d a) (.d b) (.d c) (.box [.d t0, .d t1, .d t2, .d t3]) (.d (.i .i64 (i : Nat))) H H.length)
      = some (.ret, ⟨(10, .d (.b true)) :: e, H, H.length⟩)
  | 0, i, hj, hi => by
    have h1 := (ofOk hx).len
    have hlt : ((i : Int) < ((itemsD x).length : Int)) = False := by rw [eq_iff_iff]; simp; omega
    refine ⟨[], .inl ⟨?_, fun y hy => by rw [List.drop_eq_nil_of_le (by omega)] at hy; cases hy⟩⟩
    rw [f_waferlaw12_TypesRecords_l0_eq]
    simp only [f_waferlaw12_TypesRecords_B0, keepV_d, keepV_box, exL_seq, exL_ops, runOps_n, evalK_mov, rd_t, reduceCtorEq, get_ne, Nat.reduceEqDiff, get_eq, readV_d, spent_t, opC_ok, put_d, evalK_lenL, h1, okS_some, evalK_bin, isC_t, Bool.or_self, bin_lss, hlt, decide_false, runOps_nil, thenC_nrm, exL_cond, condC_b, Bool.false_eq_true, ↓reduceIte, exL_exit, thenC_exit, blockC_exit, restrict_cons, restrict_nil]
  | j + 1, i, hj, hi => by
    have h1 := (ofOk hx).len
    have hlt : ((i : Int) < ((itemsD x).length : Int)) = True := by rw [eq_iff_iff]; simp; omega
    obtain ⟨r, hr⟩ : ∃ c, (itemsD x)[i]? = some c := ⟨(itemsD x)[i]'(by omega), by simp⟩
    have hro := hl _ (List.mem_of_getElem? hr)
    have hix := of_ix' hr hro.cells (k := .i64)
    have hrd := drop_cons hr
    obtain ⟨b', fs, f, m, s, o, rfl, hb0, hb1, hfs, hfl, hfi, ht⟩ := hro
    have h3 := (ofOk hfs).one
    have hoo : o.one = true := by
      obtain ⟨nn, hnn⟩ : ∃ n, TyOk (n + 1) (.agg [.i .i64 f, .i .i64 m, .s s, o]) := ⟨n, ht.up⟩
      obtain ⟨_, _, _, _, he, hq, _⟩ := hnn
      cases he
      exact (ofOk hq).one
    have hw : wr .i64 ((i : Int) + 1) = ((i + 1 : Nat) : Int) := by rw [wr_i64 (by omega) (by omega)]; omega
    obtain ⟨z, hz, hzl⟩ := light_call2 ht (k := 20) (by omega) (by omega) (H := H)
    cases z
    · refine ⟨?_, .inr ?_⟩
      rotate_left
      · rw [f_waferlaw12_TypesRecords_l0_eq]
        simp only [f_waferlaw12_TypesRecords_B0, keepV_d, keepV_box, exL_seq, exL_ops, runOps_n, evalK_mov, rd_t, reduceCtorEq, get_ne, Nat.reduceEqDiff, get_eq, readV_d, spent_t, opC_ok, put_d, evalK_lenL, h1, okS_some, evalK_bin, isC_t, Bool.or_self, bin_lss, hlt, decide_true, runOps_nil, thenC_nrm, exL_cond, condC_b, ↓reduceIte, exL_skip, exL_block, evalK_indexAddr, hix, put_cp, evalK_fieldAddr, readV_cp, Nat.reduceAdd, List.length_cons, List.length_nil, Nat.zero_add, Nat.reduceLeDiff, faV_cpA, List.drop_succ_cons, List.drop_zero, List.take_succ_cons, List.take_zero, evalK_load, loadV_cp_agg, evalK_call, List.map_cons, rd_c, List.map_nil, allLeave_cons, leaves_d, allLeave_nil, Bool.and_self, eCall_f, hz, callC_some, spentAll_cons, spent_c, spentAll_nil, Nat.min_self, evalK_un, un_not, Bool.not_false, Option.map_some, exL_ret, blockC_ret, thenC_ret]
        rfl
    · obtain ⟨e, ih⟩ := rec_loop0 (H := H) (a := a) (b := b) (c := c) hx hl hlim (t0 := t0) (t1 := t1) (t2 := t2) (t3 := t3) j (i + 1) (by omega) (by omega)
      refine ⟨e, ?_⟩
      rw [f_waferlaw12_TypesRecords_l0_eq]
      simp only [f_waferlaw12_TypesRecords_B0, keepV_d, keepV_box, exL_seq, exL_ops, runOps_n, evalK_mov, rd_t, reduceCtorEq, get_ne, Nat.reduceEqDiff, get_eq, readV_d, spent_t, opC_ok, put_d, evalK_lenL, h1, okS_some, evalK_bin, isC_t, Bool.or_self, bin_lss, hlt, decide_true, runOps_nil, thenC_nrm, exL_cond, condC_b, ↓reduceIte, exL_skip, exL_block, evalK_indexAddr, hix, put_cp, evalK_fieldAddr, readV_cp, Nat.reduceAdd, List.length_cons, List.length_nil, Nat.zero_add, Nat.reduceLeDiff, faV_cpA, List.drop_succ_cons, List.drop_zero, List.take_succ_cons, List.take_zero, evalK_load, loadV_cp_agg, evalK_call, List.map_cons, rd_c, List.map_nil, allLeave_cons, leaves_d, allLeave_nil, Bool.and_self, eCall_f, hz, callC_some, spentAll_cons, spent_c, spentAll_nil, Nat.min_self, evalK_un, un_not, Bool.not_true, Option.map_some, Bool.false_eq_true, blockC_nrm, restrict_cons, restrict_nil, isC_c, Bool.or_true, bin_add, hw, f_waferlaw12_TypesRecords_l0_in]
      rcases ih with ⟨ih1, ih2⟩ | ih
      · refine .inl ⟨ih1, fun y hy => ?_⟩
        rw [hrd] at hy
        simp only [List.mem_cons] at hy
        rcases hy with rfl | hy
        · exact ⟨b', fs, f, m, s, o, rfl, hb0, hb1, hfs, hfl, hfi, hzl rfl⟩
        · exact ih2 y hy
      · exact .inr ih
theorem rec_loop1 {R : List RecE} {n : Nat} (hfs : ∀ r ∈ R, FsOk n r.fs) (hR : R.length ≤ 1000) {all : List D} (hall : ∀ y ∈ all, Lt n y) (hlim : all.length ≤ 100) :
    ∀ (j i : Nat), all.length - i = j → i ≤ all.length →
    blockC 2 [] (f_waferlaw12_TypesRecords_l1 pg (.map 0) (.osl all) (.d (.i .i64 (all.length : Nat))) (.d (.i .i64 (i : Nat))) [.map (esR R)] 0)
      = some (.nrm, ⟨[], [.map (esR R)], 0⟩)
  | 0, i, hj, hi => by
    have hlt : ((i : Int) < (all.length : Int)) = False := by rw [eq_iff_iff]; simp; omega
    rw [f_waferlaw12_TypesRecords_l1_eq]
    simp only [f_waferlaw12_TypesRecords_B1, keepV_map, keepV_osl, keepV_d, exL_seq, exL_ops, runOps_n, evalK_bin, isC_t, Bool.or_self, rd_t, Nat.reduceEqDiff, get_ne, get_eq, readV_d, bin_lss, hlt, decide_false, okS_some, opC_ok, put_d, runOps_nil, thenC_nrm, exL_cond, condC_b, Bool.false_eq_true, ↓reduceIte, exL_exit, thenC_exit, blockC_exit, restrict_nil]
  | j + 1, i, hj, hi => by
    have hlt : ((i : Int) < (all.length : Int)) = True := by rw [eq_iff_iff]; simp; omega
    obtain ⟨y, hy⟩ : ∃ c, all[i]? = some c := ⟨all[i]'(by omega), by simp⟩
    have hyl := hall _ (List.mem_of_getElem? hy)
    have hix := of_ix (o := .sl all) hy hyl.ok.cells (k := .i64)
    have hw : wr .i64 ((i : Int) + 1) = ((i + 1 : Nat) : Int) := by rw [wr_i64 (by omega) (by omega)]; omega
    obtain ⟨m1, r1, ev1, _⟩ := Ev.total (rtN_ok n) (K := R.map (·.k)) (fun s l h => ordT_lt hfs s l h) _ [] (Nat.le_refl _) n y hyl
    obtain ⟨m2, r2, ev2, _⟩ := Ev.total (rtN_ok n) (K := R.map (·.k)) (fun s l h => ordR_lt hfs s l h) _ [] (Nat.le_refl _) n y hyl
    have hag := Ev.agree (rtN_ok n) rtN_64 (ord_eq R) ev1 ev2
    obtain ⟨lo1, _, c1⟩ := Words_call (H := [.map (esR R)]) (id := 0) rfl hfs hR hyl ev1
    obtain ⟨lo2, _, c2⟩ := refWords_call (H := [.map (esR R)]) (id := 0) rfl hfs hR hyl ev2
    obtain ⟨f, m, s, o, rfl⟩ := hyl.form
    have ho1 := hyl.one
    have ih := rec_loop1 hfs hR hall hlim j (i + 1) (by omega) (by omega)
    have hz0 : ∀ n : Nat, min 0 n = 0 := Nat.zero_min
    rw [f_waferlaw12_TypesRecords_l1_eq]
    by_cases h0 : 0 ≤ r1
    · have e := hag (.inl h0)
      subst e
      rw [resN_pos h0] at c2
      rw [show max r1 0 = r1 by omega, decide_eq_true h0] at c1
      simp only [f_waferlaw12_TypesRecords_B1, keepV_map, keepV_osl, keepV_d, exL_seq, exL_ops, runOps_n, evalK_bin, isC_t, Bool.or_self, rd_t, Nat.reduceEqDiff, get_ne, get_eq, readV_d, bin_lss, hlt, decide_true, okS_some, opC_ok, put_d, runOps_nil, thenC_nrm, exL_cond, condC_b, ↓reduceIte, exL_skip, exL_block, evalK_indexAddr, readV_osl, hix, put_cp, evalK_load, readV_cp, List.length_cons, List.length_nil, Nat.zero_add, Nat.reduceAdd, loadV_cp_agg, evalK_allocL, List.map_cons, List.map_nil, put_box, killLp_cons, killV_d, killV_cp, killV_map, killV_osl, killLp_nil, evalK_store, readV_box, spent_t, storeV_lp, cells_agg, ones_cons, vone_d, one_i, one_s, ho1, ones_nil, Bool.and_self, storeB_box, setCells_all, storeR_some, put_none, loadV_lp, Nat.reduceLeDiff, boxV_A, List.drop_zero, List.take_succ_cons, List.take_zero, copy1_d, mkAgg_eq, allD_d, allD_nil, consD_some, aggV_some, evalK_mov, readV_map, put_map, evalK_call, allLeave_cons, leaves_d, leaves_map, allLeave_nil, eCall_f, c1, callC_some, spentAll_cons, spentAll_nil, hz0, put_tup, readV_tup, evalK_extract, extV_0, copy_d, extV_1, c2, bin_neq, Bool.not_true, runOps_g, wantG_bt, wantC_b, Bool.false_eq_true, evalK_pick, rd_c, pickV_f, wantG_bf, Bool.not_false, bin_bneq, beq_self_eq_true, pickV_b, evalK_un, un_not, Option.map_some, blockC_nrm, restrict_cons, restrict_nil, isC_c, Bool.or_true, bin_add, hw, f_waferlaw12_TypesRecords_l1_in]
      exact ih
    · have h02 : r2 < 0 := by
        by_cases h : 0 ≤ r2
        · have := hag (.inr h); omega
        · omega
      rw [resN_neg h02] at c2
      rw [show max r1 0 = 0 by omega, decide_eq_false h0] at c1
      simp only [f_waferlaw12_TypesRecords_B1, keepV_map, keepV_osl, keepV_d, exL_seq, exL_ops, runOps_n, evalK_bin, isC_t, Bool.or_self, rd_t, Nat.reduceEqDiff, get_ne, get_eq, readV_d, bin_lss, hlt, decide_true, okS_some, opC_ok, put_d, runOps_nil, thenC_nrm, exL_cond, condC_b, ↓reduceIte, exL_skip, exL_block, evalK_indexAddr, readV_osl, hix, put_cp, evalK_load, readV_cp, List.length_cons, List.length_nil, Nat.zero_add, Nat.reduceAdd, loadV_cp_agg, evalK_allocL, List.map_cons, List.map_nil, put_box, killLp_cons, killV_d, killV_cp, killV_map, killV_osl, killLp_nil, evalK_store, readV_box, spent_t, storeV_lp, cells_agg, ones_cons, vone_d, one_i, one_s, ho1, ones_nil, Bool.and_self, storeB_box, setCells_all, storeR_some, put_none, loadV_lp, Nat.reduceLeDiff, boxV_A, List.drop_zero, List.take_succ_cons, List.take_zero, copy1_d, mkAgg_eq, allD_d, allD_nil, consD_some, aggV_some, evalK_mov, readV_map, put_map, evalK_call, allLeave_cons, leaves_d, leaves_map, allLeave_nil, eCall_f, c1, callC_some, spentAll_cons, spentAll_nil, hz0, put_tup, readV_tup, evalK_extract, extV_0, copy_d, extV_1, c2, bin_neq, Bool.not_true, runOps_g, wantG_bt, wantC_b, Bool.false_eq_true, evalK_pick, rd_c, pickV_f, wantG_bf, Bool.not_false, bin_bneq, beq_self_eq_true, pickV_b, evalK_un, un_not, Option.map_some, isC_c, Bool.or_true, blockC_nrm, restrict_cons, restrict_nil, bin_add, hw, f_waferlaw12_TypesRecords_l1_in]
      exact ih
theorem FsOk.le {n m : Nat} (h : n ≤ m) {x : D} (hx : FsOk n x) : FsOk m x := by
  obtain ⟨L, h1, h2, h3⟩ := hx
  exact ⟨L, h1, h2, fun y hy => by
    obtain ⟨nm, ex, f, m', s, o, e, hl⟩ := h3 y hy
    exact ⟨nm, ex, f, m', s, o, e, hl.le h⟩⟩
theorem rec_law {l : D} {n : Nat} (hlo : l = .nil ∨ ∃ q, l = .sl q) (hl : ∀ y ∈ itemsD l, RiOk n y) (hlim : ((itemsD l).length : Int) ≤ 9223372036854775807) {a b k : Int} (ha : 0 ≤ a ∧ a < 256) (hb : 0 ≤ b ∧ b < 256) (hk : 0 ≤ k ∧ k < 256) {t : D} (ht : TyOk n t) :
    callL pg 3 [.d l, .d (.i .u8 a), .d (.i .u8 b), .d (.i .u8 k), .d t] [] = some ⟨false, true, .d (.b true), [], 0⟩ := by
  obtain ⟨lo, hkn⟩ := known_call
  have hz0 : ∀ n : Nat, min 0 n = 0 := Nat.zero_min
  obtain ⟨z1, g1, g1l⟩ := light_call2 ht (k := 20) (by omega) (by omega) (H := [])
  obtain ⟨na, hta⟩ : ∃ n, TyOk (n + 1) t := ⟨n, ht.up⟩
  obtain ⟨f, m, s, o, rfl, ho, _, _⟩ := hta
  have ho1 := (ofOk ho).one
  rw [callL_fn (fn := f_waferlaw12_TypesRecords) rfl rfl]
  cases z1
  · simp only [f_waferlaw12_TypesRecords, argEnv_cons, Nat.zero_add, Nat.reduceAdd, argEnv_nil, List.length_nil, exL_seq, exL_ops, runOps_n, evalK_box, rd_t, reduceCtorEq, get_ne, Nat.reduceEqDiff, get_eq, readV_d, spent_t, cells_agg, List.map_cons, List.map_nil, ones_cons, vone_d, one_i, one_s, ho1, ones_nil, Bool.and_self, boxN_t, opC_ok, put_box, killLp_cons, killV_d, killLp_nil, evalK_mov, rd_c, spent_c, put_d, runOps_nil, thenC_nrm, evalK_call, allLeave_nil, eCall_f, hkn, callC_some, spentAll_nil, hz0, evalK_un, un_not, Bool.not_true, Option.map_some, okS_some, exL_cond, condC_b, Bool.false_eq_true, ↓reduceIte, exL_skip, evalK_load, readV_box, loadV_lp, List.length_cons, Nat.reduceLeDiff, boxV_A, List.drop_zero, List.take_succ_cons, List.take_zero, copy1_d, mkAgg_eq, allD_d, allD_nil, consD_some, aggV_some, allLeave_cons, leaves_d, g1, spentAll_cons, Bool.not_false, exL_ret, thenC_ret, finC_ret, resultVs_cons, resultV_t, ownV_d, resultVs_nil, consO_some, leaveC_1]
    all_goals rfl
  · have htl := g1l rfl
    obtain ⟨e, hl0⟩ := rec_loop0 (H := []) (a := .i .u8 a) (b := .i .u8 b) (c := .i .u8 k) hlo hl hlim (t0 := .i .i64 f) (t1 := .i .i64 m) (t2 := .s s) (t3 := o) _ 0 rfl (by omega)
    rw [show ((0 : Nat) : Int) = 0 from rfl, show ([] : List Obj).length = 0 from rfl] at hl0
    rcases hl0 with ⟨hl0, hll⟩ | hl0
    · obtain ⟨R, hR, hfs0, hm⟩ := madeL_call (H := []) (fun y hy => hll y (by simpa using hy)) hlo
      have hm : callL pg 9 [.d l] [] = some ⟨false, false, .map 0, [.map (esR R)], 0⟩ := hm
      have e1 := Int.tmod_eq_emod_of_nonneg (b := 8) ha.1
      have e2 := Int.tmod_eq_emod_of_nonneg (b := 8) hb.1
      have hc1 : wr .u8 (48 + a.tmod 8) = 48 + a.tmod 8 := wr_u8 (by omega) (by omega)
      have hc2 : wr .u8 (48 + b.tmod 8) = 48 + b.tmod 8 := wr_u8 (by omega) (by omega)
      have htx1 := fun H => text1 (c := 48 + a.tmod 8) (by omega) (by omega) (H := H)
      have htx2 := fun H => text1 (c := 48 + b.tmod 8) (by omega) (by omega) (H := H)
      have hs1 : ∀ c, binV .add .num c (.d (.s [77, 46, 82])) (.d (.s [(48 + a.tmod 8).toNat])) = some (.d (.s [77, 46, 82, (48 + a.tmod 8).toNat])) := fun c => sadd (by simp)
      have hs2 : ∀ c, binV .add .num c (.d (.s [77, 46, 82])) (.d (.s [(48 + b.tmod 8).toNat])) = some (.d (.s [77, 46, 82, (48 + b.tmod 8).toNat])) := fun c => sadd (by simp)
      generalize hxn : [77, 46, 82, (48 + a.tmod 8).toNat] = xn at hs1
      generalize hyn : [77, 46, 82, (48 + b.tmod 8).toNat] = yn at hs2
      have hxne : xn ≠ [] := by rw [← hxn]; simp
      obtain ⟨x, fc, fx⟩ := fields_call (H := [.map (esR R)]) (id := 0) rfl hfs0 (by omega) hxne
      have fr := refFields_call (H := [.map (esR R)]) (id := 0) rfl hfs0 (by omega) (a := xn)
      have hone := fun r hr => (hfs0 r hr).one
      have x1 := ext_call (H := [.map (esR R)]) (id := 0) rfl hone (a := xn) (b := yn)
      have x2 := refext_call (H := [.map (esR R)]) (id := 0) rfl hone (by omega) (a := xn) (b := yn)
      obtain ⟨y1, c1, k1⟩ := typeOf_call2 hk.1 hk.2 htl (H := [.map (esR R)])
      have hck : wr .i64 k = k := wr_i64 (by omega) (by omega)
      have a1 := arr_call (n := k) (f := 8) (m := 0) (s := yn) (o := .nil) (.inl rfl) (H := [.map (esR R)])
      have hfin : ∀ all : List D, all = [.agg [.i .i64 f, .i .i64 m, .s s, o], y1, .agg [.i .i64 8, .i .i64 0, .s xn, .nil], .agg [.i .i64 7, .i .i64 k, .s [], .sl [.agg [.i .i64 8, .i .i64 0, .s yn, .nil]]]] →
          blockC 2 [] (f_waferlaw12_TypesRecords_l1 pg (.map 0) (.osl all) (.d (.i .i64 4)) (.d (.i .i64 0)) [.map (esR R)] 0) = some (.nrm, ⟨[], [.map (esR R)], 0⟩) := by
        intro all he
        have h4 : all.length = 4 := by rw [he]; rfl
        have := rec_loop1 (n := n + 2) hfs0 (by omega) (all := all) (fun y hy => by
          rw [he] at hy
          simp at hy
          rcases hy with rfl | rfl | rfl | rfl
          · exact htl.le (by omega)
          · exact k1
          · exact nD_lt _ _ _
          · exact aD_lt (nD_lt _ _ _)) (by omega) _ 0 rfl (by omega)
        rw [h4] at this
        exact this
      have hfin' := hfin _ rfl
      obtain ⟨f1, m1, s1, o1, rfl⟩ := k1.form
      have q1 := k1.one
      have hbb : ∀ z : Bool, (z == z) = true := fun z => by simp
      cases hq : refFl R R.length xn with
      | none =>
        rw [hq] at fx fr
        simp only at fx
        subst fx
        simp only [resF] at fc fr
        have v0 := vars_call (H := [.map (esR R)]) (L := []) (M := []) (n := n + 2) (fun y hy => by cases hy) (fun y hy => by cases hy) (by simp) (by simpa using P2.nil)
        simp only [slD] at v0
        simp only [f_waferlaw12_TypesRecords, f_waferlaw12_TypesRecords_R3, f_waferlaw12_TypesRecords_R2, argEnv_cons, Nat.zero_add, Nat.reduceAdd, argEnv_nil, List.length_nil, exL_seq, exL_ops, runOps_n, evalK_box, rd_t, reduceCtorEq, get_ne, Nat.reduceEqDiff, get_eq, readV_d, spent_t, cells_agg, List.map_cons, List.map_nil, ones_cons, vone_d, one_i, one_s, ho1, ones_nil, Bool.and_self, boxN_t, opC_ok, put_box, killLp_cons, killV_d, killLp_nil, evalK_mov, rd_c, spent_c, put_d, runOps_nil, thenC_nrm, evalK_call, allLeave_nil, eCall_f, hkn, callC_some, spentAll_nil, hz0, evalK_un, un_not, Bool.not_true, Option.map_some, okS_some, exL_cond, condC_b, Bool.false_eq_true, ↓reduceIte, exL_skip, evalK_load, readV_box, loadV_lp, List.length_cons, Nat.reduceLeDiff, boxV_A, List.drop_zero, List.take_succ_cons, List.take_zero, copy1_d, mkAgg_eq, allD_d, allD_nil, consD_some, aggV_some, allLeave_cons, leaves_d, g1, spentAll_cons, exL_block, f_waferlaw12_TypesRecords_l0_in, keepV_d, keepV_box, hl0, rd_mv, takeV_d, spent_mv, hm, put_map, takeV_map, exL_opsD, runOpsD_n, opDC_same, putD_d, putC_some, evalK_bin, isC_t, isC_c, Bool.or_true, Int.reduceEq, bin_rem, Bool.or_false, bin_add, hc1, evalK_buildSlice, dcells_i, List.reduceReplicate, Nat.reduceLT, fillD_cons, List.set_cons_zero, fillD_nil, wfs_cons, wf_one, wfs_nil, slO_some, putD_osl, evalK_text, readV_osl, htx1, hs1, hc2, htx2, hs2, opDC_serial, runOpsD_nil, readV_map, leaves_map, fc, put_tup, readV_tup, evalK_extract, extV_0, copy_d, extV_1, fr, Bool.or_self, bin_bneq, hbb, runOps_g, wantG_bf, Bool.not_false, wantC_b, v0, evalK_pick, pickV_b, x1, x2, c1, evalK_build, cells_d1, fillC_1, List.set_cons_succ, fillC_nil, aggO_some, evalK_conv, hck, a1, dcells_agg, wf_agg, dones_cons, dones_nil, q1, one_nil, one_sl, evalK_lenL, lenL_sl, Int.cast_ofNat_Int, f_waferlaw12_TypesRecords_l1_in, keepV_map, keepV_osl, hfin', exL_ret, finC_ret, resultVs_cons, resultV_t, ownV_d, resultVs_nil, consO_some, leaveC_1]
        all_goals rfl
      | some M =>
        rw [hq] at fx fr
        simp only at fx
        obtain ⟨L, rfl, hP, hF, hL⟩ := fx
        simp only [resF] at fc fr
        obtain ⟨r1, r2⟩ := refFl_len hfs0 _ _ _ hq
        have v0 := vars_call (H := [.map (esR R)]) (L := L) (M := M) (n := n + 2) hF r2 (by have := hP.len; simp at this; omega) hP
        simp only [f_waferlaw12_TypesRecords, f_waferlaw12_TypesRecords_R3, f_waferlaw12_TypesRecords_R2, argEnv_cons, Nat.zero_add, Nat.reduceAdd, argEnv_nil, List.length_nil, exL_seq, exL_ops, runOps_n, evalK_box, rd_t, reduceCtorEq, get_ne, Nat.reduceEqDiff, get_eq, readV_d, spent_t, cells_agg, List.map_cons, List.map_nil, ones_cons, vone_d, one_i, one_s, ho1, ones_nil, Bool.and_self, boxN_t, opC_ok, put_box, killLp_cons, killV_d, killLp_nil, evalK_mov, rd_c, spent_c, put_d, runOps_nil, thenC_nrm, evalK_call, allLeave_nil, eCall_f, hkn, callC_some, spentAll_nil, hz0, evalK_un, un_not, Bool.not_true, Option.map_some, okS_some, exL_cond, condC_b, Bool.false_eq_true, ↓reduceIte, exL_skip, evalK_load, readV_box, loadV_lp, List.length_cons, Nat.reduceLeDiff, boxV_A, List.drop_zero, List.take_succ_cons, List.take_zero, copy1_d, mkAgg_eq, allD_d, allD_nil, consD_some, aggV_some, allLeave_cons, leaves_d, g1, spentAll_cons, exL_block, f_waferlaw12_TypesRecords_l0_in, keepV_d, keepV_box, hl0, rd_mv, takeV_d, spent_mv, hm, put_map, takeV_map, exL_opsD, runOpsD_n, opDC_same, putD_d, putC_some, evalK_bin, isC_t, isC_c, Bool.or_true, Int.reduceEq, bin_rem, Bool.or_false, bin_add, hc1, evalK_buildSlice, dcells_i, List.reduceReplicate, Nat.reduceLT, fillD_cons, List.set_cons_zero, fillD_nil, wfs_cons, wf_one, wfs_nil, slO_some, putD_osl, evalK_text, readV_osl, htx1, hs1, hc2, htx2, hs2, opDC_serial, runOpsD_nil, readV_map, leaves_map, fc, put_tup, readV_tup, evalK_extract, extV_0, copy_d, extV_1, fr, Bool.or_self, bin_bneq, hbb, runOps_g, wantG_bf, Bool.not_false, wantC_b, v0, evalK_pick, pickV_b, x1, x2, c1, evalK_build, cells_d1, fillC_1, List.set_cons_succ, fillC_nil, aggO_some, evalK_conv, hck, a1, dcells_agg, wf_agg, dones_cons, dones_nil, q1, one_nil, one_sl, evalK_lenL, lenL_sl, Int.cast_ofNat_Int, f_waferlaw12_TypesRecords_l1_in, keepV_map, keepV_osl, hfin', exL_ret, finC_ret, resultVs_cons, resultV_t, ownV_d, resultVs_nil, consO_some, leaveC_1]
        all_goals rfl
    · simp only [f_waferlaw12_TypesRecords, argEnv_cons, Nat.zero_add, Nat.reduceAdd, argEnv_nil, List.length_nil, exL_seq, exL_ops, runOps_n, evalK_box, rd_t, reduceCtorEq, get_ne, Nat.reduceEqDiff, get_eq, readV_d, spent_t, cells_agg, List.map_cons, List.map_nil, ones_cons, vone_d, one_i, one_s, ho1, ones_nil, Bool.and_self, boxN_t, opC_ok, put_box, killLp_cons, killV_d, killLp_nil, evalK_mov, rd_c, spent_c, put_d, runOps_nil, thenC_nrm, evalK_call, allLeave_nil, eCall_f, hkn, callC_some, spentAll_nil, hz0, evalK_un, un_not, Bool.not_true, Option.map_some, okS_some, exL_cond, condC_b, Bool.false_eq_true, ↓reduceIte, exL_skip, evalK_load, readV_box, loadV_lp, List.length_cons, Nat.reduceLeDiff, boxV_A, List.drop_zero, List.take_succ_cons, List.take_zero, copy1_d, mkAgg_eq, allD_d, allD_nil, consD_some, aggV_some, allLeave_cons, leaves_d, g1, spentAll_cons, exL_block, f_waferlaw12_TypesRecords_l0_in, keepV_d, keepV_box, hl0, thenC_ret, finC_ret, resultVs_cons, resultV_t, ownV_d, resultVs_nil, consO_some, leaveC_1]
      all_goals rfl
end W

/-
  From the small semantics to a law's statement: what is read stays; the answer is true.
-/
set_option linter.unusedSimpArgs false
set_option linter.unusedVariables false
namespace W
open Go (World Value Addr IntKind Program TypeId FuncId Operand Act Oper Next Result Sem Ending Exit Code Func DataW MemPlace Calls trodAll_cons_mk)
open Go.ChangeShapes Go.RowKit Go.WideShapes Go.ChangeAt
section
variable {P : Program} {Hh : Type} {enc : TypeId × Value → Hh}
theorem sameAt_old {W W' : World} (hb : ∀ b, b < W.heap.size → W'.heap[b]? = W.heap[b]?) {p : MemPlace} (hp : p.block < W.heap.size) : W.sameAt W' p := by
  cases p with
  | cell b o => exact cell_of_heap (hb b hp) o
  | map b => exact hb b hp
theorem trodAll_stays (hl : Go.laidOutB P = true) {W W' : World} (hb : ∀ b, b < W.heap.size → W'.heap[b]? = W.heap[b]?) {sp : Nat → Bool} : ∀ {ts : List TypeId} {vs : List Value} {ds : List (DataW Hh)} {ps : List MemPlace}, (∀ t ∈ ts, P.readableRec t = true ∧ t < P.types.size) →
    DataW.TrodAll enc P W 0 (fun _ => true) true ts vs ds ps → (∀ p ∈ ps, p.block < W.heap.size) → (∀ p ∈ ps, sp p.block = true) → DataW.TrodAll enc P W' 0 sp true ts vs ds ps
  | [], vs, ds, ps, hr, h, hlt, hs => by
    obtain ⟨rfl, rfl, rfl⟩ := trodAll_nil h
    exact trodAll_mk0
  | t :: ts, vs, ds, ps, hr, h, hlt, hs => by
    obtain ⟨v, vs', d, ds', p, q, rfl, rfl, rfl, hd, hrest⟩ := trodAll_cons h
    refine trodAll_cons_mk (Go.WideElems.Trod_stays hl (hr t (by simp)).1 (hr t (by simp)).2 hd (fun x hx => sameAt_old hb (hlt x (by simp [hx]))) (fun x hx => hs x (by simp [hx])))
      (trodAll_stays hl hb (fun u hu => hr u (by simp [hu])) hrest (fun x hx => hlt x (by simp [hx])) (fun x hx => hs x (by simp [hx])))
theorem law_post {f : Func} {s : Go.ChangeSpec} {apart fresh handsOn again : Bool} {W W' : World} {args : Array Value} {ds gs : List (DataW Hh)} {before : List MemPlace} {tb : TypeId} (hvars : s.vars = [])
    (hW : DataW.Whole enc P f.params.toList s.vars apart W args.toList ds gs before) (hs : s.fn Hh ds = { results := [.lit (.bool true)], args := ds }) (hres : f.resultTypes = #[tb]) (htb : P.underlying tb = some .bool)
    (hl : Go.laidOutB P = true) (hread : ∀ t ∈ f.params.toList, P.readableRec t = true ∧ t < P.types.size)
    (hio : W'.os = W.os ∧ W'.output = W.output) (hb : ∀ b, b < W.heap.size → W'.heap[b]? = W.heap[b]?) :
    s.post enc P f apart fresh handsOn again W args (.bool true) W' := by
  have hlt : ∀ p ∈ before, p.block < W.heap.size := fun p hp => by simpa using hW.lt p hp
  have hW' := hW
  obtain ⟨p, q, hA, hV, rfl, hfz, hnd⟩ := hW
  rw [hvars] at hV
  obtain ⟨rfl, rfl⟩ := trodVars_none hV
  have hfn : s.fn Hh (ds ++ []) = { results := [.lit (.bool true)], args := ds } := by rw [List.append_nil]; exact hs
  have hargs : ∀ sp : Nat → Bool, (∀ x ∈ p ++ [], sp x.block = true) → DataW.TrodAll enc P W' 0 sp true f.params.toList args.toList ds p := fun sp hsp =>
    trodAll_stays hl hb hread hA (fun x hx => hlt x (by simp [hx])) (fun x hx => hsp x (by simp [hx]))
  have hk : W.keptBut W' (fun _ => False) := by
    refine ⟨hio.1, hio.2, fun i hi => ?_⟩
    rw [hb i hi]
    cases hq : W.heap[i]? with
    | none => rfl
    | some o => cases o <;> first | rfl | exact ⟨rfl, rfl, rfl, fun _ _ => rfl⟩ | exact .inr ⟨rfl, rfl⟩
  have hresT : ∀ (b : Nat) (sp : Nat → Bool) (hd : Bool), DataW.TrodAll enc P W' b sp hd f.resultTypes.toList ((Value.bool true).resultList f.resultTypes.size) [.lit (.bool true)] [] := fun b sp hd => by
    rw [hres]
    exact trodAll_cons_mk (shut_bool htb _) trodAll_mk0
  have hfz' : ∀ a : Addr, a.block < W.heap.size → W'.frozen? a = W.frozen? a := fun a ha => by simp only [World.frozen?, hb a.block ha]
  have hres2 : ∀ (b : Nat) (sp : Nat → Bool) (hd : Bool), DataW.TrodAll enc P W' b sp hd f.resultTypes.toList ((Value.bool true).resultList f.resultTypes.size) (s.fn Hh (ds ++ [])).results [] := fun b sp hd => by rw [hfn]; exact hresT b sp hd
  have hargs2 : ∀ sp : Nat → Bool, (∀ x ∈ p ++ [], sp x.block = true) → DataW.TrodAll enc P W' 0 sp true f.params.toList args.toList (s.fn Hh (ds ++ [])).args p := fun sp hsp => by rw [hfn]; exact hargs sp hsp
  have hvars2 : ∀ sp : Nat → Bool, DataW.TrodVars enc P W' sp s.vars (s.fn Hh (ds ++ [])).vars [] := fun sp => by rw [hfn, hvars]; rfl
  have hold : ∀ x ∈ p ++ [], (fun b => decide (b < W.heap.size)) x.block = true := fun x hx => by simpa using hlt x hx
  refine ⟨ds, [], p ++ [], [], p, [], hW', hres2 _ _ _, hargs2 _ hold, hvars2 _, Go.World.keptBut_mono (fun _ h => h.elim) hk, fun _ => ?_⟩
  refine ⟨ok_one hres rfl (okWide_bool_mk htb _), _, _, ([] ++ p) ++ [], ⟨[] ++ p, [], trodAll_append (hargs2 _ (fun _ _ => rfl)) (hres2 _ _ _), hvars2 _, rfl, ?_, ?_⟩, ?_⟩
  · intro b off hp
    rw [hfz' _ (hlt (.cell b off) (by simpa using hp))]
    exact hfz b off (by simpa using hp)
  · intro ha
    simpa using hnd ha
  · intro x hx _
    simpa using hx
end
end W

/-
  Arguments that were read are data.
-/
set_option linter.unusedSimpArgs false
set_option linter.unusedVariables false
namespace W
open Go (World Value Addr IntKind Program TypeId FuncId Operand Act Oper Next Result Sem Ending Exit Code Func DataW MemPlace Calls TypeDesc Lit)
mutual
def D.bulk : D → Nat
  | .s x => x.length + 1
  | .sl xs => D.bulks xs + 1
  | .agg cs => D.bulks cs + 1
  | _ => 1
def D.bulks : List D → Nat
  | [] => 0
  | x :: l => D.bulk x + D.bulks l
end
theorem bulks_append : ∀ (a b : List D), D.bulks (a ++ b) = D.bulks a + D.bulks b
  | [], b => by simp [D.bulks]
  | x :: a, b => by simp only [List.cons_append, D.bulks, bulks_append a b]; omega
def tiles (P : Program) : Nat → List Go.Field → Bool
  | _, [] => true
  | off, f :: l => f.offset == off && tiles P (off + P.cellsOf f.type) l
def sumCells (P : Program) : List Go.Field → Nat
  | [] => 0
  | f :: l => P.cellsOf f.type + sumCells P l
def cover1 (P : Program) (ts : List TypeId) (t : TypeId) : Bool :=
  match P.underlying t with
  | some .bool | some (.int _) | some .string => true
  | some (.slice e) => ts.contains e && Nat.blt 0 (P.cellsOf e)
  | some (.struct fs) => fs.toList.all (fun f => ts.contains f.type) && tiles P 0 fs.toList && Nat.beq (P.cellsOf t) (sumCells P fs.toList)
  | some (.array n e) => ts.contains e && Nat.beq (P.cellsOf t) (n * P.cellsOf e)
  | _ => false
def covers (P : Program) (ts : List TypeId) : Bool := ts.all (cover1 P ts)
def aggT (P : Program) (t : TypeId) : Bool :=
  match P.underlying t with
  | some (.struct _) | some (.array _ _) => true
  | _ => false
def elD : Bool → List D → D
  | true, xs => .agg xs
  | false, [x] => x
  | false, _ => .np
def Ty (P : Program) : Nat → TypeId → List D → Prop
  | 0, _, _ => False
  | n + 1, t, xs => match P.underlying t with
    | some .bool => ∃ b, xs = [.b b]
    | some (.int k) => ∃ z, xs = [.i k z] ∧ (Lit.int k z).wf = true
    | some .string => ∃ s, xs = [.s s] ∧ s.length ≤ Go.maxLen ∧ ∀ c ∈ s, c < 256
    | some (.slice e) => xs = [.nil] ∨ ∃ yss : List (List D), xs = [.sl (yss.map (elD (aggT P e)))] ∧ yss.length ≤ Go.maxLen ∧ ∀ q ∈ yss, Ty P n e q
    | some (.struct fs) => ∃ yss : List (List D), xs = yss.flatten ∧ yss.length = fs.toList.length ∧ ∀ (i : Nat) (f : Go.Field) (q : List D), fs.toList[i]? = some f → yss[i]? = some q → Ty P n f.type q
    | some (.array m e) => ∃ yss : List (List D), xs = yss.flatten ∧ yss.length = m ∧ ∀ q ∈ yss, Ty P n e q
    | _ => False
def Arg (P : Program) (t : TypeId) (x : D) : Prop := ∃ n xs, Ty P n t xs ∧ x = elD (aggT P t) xs
structure Bulk {Hh : Type} (B : DataW Hh → Nat) (BA : List (DataW Hh) → Nat) : Prop where
  str : ∀ bytes, B (.lit (.string bytes)) = bytes.length + 1
  lit : ∀ l, 1 ≤ B (.lit l)
  nil : B .nil = 1
  sl : ∀ es sp, B (.slice es sp) = BA es + BA sp + 1
  agg : ∀ ps, B (.agg ps) = BA ps + 1
  n : BA [] = 0
  c : ∀ d r, BA (d :: r) = B d + BA r
def g0 (W : World) : Gh := { n := 0, φ := fun _ => 0, own := fun _ => none, pub := fun b => match W.heap[b]? with | some (.cells c _ _) => c.size | _ => 0 }
theorem glOk_nil {M : Maps} {g : Gh} {w : World} (h : M.gl = []) (h2 : M.gi = []) : GlOk M g w := ⟨(fun n x hn => by rw [h] at hn; cases hn), (fun n hn => by rw [h2] at hn; cases hn)⟩
theorem g0_relH (M : Maps) (W : World) (hgl : GlOk M (g0 W) W) : RelH M (g0 W) W [] := ⟨rfl, fun id o h => by simp at h, fun b hb => ⟨rfl, by
  show (match W.heap[b]? with | some (.cells c _ _) => c.size | _ => 0) = 0
  rw [Array.getElem?_eq_none hb]⟩, hgl⟩
theorem g0_evo {W W' : World} {g' : Gh} (h : Evo (g0 W) W g' W') : ∀ b, b < W.heap.size → W'.heap[b]? = W.heap[b]? := fun b hb => (h.keep b hb (.inl rfl)).2.1
theorem pub_of_cell {W : World} {b o : Nat} {v : Value} (h : W.cell? ⟨b, o, none⟩ = some v) : o < (g0 W).pub b := by
  simp only [World.cell?] at h
  show o < (match W.heap[b]? with | some (.cells c _ _) => c.size | _ => 0)
  split at h
  · rename_i c e f hq
    rw [hq]
    simp at h
    exact (Array.getElem?_eq_some_iff.1 h).1
  · cases h
theorem spot_of_cell {W : World} {a : Addr} {v : Value} (h : W.cell? a = some v) : a.spot = none := by
  simp only [World.cell?] at h
  split at h
  · cases hs : a.spot with
    | none => rfl
    | some s => simp [hs] at h
  · cases h
section
variable {P : Program} {Hh : Type} {enc : TypeId × Value → Hh} {W : World}
theorem RepDL.split {pub : Nat → Nat} {w : World} : ∀ {a : List (List D)} {b : List (List Value)}, a.length = b.length → (∀ (i : Nat) (q : List D) (r : List Value), a[i]? = some q → b[i]? = some r → RepDL pub w q r) → RepDL pub w a.flatten b.flatten
  | [], [], _, _ => .nil
  | q :: a, r :: b, hl, h => by
    simp only [List.flatten_cons]
    exact (h 0 q r rfl rfl).append (RepDL.split (by simpa using hl) (fun i q' r' hq hr => h (i + 1) q' r' (by simpa using hq) (by simpa using hr)))
  | [], _ :: _, hl, _ => by simp at hl
  | _ :: _, [], hl, _ => by simp at hl
theorem tiles_flatten (cs : List Value) : ∀ (fs : List Go.Field) (off : Nat), tiles P off fs = true → (fs.map fun f => (cs.drop f.offset).take (P.cellsOf f.type)).flatten = (cs.drop off).take (sumCells P fs)
  | [], off, _ => by simp [sumCells]
  | f :: fs, off, h => by
    simp only [tiles, Bool.and_eq_true, beq_iff_eq] at h
    simp only [List.map_cons, List.flatten_cons, sumCells, tiles_flatten cs fs _ h.2, h.1]
    rw [List.take_add, List.drop_drop]
theorem array_flatten (cs : List Value) (sz : Nat) : ∀ n, ((List.range n).map fun i => (cs.drop (i * sz)).take sz).flatten = cs.take (n * sz)
  | 0 => by simp
  | n + 1 => by
    rw [List.range_succ, List.map_append, List.flatten_append, array_flatten cs sz n, Nat.succ_mul, List.take_add]
    simp
theorem ty_cells {n : Nat} {t : TypeId} {xs : List D} (h : Ty P n t xs) : (elD (aggT P t) xs).cells = xs := by
  cases n with
  | zero => exact h.elim
  | succ n =>
    unfold Ty at h
    unfold aggT
    split at h
    · rename_i hu; rw [hu]; obtain ⟨b, rfl⟩ := h; rfl
    · rename_i k hu; rw [hu]; obtain ⟨b, rfl, _⟩ := h; rfl
    · rename_i hu; rw [hu]; obtain ⟨b, rfl, _⟩ := h; rfl
    · rename_i e hu; rw [hu]
      rcases h with rfl | ⟨yss, rfl, _⟩ <;> rfl
    · rename_i fs hu; rw [hu]; rfl
    · rename_i m e hu; rw [hu]; rfl
    · exact h.elim
theorem ones_append {a b : List D} (h1 : D.ones a = true) (h2 : D.ones b = true) : D.ones (a ++ b) = true := by
  induction a with
  | nil => exact h2
  | cons q a ih => simp only [List.cons_append, D.ones, Bool.and_eq_true] at h1 ⊢; exact ⟨h1.1, ih h1.2⟩
theorem ones_flatten : ∀ {l : List (List D)}, (∀ q ∈ l, D.ones q = true) → D.ones l.flatten = true
  | [], _ => rfl
  | q :: l, h => ones_append (h q (by simp)) (ones_flatten fun r hr => h r (by simp [hr]))
theorem ty_ones : ∀ {n : Nat} {t : TypeId} {xs : List D}, Ty P n t xs → D.ones xs = true
  | 0, _, _, h => h.elim
  | n + 1, t, xs, h => by
    unfold Ty at h
    split at h
    · obtain ⟨b, rfl⟩ := h; rfl
    · obtain ⟨b, rfl, _⟩ := h; rfl
    · obtain ⟨b, rfl, _⟩ := h; rfl
    · rcases h with rfl | ⟨yss, rfl, _⟩ <;> rfl
    · obtain ⟨yss, rfl, hl, h⟩ := h
      refine ones_flatten fun q hq => ?_
      obtain ⟨i, hi⟩ := List.getElem?_of_mem hq
      have hlt := (List.getElem?_eq_some_iff.1 hi).1
      rename_i fs hu
      exact ty_ones (h i (fs.toList[i]'(by omega)) q (by simp [hl ▸ hlt]) hi)
    · obtain ⟨yss, rfl, hl, h⟩ := h
      exact ones_flatten fun q hq => ty_ones (h q hq)
    · exact h.elim
end
end W

/-
  Arguments that were read are data: the reading itself.
-/
set_option linter.unusedSimpArgs false
set_option linter.unusedVariables false
namespace W
open Go (World Value Addr IntKind Program TypeId FuncId Operand Act Oper Next Result Sem Ending Exit Code Func DataW MemPlace Calls TypeDesc Lit)
theorem exists_list {α : Type} {R : Nat → α → Prop} : ∀ (n : Nat), (∀ i, i < n → ∃ a, R i a) → ∃ l : List α, l.length = n ∧ ∀ (i : Nat) (a : α), l[i]? = some a → R i a
  | 0, _ => ⟨[], rfl, fun i a h => by simp at h⟩
  | n + 1, h => by
    obtain ⟨l, h1, h2⟩ := exists_list n (fun i hi => h i (by omega))
    obtain ⟨a, ha⟩ := h n (by omega)
    refine ⟨l ++ [a], by simp [h1], fun i b hb => ?_⟩
    rw [List.getElem?_append] at hb
    split at hb
    · exact h2 i b hb
    · rename_i hge
      have hi : i - l.length = 0 := by
        rcases Nat.eq_zero_or_pos (i - l.length) with h0 | h0
        · exact h0
        · rw [List.getElem?_eq_none (by simp; omega)] at hb; cases hb
      rw [hi] at hb
      simp only [List.getElem?_cons_zero, Option.some.injEq] at hb
      subst hb
      rwa [show i = n by omega]
theorem flatten_get {α : Type} {c : Nat} : ∀ (l : List (List α)), (∀ q ∈ l, q.length = c) → ∀ (j : Nat) (v : α), l.flatten[j]? = some v → ∃ i r q, j = i * c + r ∧ l[i]? = some q ∧ q[r]? = some v
  | [], _, j, v, h => by simp at h
  | q :: l, hc, j, v, h => by
    have hq := hc q (by simp)
    rw [List.flatten_cons, List.getElem?_append] at h
    split at h
    · exact ⟨0, j, q, by simp, rfl, h⟩
    · rename_i hge
      obtain ⟨i, r, q', h1, h2, h3⟩ := flatten_get l (fun x hx => hc x (by simp [hx])) _ v h
      exact ⟨i + 1, r, q', by rw [Nat.succ_mul]; omega, by simpa using h2, h3⟩
theorem flatten_length {α : Type} {c : Nat} : ∀ (l : List (List α)), (∀ q ∈ l, q.length = c) → l.flatten.length = l.length * c
  | [], _ => by simp
  | q :: l, hc => by
    rw [List.flatten_cons, List.length_append, hc q (by simp), flatten_length l (fun x hx => hc x (by simp [hx])), List.length_cons, Nat.succ_mul]; omega
section
variable {P : Program} {Hh : Type} {enc : TypeId × Value → Hh} {W : World}
theorem bulk_el {n : Nat} {t : TypeId} {q : List D} (h : Ty P n t q) {b : Nat} (hb : D.bulks q + (if aggT P t then 1 else 0) ≤ b) : D.bulk (elD (aggT P t) q) ≤ b := by
  cases ha : aggT P t with
  | true => rw [ha] at hb; simpa [elD, D.bulk] using hb
  | false =>
    rw [ha] at hb
    have h1 := ty_cells h
    rw [ha] at h1
    match q, h1, hb with
    | [x], _, hb => simpa [elD, D.bulks] using hb
    | [], h1, _ => simp [elD, D.cells] at h1
    | x :: y :: l, h1, _ => simp [elD, D.cells] at h1
theorem bulks_le {B : DataW Hh → Nat} {BA : List (DataW Hh) → Nat} (hB : Bulk B BA) : ∀ {ys : List D} {ds : List (DataW Hh)}, ys.length = ds.length → (∀ (i : Nat) (y : D) (d : DataW Hh), ys[i]? = some y → ds[i]? = some d → D.bulk y ≤ B d) → D.bulks ys ≤ BA ds
  | [], [], _, _ => by simp [D.bulks]
  | y :: ys, d :: ds, hl, h => by
    rw [hB.c, D.bulks]
    have h1 := h 0 y d rfl rfl
    have h2 := bulks_le hB (ys := ys) (ds := ds) (by simpa using hl) (fun i y d hy hd => h (i + 1) y d (by simpa using hy) (by simpa using hd))
    omega
  | [], _ :: _, hl, _ => by simp at hl
  | _ :: _, [], hl, _ => by simp at hl
theorem bulks_flat_le {B : DataW Hh → Nat} {BA : List (DataW Hh) → Nat} (hB : Bulk B BA) : ∀ {ys : List (List D)} {ds : List (DataW Hh)}, ys.length = ds.length → (∀ (i : Nat) (y : List D) (d : DataW Hh), ys[i]? = some y → ds[i]? = some d → D.bulks y ≤ B d) → D.bulks ys.flatten ≤ BA ds
  | [], [], _, _ => by simp [D.bulks]
  | y :: ys, d :: ds, hl, h => by
    rw [hB.c, List.flatten_cons, bulks_append]
    have h1 := h 0 y d rfl rfl
    have h2 := bulks_flat_le hB (ys := ys) (ds := ds) (by simpa using hl) (fun i y d hy hd => h (i + 1) y d (by simpa using hy) (by simpa using hd))
    omega
  | [], _ :: _, hl, _ => by simp at hl
  | _ :: _, [], hl, _ => by simp at hl
theorem cells_spec {a : Addr} {n : Nat} {cs : List Value} (h : W.cells? 0 a n = some cs) : cs.length = n ∧ ∀ (i : Nat) (v : Value), cs[i]? = some v → W.cell? (a.add i) = some v := by
  unfold World.cells? at h
  simp only [Nat.zero_le, if_true] at h
  have hl := Go.mapM_some_length h
  refine ⟨by simpa using hl, fun i v hv => ?_⟩
  have hi : i < n := by
    have := (List.getElem?_eq_some_iff.1 hv).1
    rw [hl] at this; simpa using this
  have := Go.mapM_some_get h i i (by simp [hi])
  rw [this, hv]
theorem bulks_sl (ys : List D) : D.bulks [.sl ys] = D.bulks ys + 1 := by simp [D.bulks, D.bulk]
theorem trod_rep {ts : List TypeId} (hts : covers P ts = true) {B : DataW Hh → Nat} {BA : List (DataW Hh) → Nat} (hB : Bulk B BA) : ∀ (n : Nat) (t : TypeId) (cs : List Value) (x : DataW Hh × List MemPlace), t ∈ ts →
    DataW.trod enc P W 0 (fun _ => true) true n t cs = some x → ∃ xs, Ty P n t xs ∧ RepDL (g0 W).pub W xs cs ∧ D.bulks xs + (if aggT P t then 1 else 0) ≤ B x.1
  | 0, t, cs, x, _, h => by simp [DataW.trod] at h
  | n + 1, t, cs, x, ht, h => by
    have hcov : cover1 P ts t = true := by
      simp only [covers, List.all_eq_true] at hts
      exact hts t ht
    unfold cover1 at hcov
    unfold Ty aggT
    split at hcov
    · -- bool
      rename_i hu
      obtain ⟨b, rfl, rfl⟩ := DataW.trod_bool hu h
      rw [hu]
      exact ⟨[.b b], ⟨b, rfl⟩, .cons _ _ _ _ (.b b) .nil, by have := hB.lit (.bool b); simpa [D.bulks, D.bulk] using this⟩
    · rename_i k hu
      obtain ⟨z, rfl, rfl, hw⟩ := DataW.trod_int hu h
      rw [hu]
      exact ⟨[.i k z], ⟨z, rfl, hw⟩, .cons _ _ _ _ (.i k z) .nil, by have := hB.lit (.int k z); simpa [D.bulks, D.bulk] using this⟩
    · rename_i hu
      obtain ⟨z, rfl, rfl, hm⟩ := DataW.trod_string hu h
      rw [hu]
      have hl : (z.data.toList.map (·.toNat)).length = z.size := by simp
      refine ⟨[.s (z.data.toList.map (·.toNat))], ⟨_, rfl, by rw [hl]; exact hm, fun c hc => ?_⟩, .cons _ _ _ _ (.s _ z rfl) .nil, ?_⟩
      · obtain ⟨b, _, rfl⟩ := List.mem_map.1 hc
        exact b.toNat_lt
      · simp only [D.bulks, D.bulk, hB.str]
        simp
    · -- slice
      rename_i e hu
      simp only [Bool.and_eq_true, List.contains_iff_mem, Nat.blt_eq] at hcov
      obtain ⟨he, hpos⟩ := hcov
      rw [hu]
      rcases DataW.trod_slice hu h with ⟨rfl, rfl⟩ | ⟨a, len, cap, elems, rest, m, hm, rfl, rfl, hb, hlc, hcap, hlen, hel, _, _⟩
      · exact ⟨[.nil], .inl rfl, .cons _ _ _ _ .nil .nil, by rw [hB.nil]; simp [D.bulks, D.bulk]⟩
      · cases hm
        -- each element
        obtain ⟨l, hl1, hl2⟩ := exists_list (R := fun i (p : List D × List Value) => ∃ y, elems[i]? = some y ∧ W.cells? 0 (a.add (i * P.cellsOf e)) (P.cellsOf e) = some p.2 ∧ Ty P n e p.1 ∧ RepDL (g0 W).pub W p.1 p.2 ∧ D.bulks p.1 + (if aggT P e then 1 else 0) ≤ B y.1) len (fun i hi => by
          have h1 := hel i hi
          rw [List.getElem?_eq_getElem (by omega)] at h1
          obtain ⟨cs', h2, h3⟩ := Option.bind_eq_some_iff.1 h1
          obtain ⟨xs, h4, h5, h6⟩ := trod_rep hts hB n e cs' _ he h3
          exact ⟨(xs, cs'), _, List.getElem?_eq_getElem (by omega), h2, h4, h5, h6⟩)
        have htys : ∀ q ∈ l.map (·.1), Ty P n e q := fun q hq => by
          obtain ⟨p, hp, rfl⟩ := List.mem_map.1 hq
          obtain ⟨i, hi⟩ := List.getElem?_of_mem hp
          obtain ⟨y, _, _, h4, _⟩ := hl2 i p hi
          exact h4
        have hbulk : D.bulks ((l.map (·.1)).map (elD (aggT P e))) ≤ BA (elems.map (·.1)) := by
          refine bulks_le hB (by simp [hl1, hlen]) (fun i y d hy hd => ?_)
          simp only [List.getElem?_map, Option.map_map, Option.map_eq_some_iff] at hy hd
          obtain ⟨p, hp, rfl⟩ := hy
          obtain ⟨z, hz, rfl⟩ := hd
          obtain ⟨y, h1, _, h4, _, h6⟩ := hl2 i p hp
          rw [hz] at h1
          cases h1
          exact bulk_el h4 h6
        refine ⟨[.sl ((l.map (·.1)).map (elD (aggT P e)))], .inr ⟨l.map (·.1), rfl, by simp only [List.length_map, hl1]; omega, htys⟩, .cons _ _ _ _ ?_ .nil, ?_⟩
        · cases hle : l with
          | nil =>
            rw [hle] at hl1
            simp at hl1
            subst hl1
            exact .sl0 a cap
          | cons p0 l' =>
            rw [← hle]
            have hlpos : 0 < len := by rw [← hl1, hle]; simp
            have hcl : ∀ p ∈ l, p.2.length = P.cellsOf e := fun p hp => by
              obtain ⟨i, hi⟩ := List.getElem?_of_mem hp
              obtain ⟨y, _, h2, _⟩ := hl2 i p hi
              exact (cells_spec h2).1
            have hcell : ∀ i p, l[i]? = some p → ∀ r v, p.2[r]? = some v → W.cell? ((a.add (i * P.cellsOf e)).add r) = some v := fun i p hi r v hv => by
              obtain ⟨y, _, h2, _⟩ := hl2 i p hi
              exact (cells_spec h2).2 r v hv
            have hspot : a.spot = none := by
              have h0 : l[0]? = some p0 := by rw [hle]; rfl
              have hp0 := hcl p0 (by rw [hle]; simp)
              have hlt : 0 < p0.2.length := by omega
              have := spot_of_cell (hcell 0 p0 h0 0 p0.2[0] (by simp [hlt]))
              rw [Nat.zero_mul] at this
              unfold Addr.add at this
              simpa using this
            obtain ⟨b, off, sp⟩ := a
            simp only at hspot
            subst hspot
            have hvlen : (l.map (·.2)).flatten.length = len * P.cellsOf e := by
              rw [flatten_length _ (fun q hq => by obtain ⟨p, hp, rfl⟩ := List.mem_map.1 hq; exact hcl p hp)]; simp [hl1]
            have hflat : ((l.map (·.1)).map (elD (aggT P e))).flatMap D.cells = (l.map (·.1)).flatten := by
              rw [List.flatMap_map, List.flatMap_def]
              congr 1
              rw [List.map_congr_left (g := id)]
              · simp
              · intro q hq; exact ty_cells (htys q hq)
            have hrep : RepDL (g0 W).pub W (((l.map (·.1)).map (elD (aggT P e))).flatMap D.cells) (l.map (·.2)).flatten := by
              rw [hflat]
              refine RepDL.split (by simp) (fun i q r hq hr => ?_)
              simp only [List.getElem?_map, Option.map_eq_some_iff] at hq hr
              obtain ⟨p, hp, rfl⟩ := hq
              obtain ⟨p', hp', rfl⟩ := hr
              rw [hp] at hp'
              cases hp'
              obtain ⟨y, _, _, _, h5, _⟩ := hl2 i p hp
              exact h5
            have hcs : ∀ j v, (l.map (·.2)).flatten[j]? = some v → W.cell? ⟨b, off + j, none⟩ = some v := fun j v hj => by
              obtain ⟨i, r, q, h1, h2, h3⟩ := flatten_get _ (fun q hq => by obtain ⟨p, hp, rfl⟩ := List.mem_map.1 hq; exact hcl p hp) j v hj
              simp only [List.getElem?_map, Option.map_eq_some_iff] at h2
              obtain ⟨p, hp, rfl⟩ := h2
              have := hcell i p hp r v h3
              rw [add_none, add_none] at this
              rw [h1, ← Nat.add_assoc]; exact this
            have hlenD : ((l.map (·.1)).map (elD (aggT P e))).length = len := by simp [hl1]
            have hsl := RepD.sl (pub := (g0 W).pub) (w := W) ((l.map (·.1)).map (elD (aggT P e))) b off cap (P.cellsOf e) (l.map (·.2)).flatten (by rw [hle]; simp) (fun x hx => ?_) hrep hcs ?_ (by rw [hlenD]; exact hlc) ?_
            · rw [hlenD] at hsl; exact hsl
            · obtain ⟨q, hq, rfl⟩ := List.mem_map.1 hx
              rw [ty_cells (htys q hq)]
              obtain ⟨p, hp, rfl⟩ := List.mem_map.1 hq
              obtain ⟨i, hi⟩ := List.getElem?_of_mem hp
              obtain ⟨y, _, _, _, h5, _⟩ := hl2 i p hi
              rw [h5.length]; exact hcl p hp
            · have hp : 0 < len * P.cellsOf e := Nat.mul_pos hlpos hpos
              have hlt : (l.map (·.2)).flatten.length - 1 < (l.map (·.2)).flatten.length := by rw [hvlen]; omega
              have := pub_of_cell (hcs _ _ (List.getElem?_eq_getElem hlt))
              rw [hvlen] at this ⊢
              omega
            · refine hrep.ones ?_
              rw [hflat]
              exact ones_flatten fun q hq => ty_ones (htys q hq)
        · rw [bulks_sl, hB.sl]
          simp only [Bool.false_eq_true, if_false]
          omega
    · -- struct
      rename_i fs hu
      simp only [Bool.and_eq_true, List.all_eq_true, List.contains_iff_mem, Nat.beq_eq] at hcov
      obtain ⟨⟨hf, htile⟩, hsum⟩ := hcov
      obtain ⟨ys, m, hm, rfl, hlc, hlen, hel⟩ := DataW.trod_struct hu h
      cases hm
      rw [hu]
      obtain ⟨l, hl1, hl2⟩ := exists_list (R := fun i (p : List D) => ∃ f y, fs[i]? = some f ∧ ys[i]? = some y ∧ Ty P n f.type p ∧ RepDL (g0 W).pub W p ((cs.drop f.offset).take (P.cellsOf f.type)) ∧ D.bulks p + (if aggT P f.type then 1 else 0) ≤ B y.1) fs.size (fun i hi => by
        have hfi : fs[i]? = some fs[i] := by simp [hi]
        have h1 := hel i fs[i] hfi
        rw [List.getElem?_eq_getElem (by omega)] at h1
        obtain ⟨xs, h4, h5, h6⟩ := trod_rep hts hB n _ _ _ (hf fs[i] (by simp)) h1
        exact ⟨xs, fs[i], _, hfi, List.getElem?_eq_getElem (by omega), h4, h5, h6⟩)
      refine ⟨l.flatten, ⟨l, rfl, by simp [hl1], fun i f q hfi hq => ?_⟩, ?_, ?_⟩
      · obtain ⟨f', y, h1, h2, h3, _⟩ := hl2 i q hq
        have : fs[i]? = some f := by simpa using hfi
        rw [h1] at this; cases this
        exact h3
      · have hall : cs = (fs.toList.map fun f => (cs.drop f.offset).take (P.cellsOf f.type)).flatten := by
          rw [tiles_flatten cs _ 0 htile, ← hsum, ← hlc]; simp
        rw [hall]
        refine RepDL.split (by simp [hl1]) (fun i q r hq hr => ?_)
        simp only [List.getElem?_map, Option.map_eq_some_iff] at hr
        obtain ⟨f, hfi, rfl⟩ := hr
        obtain ⟨f', y, h1, h2, h3, h4, _⟩ := hl2 i q hq
        have : fs[i]? = some f := by simpa using hfi
        rw [h1] at this; cases this
        exact h4
      · simp only [hB.agg, if_true]
        have := bulks_flat_le hB (ys := l) (ds := ys.map (·.1)) (by simp [hl1, hlen]) (fun i q d hq hd => by
          simp only [List.getElem?_map, Option.map_eq_some_iff] at hd
          obtain ⟨z, hz, rfl⟩ := hd
          obtain ⟨f', y, h1, h2, h3, h4, h5⟩ := hl2 i q hq
          rw [hz] at h2; cases h2
          omega)
        omega
    · -- array
      rename_i k e hu
      simp only [Bool.and_eq_true, List.contains_iff_mem, Nat.beq_eq] at hcov
      obtain ⟨he, hsum⟩ := hcov
      obtain ⟨ys, m, hm, rfl, hlc, hlen, hel⟩ := DataW.trod_array hu h
      cases hm
      rw [hu]
      obtain ⟨l, hl1, hl2⟩ := exists_list (R := fun i (p : List D) => ∃ y, ys[i]? = some y ∧ Ty P n e p ∧ RepDL (g0 W).pub W p ((cs.drop (i * P.cellsOf e)).take (P.cellsOf e)) ∧ D.bulks p + (if aggT P e then 1 else 0) ≤ B y.1) k (fun i hi => by
        have h1 := hel i hi
        rw [List.getElem?_eq_getElem (by omega)] at h1
        obtain ⟨xs, h4, h5, h6⟩ := trod_rep hts hB n _ _ _ he h1
        exact ⟨xs, _, List.getElem?_eq_getElem (by omega), h4, h5, h6⟩)
      refine ⟨l.flatten, ⟨l, rfl, hl1, fun q hq => ?_⟩, ?_, ?_⟩
      · obtain ⟨i, hi⟩ := List.getElem?_of_mem hq
        obtain ⟨y, h2, h3, _⟩ := hl2 i q hi
        exact h3
      · have hall : cs = ((List.range k).map fun i => (cs.drop (i * P.cellsOf e)).take (P.cellsOf e)).flatten := by
          rw [array_flatten, ← hsum, ← hlc]; simp
        rw [hall]
        refine RepDL.split (by simp [hl1]) (fun i q r hq hr => ?_)
        simp only [List.getElem?_map, Option.map_eq_some_iff] at hr
        obtain ⟨i', hi', rfl⟩ := hr
        have hik : i < k := by rw [← hl1]; exact (List.getElem?_eq_some_iff.1 hq).1
        rw [List.getElem?_range hik] at hi'
        cases hi'
        obtain ⟨y, h2, h3, h4, _⟩ := hl2 i q hq
        exact h4
      · simp only [hB.agg, if_true]
        have := bulks_flat_le hB (ys := l) (ds := ys.map (·.1)) (by simp [hl1, hlen]) (fun i q d hq hd => by
          simp only [List.getElem?_map, Option.map_eq_some_iff] at hd
          obtain ⟨z, hz, rfl⟩ := hd
          obtain ⟨y, h2, h3, h4, h5⟩ := hl2 i q hq
          rw [hz] at h2; cases h2
          omega)
        omega
    · cases hcov
end
end W

/-
  A law's contract from runs of the small semantics, one for every way that its arguments may read.
-/
set_option linter.unusedSimpArgs false
set_option linter.unusedVariables false
namespace W
open Go (World Value Addr IntKind Program TypeId FuncId Operand Act Oper Next Result Sem Ending Exit Code Func DataW MemPlace Calls TypeDesc Lit)
open Go.ChangeShapes Go.RowKit
section
variable {P : Program} {Hh : Type} {enc : TypeId × Value → Hh} {W : World} {M : Maps}
theorem form_ok {r : Go.Reach} {b : Nat} {t : TypeId} {v : Value} (hv : Value.okWide P W r b t v) : (aggT P t = true → ∃ cs, v = .agg cs) ∧
    (aggT P t = false → (∃ d, P.underlying t = some d ∧ (d = .bool ∨ (∃ k, d = .int k) ∨ d = .string ∨ ∃ e, d = .slice e)) → v.cells.toList = [v]) := by
  unfold Value.okWide at hv
  unfold aggT
  split at hv
  · rename_i hu
    rw [hu]
    obtain ⟨cs, rfl, _⟩ := hv
    exact ⟨fun _ => ⟨cs, rfl⟩, fun h => by cases h⟩
  · rename_i hu
    rw [hu]
    obtain ⟨cs, rfl, _⟩ := hv
    exact ⟨fun _ => ⟨cs, rfl⟩, fun h => by cases h⟩
  · rename_i h1 h2
    refine ⟨fun h => ?_, fun _ ⟨d, hu, hd⟩ => ?_⟩
    · exfalso
      split at h
      · rename_i hu; exact h1 _ hu
      · rename_i hu; exact h2 _ _ hu
      · cases h
    · cases v with
      | agg cs => rcases hd with rfl | ⟨k, rfl⟩ | rfl | ⟨e, rfl⟩ <;> simp [Go.Cell.okWide, Go.Cell.ok, hu] at hv
      | _ => rfl
theorem arg_rep {ts : List TypeId} (hts : covers P ts = true) {B : DataW Hh → Nat} {BA : List (DataW Hh) → Nat} (hB : Bulk B BA) {r : Go.Reach} {b : Nat} {t : TypeId} {v : Value} {d : DataW Hh} {ps : List MemPlace} (ht : t ∈ ts)
    (hv : Value.okWide P W r b t v) (h : DataW.Trod enc P W 0 (fun _ => true) true t v d ps) : ∃ x, Arg P t x ∧ RepS M (g0 W) W (.d x) v ∧ D.bulk x ≤ B d := by
  obtain ⟨n, hn⟩ := h
  obtain ⟨xs, h1, h2, h3⟩ := trod_rep hts hB n t _ _ ht hn
  refine ⟨elD (aggT P t) xs, ⟨n, xs, h1, rfl⟩, ?_, bulk_el h1 h3⟩
  obtain ⟨f1, f2⟩ := form_ok hv
  cases ha : aggT P t with
  | true =>
    obtain ⟨cs, rfl⟩ := f1 ha
    exact .d _ _ (.agg xs cs h2)
  | false =>
    have hcov : cover1 P ts t = true := by
      simp only [covers, List.all_eq_true] at hts
      exact hts t ht
    have hc := f2 ha (by
      unfold cover1 at hcov
      split at hcov
      · rename_i hu; exact ⟨_, hu, .inl rfl⟩
      · rename_i hu; exact ⟨_, hu, .inr (.inl ⟨_, rfl⟩)⟩
      · rename_i hu; exact ⟨_, hu, .inr (.inr (.inl rfl))⟩
      · rename_i hu; exact ⟨_, hu, .inr (.inr (.inr ⟨_, rfl⟩))⟩
      · rename_i hu; simp [aggT, hu] at ha
      · rename_i hu; simp [aggT, hu] at ha
      · cases hcov)
    rw [hc] at h2
    cases h2 with
    | cons x _ l _ hx hl =>
      cases hl
      exact .d _ _ hx
theorem args_rep {ts : List TypeId} (hts : covers P ts = true) {B : DataW Hh → Nat} {BA : List (DataW Hh) → Nat} (hB : Bulk B BA) {r : Go.Reach} {b : Nat} : ∀ {tys : List TypeId} {vs : List Value} {ds : List (DataW Hh)} {ps : List MemPlace} (j : Nat),
    (∀ t ∈ tys, t ∈ ts) → (∀ (i : Nat) t v, tys[i]? = some t → vs[i]? = some v → Value.okWide P W r b t v) → DataW.TrodAll enc P W 0 (fun _ => true) true tys vs ds ps →
    ∃ xs : List D, All2 (Arg P) tys xs ∧ ArgsRep M (g0 W) W j (xs.map .d) vs ∧ D.bulks xs ≤ BA ds
  | [], vs, ds, ps, j, _, _, h => by
    obtain ⟨rfl, rfl, rfl⟩ := trodAll_nil h
    exact ⟨[], .nil, .nil j, by simp [D.bulks]⟩
  | t :: tys, vs, ds, ps, j, ht, hv, h => by
    obtain ⟨v, vs', d, ds', p, q, rfl, rfl, rfl, hd, hrest⟩ := trodAll_cons h
    obtain ⟨x, h1, h2, h3⟩ := arg_rep (M := M) hts hB (ht t (by simp)) (hv 0 t v rfl rfl) hd
    obtain ⟨xs, h4, h5, h6⟩ := args_rep hts hB (j + 1) (fun u hu => ht u (by simp [hu])) (fun i u w' hu hw => hv (i + 1) u w' (by simpa using hu) (by simpa using hw)) hrest
    refine ⟨x :: xs, .cons h1 h4, .cons (.s h2) h5, ?_⟩
    rw [hB.c, D.bulks]
    omega
theorem law_contract {f : Func} {fid : FuncId} {s : Go.ChangeSpec} {apart fresh handsOn again : Bool} {args : Array Value} {ds gs : List (DataW Hh)} {before : List MemPlace} {tb : TypeId} {ts : List TypeId} {pg : Pg} {i : Nat} {r : Go.Reach} {b : Nat}
    (hgl : GlOk M (g0 W) W) (hm : P.follows .mixedOrders = true) (hT : Tab P M pg) (hx : CallSim P M pg.ext) (hxlo : CallLo pg.ext) (hlook : look M.fm fid = some i) (hext : pg.fn i ≠ none)
    (hts : covers P ts = true) (hpar : ∀ t ∈ f.params.toList, t ∈ ts) {B : DataW Hh → Nat} {BA : List (DataW Hh) → Nat} (hB : Bulk B BA)
    (hval : ∀ (j : Nat) t v, f.params[j]? = some t → args[j]? = some v → Value.okWide P W r b t v)
    (hvars : s.vars = []) (hW : DataW.Whole enc P f.params.toList s.vars apart W args.toList ds gs before) (hs : s.fn Hh ds = { results := [.lit (.bool true)], args := ds }) (hres : f.resultTypes = #[tb]) (htb : P.underlying tb = some .bool)
    (hl : Go.laidOutB P = true) (hread : ∀ t ∈ f.params.toList, P.readableRec t = true ∧ t < P.types.size)
    (run : ∀ xs : List D, All2 (Arg P) f.params.toList xs → D.bulks xs ≤ BA ds → ∃ n r, callN pg n i (xs.map .d) [] = some r ∧ r.pan = false ∧ r.v = .d (.b true)) :
    Calls P fid args W fun e W' => ∃ v, e = .returned v ∧ s.post enc P f apart fresh handsOn again W args v W' := by
  have hW' := hW
  obtain ⟨p, q, hA, hV, rfl, hfz, hnd⟩ := hW
  obtain ⟨xs, h1, h2, h3⟩ := args_rep (M := M) hts hB 0 hpar (fun j t v ht hv => hval j t v (by simpa using ht) (by simpa using hv)) hA
  obtain ⟨n, q2, hrun, hp, hv⟩ := run xs h1 h3
  have hc := sound_calls hm hT hx hxlo hrun hlook hext h2 (g0_relH M W hgl)
  have ha : args.toList.toArray = args := by simp
  rw [ha] at hc
  refine hc.mono (fun e W' he => ?_)
  cases e with
  | returned v =>
    obtain ⟨_, g', hH, hE, hr⟩ := he
    rw [hv] at hr
    have hvb : v = .bool true := by
      cases hr with
      | s h => cases h with
        | d _ _ h => cases h; rfl
    subst hvb
    exact ⟨_, rfl, law_post hvars hW' hs hres htb hl hread hE.io (g0_evo hE)⟩
  | panicked ch =>
    obtain ⟨h, _⟩ := he
    rw [hp] at h; cases h
  | outgrown => exact he.elim
end
end W

/-
  What arguments read as, kind by kind.
-/
set_option linter.unusedSimpArgs false
set_option linter.unusedVariables false
namespace W
open Go (World Value Addr IntKind Program TypeId FuncId Func DataW MemPlace TypeDesc Lit)
theorem look_id {n a b : Nat} (h : look ((List.range n).map fun i => (i, i)) a = some b) : a = b := by
  have key : ∀ (l : List Nat), look (l.map fun i => (i, i)) a = some b → a = b := by
    intro l
    induction l with
    | nil => intro h; cases h
    | cons x l ih =>
      intro h
      simp only [List.map_cons, look, Bool.cond_eq_ite] at h
      split at h
      · rename_i hb
        cases h
        exact Nat.eq_of_beq_eq_true hb
      · exact ih h
  exact key _ h
variable {P : Program} {t e : TypeId} {x : D}
theorem arg_int {k : IntKind} (hu : P.underlying t = some (.int k)) (h : Arg P t x) : ∃ z, x = .i k z ∧ (Lit.int k z).wf = true := by
  obtain ⟨n, xs, ht, rfl⟩ := h
  cases n with
  | zero => exact ht.elim
  | succ n =>
    simp only [Ty, hu] at ht
    obtain ⟨z, rfl, hw⟩ := ht
    exact ⟨z, by simp [aggT, hu, elD], hw⟩
theorem arg_bool (hu : P.underlying t = some .bool) (h : Arg P t x) : ∃ z, x = .b z := by
  obtain ⟨n, xs, ht, rfl⟩ := h
  cases n with
  | zero => exact ht.elim
  | succ n =>
    simp only [Ty, hu] at ht
    obtain ⟨z, rfl⟩ := ht
    exact ⟨z, by simp [aggT, hu, elD]⟩
theorem arg_str (hu : P.underlying t = some .string) (h : Arg P t x) : ∃ s, x = .s s ∧ s.length ≤ Go.maxLen ∧ ∀ c ∈ s, c < 256 := by
  obtain ⟨n, xs, ht, rfl⟩ := h
  cases n with
  | zero => exact ht.elim
  | succ n =>
    simp only [Ty, hu] at ht
    obtain ⟨z, rfl, hw⟩ := ht
    exact ⟨z, by simp [aggT, hu, elD], hw⟩
theorem arg_slice (hu : P.underlying t = some (.slice e)) (h : Arg P t x) : x = .nil ∨ ∃ l : List D, x = .sl l ∧ l.length ≤ Go.maxLen ∧ ∀ y ∈ l, Arg P e y := by
  obtain ⟨n, xs, ht, rfl⟩ := h
  cases n with
  | zero => exact ht.elim
  | succ n =>
    simp only [Ty, hu] at ht
    rcases ht with rfl | ⟨yss, rfl, hl, hy⟩
    · exact .inl (by simp [aggT, hu, elD])
    · refine .inr ⟨yss.map (elD (aggT P e)), by simp [aggT, hu, elD], by simpa using hl, fun y hm => ?_⟩
      obtain ⟨q, hq, rfl⟩ := List.mem_map.1 hm
      exact ⟨n, q, hy q hq, rfl⟩
theorem map_of {α : Type} {f : α → D} : ∀ {l : List D}, (∀ y ∈ l, ∃ a, y = f a) → ∃ L : List α, l = L.map f
  | [], _ => ⟨[], rfl⟩
  | y :: l, h => by
    obtain ⟨a, ha⟩ := h y (by simp)
    obtain ⟨L, hL⟩ := map_of (l := l) (fun z hz => h z (by simp [hz]))
    exact ⟨a :: L, by simp [ha, hL]⟩
inductive SlD {α : Type} (e : α → D) : D → List α → Prop
  | nil : SlD e .nil []
  | sl (L : List α) : SlD e (.sl (L.map e)) L
theorem SlD.len {α : Type} {e : α → D} {x : D} {L : List α} (h : SlD e x L) {H : List Obj} : lenV .lenL (.d x) H = some (.d (.i .i64 L.length)) := by
  cases h with
  | nil => rfl
  | sl => simp [lenV]
theorem SlD.ix {α : Type} {e : α → D} {x : D} {L : List α} (h : SlD e x L) {k : IntKind} {n size : Nat} {y : α} (he : (e y).cells.length = size) (hn : L[n]? = some y) : iaV (.d x) (.d (.i k (n : Nat))) size none = some (.cp (e y)) := by
  cases h with
  | nil => simp at hn
  | sl => exact iaV_sl (by omega) (by simp [hn]) (by simp [he])
theorem arg_sl {α : Type} {f : α → D} (hu : P.underlying t = some (.slice e)) (h : Arg P t x) (he : ∀ y, Arg P e y → ∃ a, y = f a) : ∃ L, SlD f x L := by
  rcases arg_slice hu h with rfl | ⟨l, rfl, _, hl⟩
  · exact ⟨[], .nil⟩
  · obtain ⟨L, rfl⟩ := map_of (f := f) (fun y hy => he y (hl y hy))
    exact ⟨L, .sl L⟩
end W

/-
  Tables that the rows list are what the small semantics reads.
-/
set_option linter.unusedSimpArgs false
set_option linter.unusedVariables false
namespace W
open Go (World Value Addr IntKind Program TypeId FuncId Func DataW MemPlace Lit)
theorem cell_size {W : World} {b i : Nat} {v : Value} (h : W.cell? ⟨b, i, none⟩ = some v) : i < (g0 W).pub b := by
  show i < (match W.heap[b]? with | some (.cells c _ _) => c.size | _ => 0)
  simp only [World.cell?] at h
  split at h
  · rename_i c t f hb
    rw [hb]
    simp only [Option.isSome_none, Bool.false_eq_true, if_false] at h
    exact (Array.getElem?_eq_some_iff.1 h).1
  · cases h
theorem rep_ints {pub : Nat → Nat} {w : World} (k : IntKind) : ∀ zs : List Int, RepDL pub w (zs.map (D.i k)) (zs.map fun z => Value.int k z)
  | [] => .nil
  | z :: zs => .cons _ _ _ _ (.i k z) (rep_ints k zs)
theorem tabIs_mem {P : Program} {W : World} {name : String} {k : IntKind} {zs : List Int} {g : Nat} {t e : TypeId} {n : Nat}
    (hg : P.globalNamed name = some g) (hty : (P.globals[g]?).map (·.type) = some t) (ht : P.underlying t = some (.array n e)) (he : P.underlying e = some (.int k)) (hce : P.cellsOf e = 1) (hct : P.cellsOf t = n) :
    ∀ {laid : List (String × DataW Unit)} {ps : List MemPlace}, DataW.LaidVars P W laid ps → (name, Go.Lib.tabData k zs) ∈ laid → Go.Lib.TabIs P W name k zs
  | [], _, _, hm => by cases hm
  | (nm, d) :: rest, ps, h, hm => by
    obtain ⟨g', t', cs, fuel, p, q, hg', ht', hvar, hd, hrest, _⟩ := h
    rcases List.mem_cons.1 hm with e | hm
    · cases e
      obtain rfl := Option.some.inj (hg.symm.trans hg')
      obtain rfl := Option.some.inj (hty.symm.trans ht')
      unfold Go.Lib.TabIs
      rw [hvar, ← Go.Lib.cells_of_tab ht he hce hct hd]
    · exact tabIs_mem hg hty ht he hce hct hrest hm
theorem glOk_tabs {M : Maps} {P : Program} {W : World} (h2 : GlOk2 M (g0 W) W) (h : ∀ n x, look M.gl n = some x → ∃ name k zs, P.globalNamed name = some n ∧ x = .agg (zs.map (D.i k)) ∧ zs ≠ [] ∧ Go.Lib.TabIs P W name k zs) : GlOk M (g0 W) W := by
  refine ⟨?_, h2⟩
  intro n x hn
  obtain ⟨name, k, zs, hg, rfl, hne, ht⟩ := h n x hn
  refine ⟨zs.map fun z => Value.int k z, rep_ints k zs, fun j v hj => ?_, ?_⟩
  · have hlt : j < zs.length := by
      have := (List.getElem?_eq_some_iff.1 hj).1
      simpa using this
    rw [Nat.zero_add, ht.cell hg j hlt]
    have : (zs.map fun z => Value.int k z)[j]? = some (.int k (zs.getD j 0)) := by simp [List.getD, hlt]
    rw [this] at hj
    exact hj
  · have hpos : 0 < zs.length := by cases zs with | nil => exact absurd rfl hne | cons => simp
    have := cell_size (ht.cell hg (zs.length - 1) (by omega))
    simp only [List.length_map]
    omega
theorem ifc_mem {P : Program} {W : World} {name : String} {g t : Nat} {tn : String} {x : DataW Unit}
    (hg : P.globalNamed name = some g) (hty : (P.globals[g]?).map (·.type) = some t) (hct : P.cellsOf t = 1) :
    ∀ {laid : List (String × DataW Unit)} {ps : List MemPlace}, DataW.LaidVars P W laid ps → (name, DataW.iface tn x) ∈ laid → (∃ ev, W.cell? ⟨g, 0, none⟩ = some ev ∧ (ev = .nilIface ∨ ∃ te pe, ev = .iface te pe)) ∧ 0 < (g0 W).pub g
  | [], _, _, hm => by cases hm
  | (nm, d) :: rest, ps, h, hm => by
    obtain ⟨g', t', cs, fuel, p, q, hg', ht', hvar, hd, hrest, _⟩ := h
    rcases List.mem_cons.1 hm with e | hm
    · cases e
      obtain rfl := Option.some.inj (hg.symm.trans hg')
      obtain rfl := Option.some.inj (hty.symm.trans ht')
      have hcs : ∃ u v, cs.toList = [.iface u v] := by
        generalize hl : cs.toList = l at hd
        cases fuel with
        | zero => simp [DataW.trod] at hd
        | succ fuel =>
          unfold DataW.trod at hd
          split at hd
          all_goals try (exact ⟨_, _, rfl⟩)
          all_goals exfalso
          all_goals try (cases hd; done)
          all_goals try (simp only [Option.map_eq_some_iff, Option.bind_eq_some_iff, Prod.mk.injEq, reduceCtorEq, false_and, and_false, exists_false, exists_const] at hd; done)
          all_goals try split at hd
          all_goals try (cases hd; done)
          all_goals try (simp only [Option.map_eq_some_iff, Option.bind_eq_some_iff, Prod.mk.injEq, reduceCtorEq, false_and, and_false, exists_false, exists_const] at hd; done)
          all_goals try split at hd
          all_goals try (cases hd; done)
          all_goals try (simp only [Option.map_eq_some_iff, Option.bind_eq_some_iff, Prod.mk.injEq, reduceCtorEq, false_and, and_false, exists_false, exists_const] at hd; done)
          all_goals (obtain ⟨en, _, hd⟩ := Option.bind_eq_some_iff.1 hd; simp only at hd; split at hd <;> cases hd)
      obtain ⟨u, v, hcs⟩ := hcs
      have hc1 : cs = #[.iface u v] := by rw [← Array.toList_inj]; exact hcs
      subst hc1
      have hh : ∃ T f, W.heap[g]? = some (.cells #[.iface u v] T f) := by
        simp only [World.var?, hg, Option.bind_some] at hvar
        split at hvar
        · rename_i cs' T f he
          simp only [Option.some.injEq] at hvar
          subst hvar
          exact ⟨T, f, he⟩
        · cases hvar
      obtain ⟨T, f, hh⟩ := hh
      refine ⟨⟨.iface u v, ?_, .inr ⟨u, v, rfl⟩⟩, ?_⟩
      · simp [World.cell?, hh]
      · simp [g0, hh]
    · exact ifc_mem hg hty hct hrest hm
end W

