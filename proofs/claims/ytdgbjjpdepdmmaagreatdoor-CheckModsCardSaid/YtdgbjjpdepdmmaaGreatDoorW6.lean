/-
  A module is looked at beside others: what it imports is there, and exported; both checkers, of every mask, use and import.: part 6 of what the proof rests on (a value semantics for a part of the language, sound against the model; the walks).
-/
import Derived.Below
import Derived.Test.YtdgbjjpdepdmmaaGreatDoorW5
/-
  Regions whose order is open: whatever the order, the same.
-/
set_option linter.unusedSimpArgs false
set_option linter.unusedVariables false
open Bool renaming false_eq_true → qFs, and_eq_true → qFt, cond_eq_ite → qFA, and_self → qFD, or_true → qFE, or_self → qFM, not_true → qFO
open List renaming getElem?_cons_zero → qFu, getElem?_cons_succ → qFy, map_cons → qFz, length_cons → qFF, length_nil → qFG, map_nil → qFI, set_cons_zero → qFJ, set_cons_succ → qFL, take_succ_cons → qFP, drop_zero → qFQ
open Option renaming map_some → qFv, bind_eq_some_iff → qFB, bind_eq_bind → qFH, pure_def → qFN
open Nat renaming le_refl → qFw, beq → qFx, zero_add → qFC, eq_of_beq_eq_true → qFK
namespace W
open Go (IntKind BinOp UnOp Oper)
abbrev El := Op × Bool × List Nat
def qiY (call : Call) (x : El) (st : St) : Option St :=
  match wanted x.1.g st.env with
  | some true => match kc call x.1.k st with
    | some r => bif r.pan || !(r.same || x.2.1) then none else qfp (qsu x.1.k) x.2.2 x.1.dst r.v r.st
    | none => none
  | some false => some (put x.1.dst (.tup []) st)
  | none => none
def qnr (call : Call) : List El → St → Option St
  | [], st => some st
  | x :: l, st => match qiY call x st with
    | some st' => qnr call l st'
    | none => none
theorem qft {call : Call} : ∀ {l : List El} {st : St} {e : Ex} {st' : St}, zZ call l st = some (e, st') → e = .nrm ∧ qnr call l st = some st'
  | [], st, e, st', h => by simp only [zZ, Option.some.injEq, Prod.mk.injEq] at h; exact ⟨h.1.symm, by rw [← h.2]; rfl⟩
  | (o, s, no) :: l, st, e, st', h => by
    simp only [zZ] at h
    simp only [qnr, qiY]
    split at h
    · rename_i hw
      simp only [hw]
      split at h
      · rename_i r hr
        simp only [hr]
        rw [qFA] at h ⊢
        split at h
        · cases h
        · rename_i hp
          rw [if_neg hp]
          split at h
          · rename_i st1 h1
            simp only [h1]
            exact qft h
          · cases h
      · cases h
    · rename_i hw
      simp only [hw]
      exact qft h
    · cases h
structure Eqv (st st2 : St) : Prop where
  e : ∀ k, get k st2.env = get k st.env
  H : st2.H = st.H
  lp : ∀ n, qbm n st2.env = qbm n st.env
theorem Eqv.refl (st : St) : Eqv st st := ⟨fun _ => rfl, rfl, fun _ => rfl⟩
theorem Eqv.trans {a b c : St} (h : Eqv a b) (h' : Eqv b c) : Eqv a c := ⟨fun k => (h'.e k).trans (h.e k), h'.H.trans h.H, fun n => (h'.lp n).trans (h.lp n)⟩
structure FrD (x : El) (st st2 st1 st1' : St) (b : Nat → Bool) : Prop where
  inn : ∀ s, s ∈ x.1.wr → get s st1'.env = get s st1.env
  out1 : ∀ s, s ∉ x.1.wr → get s st1.env = get s st.env
  out2 : ∀ s, s ∉ x.1.wr → get s st1'.env = get s st2.env
  H1 : x.2.1 = false → st1.H = st.H ∧ st1'.H = st2.H
  H2 : st2.H = st.H → st1'.H = st1.H
  lp : ∀ n, qbm n st1.env = (qbm n st.env && b n)
  lp2 : ∀ n, qbm n st1'.env = (qbm n st2.env && b n)
  no : ∀ n, qel n x.2.2 = true → b n = true
theorem qqD {n : Nat} : ∀ {l : List Nat}, n ∈ l → qel n l = true
  | m :: l, h => by
    simp only [qel, Bool.or_eq_true]
    rcases List.mem_cons.1 h with e | h
    · subst e; exact .inl (by simp)
    · exact .inr (qqD h)
theorem qs8 {g : Option (Nat × Bool)} {e e2 : Env} (h : ∀ n w, g = some (n, w) → get n e2 = get n e) : wanted g e2 = wanted g e := by
  cases g with
  | none => rfl
  | some nw => obtain ⟨n, w⟩ := nw; simp only [wanted]; rw [h n w rfl]
theorem qzg {o : Op} {s : Nat} (h : s ∈ jr o.k.rds ∨ s ∈ o.k.boxR) : s ∈ o.re := by
  unfold Op.re
  simp only [List.mem_append]
  rcases h with h | h
  · exact .inr (.inl h)
  · exact .inr (.inr (.inl h))
theorem qto {o : Op} {s : Nat} (h : s ∈ o.k.boxW) : s ∈ o.re := by
  unfold Op.re
  simp only [List.mem_append]
  exact .inr (.inr (.inr h))
theorem qza {o : Op} {n : Nat} {w : Bool} (h : o.g = some (n, w)) : n ∈ o.re := by
  unfold Op.re; rw [h]; simp
theorem frD {call : Call} (hc : yL call) {x : El} {st st2 st1 : St} (h : qiY call x st = some st1) (hfl : x.2.1 = false → x.1.k.free = true) (hs : ∀ s, s ∈ x.1.re → get s st2.env = get s st.env) (hH : x.1.k.looks = true → st2.H = st.H)
    (hbx : ∀ n, n ∈ qiA x.1 → qbm n st.env = true → qbm n st2.env = true) : ∃ st1' b, qiY call x st2 = some st1' ∧ FrD x st st2 st1 st1' b := by
  unfold qiY at h ⊢
  rw [qs8 (e := st.env) (fun n w hg => hs n (qza hg))]
  split at h
  · rename_i hw
    (try simp only [hw])
    split at h
    · rename_i r hr
      obtain ⟨r2, hr2, F⟩ := qyU hc hr (fun s h => hs s (qzg h)) hH
      simp only [hr2]
      rw [qFA] at h ⊢
      rw [F.pan, F.same]
      split at h
      · cases h
      · rename_i hp
        rw [if_neg hp]
        have hsame : x.2.1 = false → r.same = true := fun hf => by
          simp only [Bool.or_eq_true, not_or, Bool.not_eq_true', hf, Bool.or_false] at hp
          simpa using hp.2
        have done : ∀ {v : V} {b : Nat → Bool} {n : Nat}, x.1.dst = some n → (∀ m (e : Env), qbm m ((n, v) :: e) = (qbm m e && b m)) → (∀ m, qel m x.2.2 = true → b m = true) →
            FrD x st st2 { r.st with env := (n, v) :: r.st.env } { r2.st with env := (n, v) :: r2.st.env } b := by
          intro v b n hdst hb hno
          have hwr : ∀ s, s ∈ x.1.wr ↔ s = n ∨ s ∈ x.1.k.boxW := fun s => by unfold Op.wr; rw [hdst]; simp
          refine ⟨fun s hs => ?_, fun s hs => ?_, fun s hs => ?_, fun hf => F.H1 (hfl hf) (hsame hf), F.H2, fun m => ?_, fun m => ?_, hno⟩
          · show get s ((n, v) :: r2.st.env) = get s ((n, v) :: r.st.env)
            rw [z6, z6]
            split
            · rfl
            · rename_i hne; exact F.inn s (((hwr s).1 hs).resolve_left hne)
          · rw [hwr, not_or] at hs
            show get s ((n, v) :: r.st.env) = _
            rw [z6, if_neg hs.1]; exact F.out1 s hs.2
          · rw [hwr, not_or] at hs
            show get s ((n, v) :: r2.st.env) = _
            rw [z6, if_neg hs.1]; exact F.out2 s hs.2
          · show qbm m ((n, v) :: r.st.env) = _
            rw [hb, F.lp]
          · show qbm m ((n, v) :: r2.st.env) = _
            rw [hb, F.lp2]
        unfold qfp at h ⊢
        rw [F.v]
        cases hdst : x.1.dst with
        | none =>
          rw [hdst] at h
          simp only [Option.some.injEq] at h
          subst h
          have hwr : ∀ s, s ∈ x.1.wr ↔ s ∈ x.1.k.boxW := fun s => by unfold Op.wr; rw [hdst]; simp
          exact ⟨_, fun _ => true, rfl, fun s hs => F.inn s ((hwr s).1 hs), fun s hs => F.out1 s (fun h => hs ((hwr s).2 h)), fun s hs => F.out2 s (fun h => hs ((hwr s).2 h)), fun hf => F.H1 (hfl hf) (hsame hf), F.H2,
            fun n => by rw [F.lp]; simp, fun n => by rw [F.lp2]; simp, fun _ _ => rfl⟩
        | some n =>
          rw [hdst] at h
          simp only at h ⊢
          split at h
          · rename_i cs hv
            rw [qFA] at h
            split at h
            · rename_i hb
              simp only [Option.some.injEq] at h
              subst h
              simp only [qFt] at hb
              have hb2 : (qsu x.1.k && qbm n r2.st.env) = true := by
                rw [qFt]
                refine ⟨hb.1, ?_⟩
                rw [F.lp2]
                exact hbx n (by unfold qiA; rw [hb.1, hdst]; simp) (by rw [← F.lp]; exact hb.2)
              rw [hb2]
              simp only [cond_true]
              exact ⟨_, fun _ => true, rfl, done hdst (fun m e => by simp [qbm]) (fun _ _ => rfl)⟩
            · cases h
          · rename_i m o hv
            rw [qFA] at h
            split at h
            · cases h
            · rename_i hb
              simp only [Option.some.injEq] at h
              subst h
              have hb' : qel m x.2.2 = false := by simpa using hb
              simp only [hb', cond_false]
              refine ⟨_, fun k => !Nat.beq m k, rfl, done hdst (fun k e => by simp only [qbm]; rw [Bool.and_comm]) (fun k hk => ?_)⟩
              cases hq : qFx m k with
              | false => rfl
              | true =>
                have := qFK hq
                subst this
                rw [hb'] at hk; cases hk
          · rename_i h1 h2
            simp only [Option.some.injEq] at h
            subst h
            refine ⟨_, fun _ => true, rfl, ?_⟩
            exact done hdst (fun m e => by rw [qxK (fun k o => h2 k o)]; simp) (fun _ _ => rfl)
    · cases h
  · rename_i hw
    (try simp only [hw])
    simp only [Option.some.injEq] at h
    subst h
    cases hdst : x.1.dst with
    | none =>
      refine ⟨_, fun _ => true, rfl, fun s hs' => ?_, fun s _ => rfl, fun s _ => rfl, fun _ => ⟨rfl, rfl⟩, fun h => h, fun n => by simp [put], fun n => by simp [put], fun _ _ => rfl⟩
      unfold Op.wr at hs'
      rw [hdst] at hs'
      exact hs s (qto (by simpa using hs'))
    | some n =>
      have hwr : ∀ s, s ∈ x.1.wr ↔ s = n ∨ s ∈ x.1.k.boxW := fun s => by unfold Op.wr; rw [hdst]; simp
      refine ⟨_, fun _ => true, rfl, fun s hs' => ?_, fun s hs' => ?_, fun s hs' => ?_, fun _ => ⟨rfl, rfl⟩, fun h => h, fun m => by simp [put, qbm], fun m => by simp [put, qbm], fun _ _ => rfl⟩
      · show get s ((n, .tup []) :: st2.env) = get s ((n, .tup []) :: st.env)
        rw [z6, z6]
        split
        · rfl
        · rename_i hne; exact hs s (qto (((hwr s).1 hs').resolve_left hne))
      · rw [hwr, not_or] at hs'
        show get s ((n, .tup []) :: st.env) = _
        rw [z6, if_neg hs'.1]
      · rw [hwr, not_or] at hs'
        show get s ((n, .tup []) :: st2.env) = _
        rw [z6, if_neg hs'.1]
  · cases h
theorem qoP {a b : List Nat} (h : meets a b = false) : ∀ n, n ∈ a → n ∉ b := by
  intro n hn hb
  simp only [meets, List.any_eq_false] at h
  exact h n hn (by simpa using hb)
structure Apart (o o' : Op) : Prop where
  f1 : o.k.free = true ∨ (o'.k.looks = false ∧ o'.k.free = true)
  f2 : o'.k.free = true ∨ (o.k.looks = false ∧ o.k.free = true)
  w1 : ∀ n, n ∈ o.wr → n ∉ o'.wr ∧ n ∉ o'.re
  w2 : ∀ n, n ∈ o'.wr → n ∉ o.wr ∧ n ∉ o.re
theorem qqo {o o' : Op} (h : apart o o' = true) : Apart o o' := by
  simp only [apart, qFt, Bool.not_eq_true', Bool.and_eq_false_iff, Bool.or_eq_false_iff, Bool.not_eq_false'] at h
  obtain ⟨⟨⟨h1, h2⟩, h3⟩, h4⟩ := h
  refine ⟨by rcases h1 with h | h; exact .inl h; exact .inr h, by rcases h2 with h | h; exact .inl h; exact .inr h, fun n hn => ?_, fun n hn => ?_⟩
  · have := qoP h3 n hn
    simpa [not_or] using this
  · have := qoP h4 n hn
    simpa [not_or] using this
theorem commute {call : Call} (hc : yL call) {x y : El} {st st1 st2 : St} (hx : qiY call x st = some st1) (hy : qiY call y st1 = some st2) (lx : x.2.1 = false → x.1.k.free = true) (ly : y.2.1 = false → y.1.k.free = true) (fx : x.2.1 = false ∨ (y.1.k.looks = false ∧ y.2.1 = false)) (fy : y.2.1 = false ∨ (x.1.k.looks = false ∧ x.2.1 = false)) (hap : Apart x.1 y.1)
    (hno : ∀ n, n ∈ qiA x.1 → qel n y.2.2 = true) : ∃ st1' st2', qiY call y st = some st1' ∧ qiY call x st1' = some st2' ∧ Eqv st2 st2' := by
  -- x, once more in its own state: what it changes
  obtain ⟨_, bx, hx0, Fx⟩ := frD hc (st2 := st) hx lx (fun _ _ => rfl) (fun _ => rfl) (fun _ _ h => h)
  rw [hx] at hx0
  cases hx0
  -- y ahead
  obtain ⟨st1', by_, hy', Fy⟩ := frD hc (st2 := st) hy ly (fun s hs => (Fx.out1 s (fun h => (hap.w1 s h).2 hs)).symm) (fun hl => by
      rcases fx with h | h
      · exact (Fx.H1 h).1.symm
      · rw [h.1] at hl; cases hl) (fun n hn h => by
      rw [Fx.lp] at h; simp only [qFt] at h; exact h.1)
  -- x behind it
  obtain ⟨st2', b3, hx', Fx'⟩ := frD hc (st2 := st1') hx lx (fun s hs => Fy.out2 s (fun h => (hap.w2 s h).2 hs)) (fun hl => by
      rcases fy with h | h
      · exact (Fy.H1 h).2
      · rw [h.1] at hl; cases hl) (fun n hn h => by
      rw [Fy.lp2, h, Fy.no n (hno n hn)]; rfl)
  refine ⟨st1', st2', hy', hx', fun s => ?_, ?_, fun n => ?_⟩
  · by_cases h1 : s ∈ x.1.wr
    · have h2 : s ∉ y.1.wr := (hap.w1 s h1).1
      rw [Fx'.inn s h1, Fy.out1 s h2]
    · rw [Fx'.out2 s h1]
      by_cases h2 : s ∈ y.1.wr
      · rw [Fy.inn s h2]
      · rw [Fy.out2 s h2, Fy.out1 s h2, Fx.out1 s h1]
  · rcases fx with h | h
    · -- x leaves the objects alone
      rw [(Fx'.H1 h).2]
      exact Fy.H2 (Fx.H1 h).1.symm
    · rw [(Fy.H1 h.2).1]
      exact Fx'.H2 (Fy.H1 h.2).2
  · rw [Fx'.lp2, Fy.lp2, Fy.lp, Fx.lp]
    -- what x adds is the same
    have e : (qbm n st.env && bx n) = (qbm n st.env && b3 n) := by rw [← Fx.lp, ← Fx'.lp]
    cases h1 : qbm n st.env with
    | false => simp
    | true =>
      rw [h1] at e
      simp only [Bool.true_and] at e ⊢
      rw [e, Bool.and_comm]
theorem qyq {call : Call} (hc : yL call) {x : El} {st st2 st1 : St} (h : qiY call x st = some st1) (lx : x.2.1 = false → x.1.k.free = true) (he : Eqv st st2) : ∃ st1', qiY call x st2 = some st1' ∧ Eqv st1 st1' := by
  obtain ⟨st1', b, h1, F⟩ := frD hc h lx (fun s _ => he.e s) (fun _ => he.H) (fun n _ h => by rw [he.lp]; exact h)
  refine ⟨st1', h1, fun s => ?_, F.H2 he.H, fun n => by rw [F.lp, F.lp2, he.lp]⟩
  by_cases hs : s ∈ x.1.wr
  · exact F.inn s hs
  · rw [F.out2 s hs, F.out1 s hs, he.e]
theorem quB {call : Call} (hc : yL call) : ∀ {l : List El} {st st2 stF : St}, (∀ x ∈ l, x.2.1 = false → x.1.k.free = true) → qnr call l st = some stF → Eqv st st2 → ∃ stF2, qnr call l st2 = some stF2 ∧ Eqv stF stF2
  | [], st, st2, stF, _, h, he => by simp only [qnr, Option.some.injEq] at h; subst h; exact ⟨st2, rfl, he⟩
  | x :: l, st, st2, stF, hf, h, he => by
    simp only [qnr] at h ⊢
    split at h
    · rename_i st1 h1
      obtain ⟨st1', h2, he2⟩ := qyq hc h1 (hf x (by simp)) he
      simp only [h2]
      exact quB hc (fun y hy => hf y (by simp [hy])) h he2
    · cases h
theorem quN {call : Call} (hc : yL call) {x : El} {post : List El} : ∀ {pre : List El} {st stF : St}, (∀ y ∈ pre ++ x :: post, y.2.1 = false → y.1.k.free = true) → (∀ y ∈ pre, (y.2.1 = false ∨ (x.1.k.looks = false ∧ x.2.1 = false)) ∧ (x.2.1 = false ∨ (y.1.k.looks = false ∧ y.2.1 = false))) → (∀ y ∈ pre, Apart y.1 x.1 ∧ ∀ n, n ∈ qiA y.1 → qel n x.2.2 = true) →
    qnr call (pre ++ x :: post) st = some stF → ∃ st1 stF', qiY call x st = some st1 ∧ qnr call (pre ++ post) st1 = some stF' ∧ Eqv stF stF'
  | [], st, stF, _, hf, _, h => by
    simp only [List.nil_append, qnr] at h
    split at h
    · rename_i st1 h1
      exact ⟨st1, stF, h1, h, Eqv.refl _⟩
    · cases h
  | y :: pre, st, stF, hl, hf, ha, h => by
    simp only [List.cons_append, qnr] at h
    split at h
    · rename_i sty hy
      obtain ⟨stx, stF1, h1, h2, h3⟩ := quN hc (pre := pre) (fun z hz => hl z (by simp only [List.cons_append, List.mem_cons]; exact .inr hz)) (fun z hz => hf z (by simp [hz])) (fun z hz => ha z (by simp [hz])) h
      obtain ⟨st1', st2', h4, h5, h6⟩ := commute hc hy h1 (hl y (by simp)) (hl x (by simp)) (hf y (by simp)).1 (hf y (by simp)).2 (ha y (by simp)).1 (ha y (by simp)).2
      obtain ⟨stF2, h7, h8⟩ := quB hc (fun z hz => hl z (by
        simp only [List.cons_append, List.mem_cons, List.mem_append] at hz ⊢
        rcases hz with h | h
        · exact .inr (.inl h)
        · exact .inr (.inr (.inr h)))) h2 h6
      refine ⟨st1', stF2, h4, ?_, h3.trans h8⟩
      simp only [List.cons_append, qnr, h5]
      exact h7
    · cases h
end W

/-
  Regions whose order is open: simulated.
-/
set_option linter.unusedSimpArgs false
set_option linter.unusedVariables false
namespace W
open Go (World Value Addr IntKind Program TypeId FuncId Operand Act Oper Next Result Sem BinOp UnOp Ending Exit Code Func Fence)
def qcV (acc : Array Nat) (o : Oper) : Array Nat :=
  acc.push (o.after.foldl (fun s e => if Go.Region.binds .any e then s ||| 2 ^ e.on ||| acc.getD e.on 0 else s) 0)
theorem qyF (ops : Array Oper) : Go.Region.before ops = ops.toList.foldl qcV #[] := by
  unfold Go.Region.before
  rw [← Array.foldl_toList]
  rfl
theorem qn0 (acc : Array Nat) : ∀ (l : List Go.Edge) (s j : Nat), (l.foldl (fun s e => if Go.Region.binds .any e then s ||| 2 ^ e.on ||| acc.getD e.on 0 else s) s).testBit j = true →
    s.testBit j = true ∨ ∃ e ∈ l, Go.Region.binds .any e = true ∧ (e.on = j ∨ (acc.getD e.on 0).testBit j = true)
  | [], s, j, h => .inl h
  | e :: l, s, j, h => by
    simp only [List.foldl_cons] at h
    rcases qn0 acc l _ j h with h | ⟨e', he', hb, hj⟩
    · split at h
      · rename_i hb
        simp only [Nat.testBit_or, Bool.or_eq_true] at h
        rcases h with (h | h) | h
        · exact .inl h
        · rw [Nat.testBit_two_pow] at h
          exact .inr ⟨e, by simp, hb, .inl (by simpa using h)⟩
        · exact .inr ⟨e, by simp, hb, .inr h⟩
      · exact .inl h
    · exact .inr ⟨e', by simp [he'], hb, hj⟩
theorem qs4 : ∀ (l : List Oper) (acc : Array Nat) (i : Nat), i < acc.size → (l.foldl qcV acc).getD i 0 = acc.getD i 0
  | [], acc, i, _ => rfl
  | o :: l, acc, i, h => by
    simp only [List.foldl_cons]
    rw [qs4 l _ i (by simp [qcV]; omega)]
    simp only [qcV, Array.getD_eq_getD_getElem?, Array.getElem?_push]
    rw [if_neg (by omega)]
theorem qwz : ∀ (l : List Oper) (acc : Array Nat) (k : Nat) (o : Oper), l[k]? = some o → ∀ j, ((l.foldl qcV acc).getD (acc.size + k) 0).testBit j = true →
    ∃ e ∈ o.after.toList, Go.Region.binds .any e = true ∧ (e.on = j ∨ ((l.foldl qcV acc).getD e.on 0).testBit j = true)
  | [], acc, k, o, h, j, _ => by simp at h
  | o' :: l, acc, 0, o, h, j, hb => by
    simp at h; subst h
    simp only [List.foldl_cons, Nat.add_zero] at hb
    rw [qs4 l _ acc.size (by simp [qcV])] at hb
    have e0 : (qcV acc o').getD acc.size 0 = o'.after.foldl (fun s e => if Go.Region.binds .any e then s ||| 2 ^ e.on ||| acc.getD e.on 0 else s) 0 := by
      simp [qcV]
    rw [e0, ← Array.foldl_toList] at hb
    rcases qn0 acc _ _ j hb with h | ⟨e, he, hbi, hj⟩
    · simp at h
    · refine ⟨e, he, hbi, hj.imp id (fun h => ?_)⟩
      have hlt : e.on < acc.size := by
        rcases Nat.lt_or_ge e.on acc.size with h1 | h1
        · exact h1
        · rw [Array.getD_eq_getD_getElem?, Array.getElem?_eq_none (by omega)] at h
          simp at h
      rw [qs4 (o' :: l) acc e.on hlt]
      exact h
  | o' :: l, acc, k + 1, o, h, j, hb => by
    simp only [List.foldl_cons] at hb ⊢
    have hs : (qcV acc o').size = acc.size + 1 := by simp [qcV]
    have := qwz l (qcV acc o') k o (by simpa using h) j (by rw [hs, show acc.size + 1 + k = acc.size + (k + 1) by omega]; exact hb)
    exact this
theorem quQ {ops : Array Oper} {i : Nat} {o : Oper} (h : ops[i]? = some o) {j : Nat} (hb : ((Go.Region.before ops).getD i 0).testBit j = true) :
    ∃ e ∈ o.after.toList, Go.Region.binds .any e = true ∧ (e.on = j ∨ ((Go.Region.before ops).getD e.on 0).testBit j = true) := by
  rw [qyF] at hb ⊢
  exact qwz ops.toList #[] i o (by simpa using h) j (by simpa using hb)
section
variable {P : Program} {M : Maps} {call : Call}
theorem qlK {A : Ann} {rid : Nat} {ops : Array Oper} : ∀ {rest : List Oper} {i : Nat} {l : List Op}, qbt M P A rid ops i rest = some l → l.length = rest.length ∧ ∀ k o, rest[k]? = some o → ∃ q, l[k]? = some q ∧ q.dst = o.dst ∧ gOf ops o.guard = some q.g ∧
    q.k = qcQ (qaC M P A (fun k' => (mvs A rid (i + k)).contains k') (match o.dst with | some d => A.loc.contains d | none => false) o.op)
  | [], i, l, h => by simp only [qbt, Option.some.injEq] at h; subst h; exact ⟨rfl, fun k o h => by simp at h⟩
  | o' :: rest, i, l, h => by
    simp only [qbt] at h
    split at h
    · rename_i g' r hg hr
      simp only [Option.some.injEq] at h
      subst h
      obtain ⟨h1, h2⟩ := qlK hr
      refine ⟨by simp [h1], fun k o ho => ?_⟩
      cases k with
      | zero =>
        simp at ho
        subst ho
        exact ⟨_, rfl, rfl, hg, rfl⟩
      | succ k =>
        obtain ⟨q, q1, q2, q3, q4⟩ := h2 k o (by simpa using ho)
        exact ⟨q, by simpa using q1, q2, q3, by rw [show i + (k + 1) = i + 1 + k by omega]; exact q4⟩
    · cases h
theorem qvJ {k : OpK} (h : k.looks = false) : k.isCall = false := by cases k <;> first | rfl | cases h
theorem qq3 {ops : Array Oper} {l : List Op} {o o' : Op} {i j : Nat} (ha : o.k.free = true ∨ (o'.k.looks = false ∧ o'.k.free = true)) (s1 : qgh ops l.length i = false) (s2 : qgh ops l.length j = false) (hc : qjx ops l i = true → o'.k.looks = false ∧ o'.k.free = true) :
    qcG ops l o i = false ∨ (o'.k.looks = false ∧ qcG ops l o' j = false) := by
  have right : o'.k.looks = false ∧ o'.k.free = true → o'.k.looks = false ∧ qcG ops l o' j = false := fun h => ⟨h.1, by
    unfold qcG
    rw [h.2, s2, qvJ h.1]; rfl⟩
  rcases ha with ha | ha
  · cases h : qjx ops l i with
    | true => exact .inr (right (hc h))
    | false =>
      left
      unfold qcG
      rw [ha, s1, h]; simp
  · exact .inr (right ha)
def qdY (ops : Array Oper) (l : List Op) (i : Nat) : El := (l.getD i default, qcG ops l (l.getD i default) i, qju ops l i)
theorem qxf (ops : Array Oper) (l : List Op) : (l.zipIdx.map fun (o, i) => (o, qcG ops l o i, qju ops l i)) = (List.range l.length).map (qdY ops l) := by
  apply List.ext_getElem?
  intro k
  simp only [List.getElem?_map, List.getElem?_zipIdx, List.getElem?_range']
  by_cases hk : k < l.length
  · rw [List.getElem?_range hk]
    simp [hk, qdY]
  · rw [List.getElem?_eq_none (by omega), List.getElem?_eq_none (by simp; omega)]
    rfl
theorem qo8 {n : Nat} : ∀ {e : Env}, qbm n e = true → qeo n e = e
  | [], _ => rfl
  | (m, v) :: e, h => by
    have h2 : qbm n e = true := by
      cases v <;> first | exact h | (simp only [qbm, qFt] at h; exact h.2)
    simp only [qeo, qo8 h2]
    cases v with
    | lp t o =>
      simp only [qbm, qFt, Bool.not_eq_true'] at h
      simp [h.1]
    | _ => rfl
theorem qAb {bx : Bool} {no : List Nat} {dst : Option Nat} {v : V} {st st' : St} (h : qfp bx no dst v st = some st') : put dst v st = st' := by
  unfold qfp at h
  cases dst with
  | none => simpa [put] using h
  | some n =>
    simp only at h
    split at h
    · rw [qFA] at h
      split at h
      · rename_i hb
        simp only [Option.some.injEq] at h
        simp only [qFt] at hb
        rw [← h]
        simp only [put, qo8 hb.2]
      · cases h
    · rw [qFA] at h
      split at h
      · cases h
      · simpa [put] using h
    · rename_i hb _
      simp only [Option.some.injEq] at h
      rw [← h, qaS (fun cs e => hb cs e)]
def rem (n : Nat) (listed : Array Bool) : List Nat := (List.range n).filter fun i => !listed.getD i true
theorem qjt (n : Nat) (listed : Array Bool) : (rem n listed).Pairwise (· < ·) := (List.pairwise_lt_range).filter _
theorem qcS {n i : Nat} {listed : Array Bool} : i ∈ rem n listed ↔ i < n ∧ listed.getD i true = false := by
  simp [rem, List.mem_filter]
theorem qw1 {n i : Nat} {listed : Array Bool} (hs : listed.size = n) {pre post : List Nat} (h : rem n listed = pre ++ i :: post) : rem n (listed.setIfInBounds i true) = pre ++ post := by
  have hi : i < listed.size := by
    have : i ∈ rem n listed := by rw [h]; simp
    rw [hs]; exact (qcS.1 this).1
  have e : rem n (listed.setIfInBounds i true) = (rem n listed).filter (fun k => k != i) := by
    unfold rem
    rw [List.filter_filter]
    apply List.filter_congr
    intro k hk
    by_cases hki : k = i
    · subst hki; simp [hi]
    · have : i ≠ k := fun e => hki e.symm
      simp [Array.getElem?_setIfInBounds_ne this, hki]
  rw [e, h]
  have hp := qjt n listed
  rw [h] at hp
  rw [List.pairwise_append] at hp
  obtain ⟨_, h2, h3⟩ := hp
  rw [List.pairwise_cons] at h2
  rw [List.filter_append, List.filter_cons]
  simp only [bne_self_eq_false, qFs, if_false]
  congr 1
  · rw [List.filter_eq_self]
    intro k hk
    have := h3 k hk i (by simp)
    simp; omega
  · rw [List.filter_eq_self]
    intro k hk
    have := h2.1 k hk
    simp; omega
theorem qtV {ops : Array Oper} (hlex : qvL ops = true) {listed : Array Bool} (hs : listed.size = ops.size) (hr : Go.Region.ready .any ops listed = []) : rem ops.size listed = [] := by
  cases hq : rem ops.size listed with
  | nil => rfl
  | cons i t =>
    exfalso
    have hi : i ∈ rem ops.size listed := by rw [hq]; simp
    obtain ⟨h1, h2⟩ := qcS.1 hi
    have : i ∈ Go.Region.ready .any ops listed := by
      rw [Go.mem_ready]
      refine ⟨h2, ops[i], by simp [h1], fun e he hb => ?_⟩
      simp only [qvL, List.all_eq_true] at hlex
      have h3 := hlex (ops[i], i) (by rw [List.mem_zipIdx_iff_getElem?]; simp [h1]) e (by simpa using he)
      simp only [hb, qFO, Bool.false_or, Nat.blt_eq] at h3
      -- it's smaller: listed
      cases hl : listed.getD e.on false with
      | true => rfl
      | false =>
        exfalso
        have : e.on ∈ rem ops.size listed := qcS.2 ⟨by omega, by
          have hlt : e.on < listed.size := by omega
          simp only [Array.getD_eq_getD_getElem?, Array.getElem?_eq_getElem hlt, Option.getD_some] at hl ⊢
          exact hl⟩
        have hp := qjt ops.size listed
        rw [hq] at this hp
        rcases List.mem_cons.1 this with h | h
        · omega
        · have := (List.pairwise_cons.1 hp).1 _ h; omega
    rw [hr] at this
    cases this
theorem qn9 {ops : Array Oper} {listed : Array Bool} (hrem : rem ops.size listed = []) : Go.Region.ready .any ops listed = [] := by
  cases hq : Go.Region.ready .any ops listed with
  | nil => rfl
  | cons i t =>
    exfalso
    have hi : i ∈ Go.Region.ready .any ops listed := by rw [hq]; simp
    rw [Go.mem_ready] at hi
    obtain ⟨h1, o, ho, _⟩ := hi
    have : i ∈ rem ops.size listed := qcS.2 ⟨(Array.getElem?_eq_some_iff.1 ho).1, h1⟩
    rw [hrem] at this; cases this
theorem qwD (hcs : yU P M call) (hlo : yL call) {F : Fence} (hF : WF F) {m : Nat} {A : Ann} {rid nt : Nat} {ops : Array Oper} {l : List Op} (htr : qbt M P A rid ops 0 ops.toList = some l) (hlex : qvL ops = true) (hord : qjq ops l = true)
    (hdst : ∀ o ∈ ops.toList, ∀ d, o.dst = some d → d < nt) (hnd : ∀ o ∈ ops.toList, F.round = none ∨ qiX o.op) (tl : List Nat) (htl : ∀ z ∈ tl, ∀ j, j < z → ((Go.Region.before ops).getD z 0).testBit j = true) : ∀ (fuel : Nat) (front : List Nat) (listed : Array Bool), listed.size = ops.size → rem ops.size listed = front ++ tl → front.length = fuel →
      (∀ x, listed.getD x false = true → ∀ j, ((Go.Region.before ops).getD x 0).testBit j = true → listed.getD j false = true) →
    ∀ (st stF : St) (g : Gh) (w : World) (β : Nat → Nat) (a : Act), nt ≤ a.tmps.size → qnr call (front.map (qdY ops l)) st = some stF → Rel M g w β st a.tmps →
    ∀ Q : Exit → Act → World → Prop, (∀ listed' a' w' st', listed'.size = ops.size → rem ops.size listed' = tl → (∀ x, listed'.getD x false = true → ∀ j, ((Go.Region.before ops).getD x 0).testBit j = true → listed'.getD j false = true) → Eqv stF st' → Good True M g w a st' a' w' → Go.wpAnyIn F m P .any ops Q tl.length listed' a' w') → Go.wpAnyIn F m P .any ops Q (fuel + tl.length) listed a w := by
  obtain ⟨hlen, hget⟩ := qlK htr
  have hll : l.length = ops.size := by simpa using hlen
  have noReady := fun listed => qtV (listed := listed) hlex
  intro fuel
  induction fuel with
  | zero =>
    intro front listed hs hrem hf hcl st stF g w β a hnt hrun hR Q hQ
    have hfr : front = [] := List.eq_nil_of_length_eq_zero hf
    subst hfr
    simp only [qFI, qnr, Option.some.injEq] at hrun
    subst hrun
    rw [qFC]
    exact hQ listed a w st hs (by simpa using hrem) hcl (Eqv.refl _) ⟨⟨g, β, hR, Evo.refl g w, .refl⟩, rfl, fun _ => rfl⟩
  | succ fuel ih =>
    intro front listed hs hrem0 hf hcl st stF g w β a hnt hrun hR Q hQ
    rw [Nat.succ_add]
    refine ⟨fun hr => ?_, fun i hi => ?_⟩
    · have := noReady listed hs hr
      rw [hrem0] at this
      have : front = [] := (List.append_eq_nil_iff.1 this).1
      rw [this] at hf; simp at hf
    · rw [Go.mem_ready] at hi
      obtain ⟨h1, o, ho, hpre⟩ := hi
      have hilt := (Array.getElem?_eq_some_iff.1 ho).1
      have him : i ∈ rem ops.size listed := qcS.2 ⟨hilt, h1⟩
      -- what stands before i is listed
      have hbef : ∀ j, ((Go.Region.before ops).getD i 0).testBit j = true → listed.getD j false = true := fun j hj => by
        obtain ⟨e, he, hb, hj⟩ := quQ ho hj
        have hl := hpre e (by simpa using he) hb
        rcases hj with rfl | hj
        · exact hl
        · exact hcl _ hl j hj
      have hif : i ∈ front := by
        rw [hrem0, List.mem_append] at him
        refine him.resolve_right (fun hz => ?_)
        cases front with
        | nil => simp at hf
        | cons k front =>
          have hkm : k ∈ rem ops.size listed := by rw [hrem0]; simp
          have hsort := qjt ops.size listed
          rw [hrem0, List.pairwise_append] at hsort
          have hk := htl i hz k (hsort.2.2 k (by simp) i hz)
          have h3 := hbef k hk
          have h2 := (qcS.1 hkm).2
          have hlt : k < listed.size := by rw [hs]; exact (qcS.1 hkm).1
          simp only [Array.getD_eq_getD_getElem?, Array.getElem?_eq_getElem hlt, Option.getD_some] at h3 h2
          rw [h3] at h2; cases h2
      obtain ⟨pre, post, hfr⟩ := List.append_of_mem hif
      have hrem : rem ops.size listed = pre ++ i :: (post ++ tl) := by rw [hrem0, hfr]; simp
      have hwhole : front.map (qdY ops l) = pre.map (qdY ops l) ++ qdY ops l i :: post.map (qdY ops l) := by rw [hfr]; simp
      rw [hwhole] at hrun
      obtain ⟨q, hq1, hq2, hq3, hq4⟩ := hget i o (by simpa using ho)
      have hel : (qdY ops l i).1 = q := by simp [qdY, hq1]
      have hsorted := qjt ops.size listed
      obtain ⟨st1, stF', hstep, hrest, heqv⟩ := quN hlo (x := qdY ops l i) (pre := pre.map (qdY ops l)) (post := post.map (qdY ops l)) (fun y hy => by
          have : ∃ k, y = qdY ops l k := by
            simp only [List.mem_append, List.mem_map, List.mem_cons] at hy
            rcases hy with ⟨k, _, h⟩ | h | ⟨k, _, h⟩
            · exact ⟨k, h.symm⟩
            · exact ⟨i, h⟩
            · exact ⟨k, h.symm⟩
          obtain ⟨k, rfl⟩ := this
          intro hf
          have hf : qcG ops l (l.getD k default) k = false := hf
          unfold qcG at hf
          simp only [Bool.or_eq_false_iff, Bool.not_eq_false'] at hf
          exact hf.1.1) (fun y hy => by
          obtain ⟨k, hk, rfl⟩ := List.mem_map.1 hy
          have hkm : k ∈ rem ops.size listed := by rw [hrem]; simp [hk]
          have hki : k < i := by
            rw [hrem, List.pairwise_append] at hsorted
            exact hsorted.2.2 k hk i (by simp)
          have hnb : ((Go.Region.before ops).getD i 0).testBit k = false := by
            cases hq : ((Go.Region.before ops).getD i 0).testBit k with
            | false => rfl
            | true =>
              have := hbef k hq
              have h2 := (qcS.1 hkm).2
              have hlt : k < listed.size := by rw [hs]; exact (qcS.1 hkm).1
              simp only [Array.getD_eq_getD_getElem?, Array.getElem?_eq_getElem hlt, Option.getD_some] at this h2
              rw [this] at h2; cases h2
          have s1 : qgh ops l.length i = false := by
            unfold qgh
            rw [List.all_eq_false]
            refine ⟨k, by rw [List.mem_range]; omega, ?_⟩
            have b1 : qFx k i = false := by
              cases hq : qFx k i with
              | false => rfl
              | true => have := qFK hq; omega
            have b2 : Nat.blt k i = true := by simpa using hki
            rw [b1, b2, cond_true, hnb]; simp
          have s2 : qgh ops l.length k = false := by
            unfold qgh
            rw [List.all_eq_false]
            refine ⟨i, by rw [List.mem_range]; omega, ?_⟩
            have b1 : qFx i k = false := by
              cases hq : qFx i k with
              | false => rfl
              | true => have := qFK hq; omega
            have b2 : Nat.blt i k = false := by
              cases hq : Nat.blt i k with
              | false => rfl
              | true => have : i < k := by simpa using hq
                        omega
            rw [b1, b2, cond_false, hnb]; simp
          have hkl : k < l.length := by rw [hll]; omega
          have hil : i < l.length := by rw [hll]; omega
          have ek : (qdY ops l k).1 = l[k] := by simp [qdY, hkl]
          have ei : (qdY ops l i).1 = l[i] := by simp [qdY, hil]
          have fk : (qdY ops l k).2.1 = qcG ops l l[k] k := by simp [qdY, hkl]
          have fi : (qdY ops l i).2.1 = qcG ops l l[i] i := by simp [qdY, hil]
          have hbl : Nat.blt k i = true := by simpa using hki
          have hbl2 : Nat.blt i k = false := by
            cases hq : Nat.blt i k with
            | false => rfl
            | true => have : i < k := by simpa using hq
                      omega
          have hne1 : qFx i k = false := by
            cases hq : qFx i k with
            | false => rfl
            | true => have := qFK hq; omega
          have hne2 : qFx k i = false := by
            cases hq : qFx k i with
            | false => rfl
            | true => have := qFK hq; omega
          have hap : Apart l[k] l[i] := by
            simp only [qjq, List.all_eq_true] at hord
            have := hord (l[k], k) (by rw [List.mem_zipIdx_iff_getElem?]; simp [hkl]) (l[i], i) (by rw [List.mem_zipIdx_iff_getElem?]; simp [hil])
            simp only [Bool.or_eq_true, Bool.not_eq_true', hnb, qFs, or_false] at this
            refine qqo (this.resolve_left ?_)
            rw [hbl]; simp
          have c1 : qjx ops l k = true → l[i].k.looks = false ∧ l[i].k.free = true := fun h => by
            simp only [qjx, List.all_eq_true] at h
            have := h (l[i], i) (by rw [List.mem_zipIdx_iff_getElem?]; simp [hil])
            rw [hne1, hbl2, cond_false, hnb] at this
            simpa using this
          have c2 : qjx ops l i = true → l[k].k.looks = false ∧ l[k].k.free = true := fun h => by
            simp only [qjx, List.all_eq_true] at h
            have := h (l[k], k) (by rw [List.mem_zipIdx_iff_getElem?]; simp [hkl])
            rw [hne2, hbl, cond_true, hnb] at this
            simpa using this
          have e1 : (qdY ops l k).1.k = l[k].k := by rw [ek]
          have e2 : (qdY ops l i).1.k = l[i].k := by rw [ei]
          rw [e1, e2, fk, fi]
          exact ⟨qq3 hap.f1 s2 s1 c1, qq3 hap.f2 s1 s2 c2⟩) (fun y hy => by
          obtain ⟨k, hk, rfl⟩ := List.mem_map.1 hy
          have hkm : k ∈ rem ops.size listed := by rw [hrem]; simp [hk]
          have hki : k < i := by
            rw [hrem, List.pairwise_append] at hsorted
            exact hsorted.2.2 k hk i (by simp)
          have hnb : ((Go.Region.before ops).getD i 0).testBit k = false := by
            cases hq : ((Go.Region.before ops).getD i 0).testBit k with
            | false => rfl
            | true =>
              have := hbef k hq
              have h2 := (qcS.1 hkm).2
              have hlt : k < listed.size := by rw [hs]; exact (qcS.1 hkm).1
              simp only [Array.getD_eq_getD_getElem?, Array.getElem?_eq_getElem hlt, Option.getD_some] at this h2
              rw [this] at h2; cases h2
          have hkl : k < l.length := by rw [hll]; omega
          have hil : i < l.length := by rw [hll]; omega
          have ek : (qdY ops l k).1 = l[k] := by simp [qdY, hkl]
          have ei : (qdY ops l i).1 = l[i] := by simp [qdY, hil]
          refine ⟨?_, fun n hn => ?_⟩
          · simp only [qjq, List.all_eq_true] at hord
            have := hord (l[k], k) (by rw [List.mem_zipIdx_iff_getElem?]; simp [hkl]) (l[i], i) (by rw [List.mem_zipIdx_iff_getElem?]; simp [hil])
            simp only [Bool.or_eq_true, Bool.not_eq_true', hnb, qFs, or_false] at this
            rw [ek, ei]
            refine qqo (this.resolve_left ?_)
            have hbl : Nat.blt k i = true := by simpa using hki
            rw [hbl]; simp
          · refine qqD ?_
            show n ∈ qju ops l i
            unfold qju
            rw [List.mem_flatMap]
            refine ⟨(l[k], k), by rw [List.mem_zipIdx_iff_getElem?]; simp [hkl], ?_⟩
            simp only [hnb, qFs, if_false]
            rw [ek] at hn
            exact hn) hrun
      have hrem' := qw1 hs hrem
      have hf' : (pre ++ post).length = fuel := by
        rw [hfr] at hf; simp at hf ⊢; omega
      have hcl' : ∀ x, (listed.setIfInBounds i true).getD x false = true → ∀ j, ((Go.Region.before ops).getD x 0).testBit j = true → (listed.setIfInBounds i true).getD j false = true := by
        intro x hx j hj
        by_cases hxi : i = x
        · subst hxi; exact Go.getD_set_true (hbef j hj)
        · rw [Go.getD_set_ne false hxi] at hx
          exact Go.getD_set_true (hcl x hx j hj)
      have go : ∀ {g1 : Gh} {w1 : World} {β1 : Nat → Nat} {a1 : Act}, a1.tmps.size = a.tmps.size → DefOk g1 w w1 a.defers a1.defers → a1.defers = a.defers → Rel M g1 w1 β1 st1 a1.tmps → Evo g w g1 w1 → Go.wpAnyIn F m P .any ops Q (fuel + tl.length) (listed.setIfInBounds i true) a1 w1 := by
        intro g1 w1 β1 a1 hs1 hd1 hq1 hR1 hE1
        refine ih (pre ++ post) _ (by simpa using hs) (by rw [hrem', List.append_assoc]) hf' hcl' st1 stF' g1 w1 β1 a1 (by rw [hs1]; exact hnt) (by rw [List.map_append]; exact hrest) hR1 Q (fun listed' a' w' st' hs2 hr2 hc2 he hg => ?_)
        exact hQ listed' a' w' st' hs2 hr2 hc2 (heqv.trans he) (hg.trans hE1 hs1 hd1 (fun _ => hq1) id)
      have hd : zo o a := fun n hn => Nat.lt_of_lt_of_le (hdst o (by
        have := Array.mem_of_getElem? ho
        simpa using this) n hn) hnt
      unfold Go.wpOpIn
      simp only [ho]
      unfold qiY at hstep
      rw [hel] at hstep
      split at hstep
      · rename_i hw
        rw [qcj hR hq3 hw]
        simp only [if_true]
        refine qmY hF (hnd o (by
          have := Array.mem_of_getElem? ho
          simpa using this)) ?_
        split at hstep
        · rename_i r hr
          rw [qFA] at hstep
          split at hstep
          · cases hstep
          · rename_i hp
            have hpan : r.pan = false := by
              simp only [Bool.or_eq_true, not_or] at hp
              simpa using hp.1
            have hput := qAb hstep
            have hq5 := hr
            rw [hq4] at hq5
            have hq6 := qfq hq5
            rw [← hq4] at hq6
            refine qv2 hcs hd hR hq6 (fun hloc hn => ?_) hr ⟨fun _ c w1 g1 β1 hR1 hE1 => ?_, fun hp2 => ?_⟩
            · rw [hn] at hloc; simp at hloc
            · rw [← hq2, hput, hq2] at hR1
              exact go (yZ _ _ _) (qhP _ _ _) (yG _ _ _) hR1 hE1
            · rw [hpan] at hp2; cases hp2
        · cases hstep
      · rename_i hw
        rw [qcj hR hq3 hw]
        simp only [qFs, if_false]
        simp only [Option.some.injEq] at hstep
        subst hstep
        refine ⟨fun f _ => hF.fn f, ?_⟩
        exact go (yZ _ _ _) (qhP _ _ _) (yG _ _ _) (by rw [hq2]; exact qnP hR hd) (Evo.refl g w)
      · cases hstep
theorem qw5 (hm : P.follows .mixedOrders = true) (hcs : yU P M call) (hlo : yL call) : qxc P M call := by
  intro A rid ops l htr hlex hord st e st' hrun g w β a nt hdst hnt hR F m hF hnd Q hQ
  obtain ⟨rfl, hrunD⟩ := qft hrun
  have hll : l.length = ops.size := by simpa using (qlK htr).1
  refine Go.wpIn_region_any hm ?_
  have hall : ∀ i, i < ops.size → (Array.replicate ops.size false).getD i true = false := fun i hi => by simp [hi]
  have hrem : rem ops.size (Array.replicate ops.size false) = List.range ops.size := by
    unfold rem
    rw [List.filter_eq_self]
    intro i hi
    rw [hall i (by simpa using hi)]; rfl
  have hsm : SameMem w { w with drawn := w.drawn + 1 } := ⟨rfl, rfl, rfl⟩
  refine qwD hcs hlo hF htr hlex hord hdst (qwu hnd) [] (fun z hz => by cases hz) ops.size (List.range ops.size) _ (by simp) (by rw [hrem]; simp) (by simp) (fun x hx => ?_) st st' g { w with drawn := w.drawn + 1 } β a hnt (by rw [← hll, ← qxf]; exact hrunD) (hR.sameMem hsm) Q (fun listed' a' w' st2 hs2 hr2 _ he hg => ⟨qn9 hr2, ?_⟩)
  · exfalso
    simp only [Array.getD_eq_getD_getElem?] at hx
    by_cases hlt : x < ops.size
    · simp [hlt] at hx
    · rw [Array.getElem?_eq_none (by simp; omega)] at hx; simp at hx
  · refine hQ .normal a' w' (show Post True M g w a .nrm st' .normal a' w' from ?_)
    obtain ⟨⟨g1, β1, hR1, hE1, hd1⟩, hs1, hq1⟩ := hg
    refine ⟨⟨g1, β1, ⟨?_, fun k => ?_, fun id o ho => ?_, hR1.fresh, hR1.gl⟩, (hsm.evo g).trans hE1, hd1.imp (fun ms h => ⟨h.1, MarksOk.base (w0 := { w with drawn := w.drawn + 1 }) (w0' := w) (qFw _) h.2⟩)⟩, hs1, hq1⟩
    · rw [hR1.n, he.H]
    · rw [← he.e k]; exact hR1.e k
    · exact hR1.h id o (by rw [he.H]; exact ho)
theorem qu7 (hm : P.follows .mixedOrders = true) (hcs : yU P M call) (hlo : yL call) : qvx P M call := by
  intro A rid ops l htr hlex hord hlast st st1 e st' hrunD hrunL g w β a nt hdst hnt hR F m hF hnd Q hQ
  obtain ⟨_, hrunD⟩ := qft hrunD
  obtain ⟨hlen, hget⟩ := qlK htr
  have hll : l.length = ops.size := by simpa using hlen
  have hne : l ≠ [] := fun h => by subst h; simp [qsO] at hlast
  have hpos : 0 < l.length := by cases l with | nil => exact (hne rfl).elim | cons _ _ => simp
  obtain ⟨z, hz⟩ : ∃ z, l.length = z + 1 := ⟨l.length - 1, by omega⟩
  rw [hz, Nat.add_sub_cancel] at hrunD hrunL
  have hzs : ops.size = z + 1 := by rw [← hll, hz]
  have hbefz : ∀ j, j < z → ((Go.Region.before ops).getD z 0).testBit j = true := by
    simp only [qsO, qFt, List.all_eq_true, hz, Nat.add_sub_cancel] at hlast
    exact fun j hj => hlast.2 j (by simpa using hj)
  refine Go.wpIn_region_any hm ?_
  have hall : ∀ i, i < ops.size → (Array.replicate ops.size false).getD i true = false := fun i hi => by simp [hi]
  have hrem : rem ops.size (Array.replicate ops.size false) = List.range z ++ [z] := by
    have hrs : List.range z ++ [z] = List.range ops.size := by rw [hzs, List.range_succ]
    unfold rem
    rw [hrs, List.filter_eq_self]
    intro i hi
    rw [hall i (by simpa using hi)]; rfl
  have hsm : SameMem w { w with drawn := w.drawn + 1 } := ⟨rfl, rfl, rfl⟩
  have hfront : (l.zipIdx.map fun (o, i) => (o, qcG ops l o i, qju ops l i)).take z = (List.range z).map (qdY ops l) := by
    rw [qxf, hz, List.range_succ, List.map_append]
    exact List.take_left' (by simp)
  rw [hfront] at hrunD
  have key := qwD hcs hlo hF (m := m) htr hlex hord hdst (qwu hnd) [z] (fun y hy j hj => by
      rw [List.mem_singleton] at hy; subst hy; exact hbefz j hj) z (List.range z) (Array.replicate ops.size false) (by simp) hrem (by simp) (fun x hx => by
      exfalso
      simp only [Array.getD_eq_getD_getElem?] at hx
      by_cases hlt : x < ops.size
      · simp [hlt] at hx
      · rw [Array.getElem?_eq_none (by simp; omega)] at hx; simp at hx) st st1 g { w with drawn := w.drawn + 1 } β a hnt hrunD (hR.sameMem hsm) Q (fun listed' a' w' st2 hs2 hr2 hc2 he hg => by
    obtain ⟨⟨g1, β1, hR1, hE1, hd1⟩, hs1, hq1⟩ := hg
    have hR1' : Rel M g1 w' β1 st1 a'.tmps := ⟨by rw [← he.H]; exact hR1.n, fun k => by rw [← he.e k]; exact hR1.e k, fun id o ho => hR1.h id o (by rw [he.H]; exact ho), hR1.fresh, hR1.gl⟩
    have fin : ∀ {x : Exit} {a2 : Act} {w2 : World}, Post True M g1 w' a' e st' x a2 w2 → Q x a2 w2 := fun h =>
      hQ _ _ _ ((h.trans hE1 hs1 hd1 (fun _ => hq1 trivial) id).trans (hsm.evo g) rfl .refl (fun _ => rfl) id)
    refine ⟨fun hr => ?_, fun i hi => ?_⟩
    · have := qtV hlex hs2 hr
      rw [hr2] at this; cases this
    · rw [Go.mem_ready] at hi
      obtain ⟨h1, o, ho, _⟩ := hi
      have him : i ∈ rem ops.size listed' := qcS.2 ⟨(Array.getElem?_eq_some_iff.1 ho).1, h1⟩
      rw [hr2, List.mem_singleton] at him
      subst him
      obtain ⟨q, hq1', hq2, hq3, hq4⟩ := hget i o (by simpa using ho)
      have hdrop : l.drop i = [q] := by
        have hlt : i < l.length := by omega
        rw [List.drop_eq_getElem_cons hlt, List.drop_eq_nil_of_le (by omega)]
        have : l[i]? = some q := by first | exact hq1' | simpa using hq1'
        rw [List.getElem?_eq_getElem hlt] at this
        simpa using this
      rw [hdrop] at hrunL
      have hd : zo o a' := fun n hn => by
        rw [hs1]
        exact Nat.lt_of_lt_of_le (hdst o (by
          have := Array.mem_of_getElem? ho
          simpa using this) n hn) hnt
      have hend : rem ops.size (listed'.setIfInBounds i true) = [] := by
        have := qw1 (pre := []) (post := []) hs2 (by simpa using hr2)
        simpa using this
      unfold Go.wpOpIn
      simp only [ho]
      simp only [zr] at hrunL
      split at hrunL
      · rename_i hw
        rw [qcj hR1' hq3 hw]
        simp only [if_true]
        refine qmY hF (qwu hnd o (by
          have := Array.mem_of_getElem? ho
          simpa using this)) ?_
        split at hrunL
        · rename_i r hr
          have hq5 := hr
          rw [hq4] at hq5
          have hq6 := qfq hq5
          rw [← hq4] at hq6
          refine qv2 hcs hd hR1' hq6 (fun hloc hn => ?_) hr ⟨fun hp c w1 g2 β2 hR2 hE2 => ?_, fun hp cv w1 g2 β2 hR2 hE2 hv => ?_⟩
          · rw [hn] at hloc; simp at hloc
          · simp only [hp, cond_false, Option.some.injEq, Prod.mk.injEq] at hrunL
            obtain ⟨rfl, rfl⟩ := hrunL
            refine ⟨qn9 hend, fin (show Post True M g1 w' a' .nrm _ .normal _ w1 from ⟨⟨g2, β2, ?_, hE2, qhP _ _ _⟩, yZ _ _ _, fun _ => yG _ _ _⟩)⟩
            rw [hq2]
            exact hR2
          · simp only [hp, cond_true, Option.some.injEq, Prod.mk.injEq] at hrunL
            obtain ⟨rfl, rfl⟩ := hrunL
            exact fin (show Post True M g1 w' a' (.pan r.v) r.st (.panic _) a' w1 from ⟨⟨g2, cv, β2, rfl, hR2, hE2, hv, .refl⟩, rfl, fun _ => rfl⟩)
        · cases hrunL
      · rename_i hw
        rw [qcj hR1' hq3 hw]
        simp only [qFs, if_false]
        simp only [Option.some.injEq, Prod.mk.injEq] at hrunL
        obtain ⟨rfl, rfl⟩ := hrunL
        refine ⟨fun f _ => hF.fn f, qn9 hend, fin (show Post True M g1 w' a' .nrm _ .normal _ w' from ⟨⟨g1, β1, ?_, Evo.refl g1 w', qhP _ _ _⟩, yZ _ _ _, fun _ => yG _ _ _⟩)⟩
        rw [hq2]
        exact qnP hR1' hd
      · cases hrunL)
  rw [show z + [z].length = ops.size by rw [hzs]; rfl] at key
  exact key
theorem sound {pg : Pg} (hm : P.follows .mixedOrders = true) (hT : Tab P M pg) (hx : yU P M pg.ext) (hxlo : yL pg.ext) (n : Nat) : yU P M (qcO pg n) := by
  have key : ∀ n, qhT P M (exec pg n) := qus (fun n h => qjo hT hx (qds hxlo n) h (qlB n)) (fun n hcs => ⟨qw5 hm hcs (qdi hxlo (qds hxlo n)), qu7 hm hcs (qdi hxlo (qds hxlo n))⟩) (fun n h => qvh hT.2 h)
  exact qjo hT hx (qds hxlo n) (key n) (qlB n)
theorem quy {pg : Pg} (hm : P.follows .mixedOrders = true) (hT : Tab P M pg) (hx : yU P M pg.ext) (hxlo : yL pg.ext) {n i : Nat} {vs : List V} {H : List Obj} {r : Cr} (hcall : qcO pg n i vs H = some r) {f' : FuncId} (hlook : look M.fm f' = some i) (hext : pg.fn i ≠ none)
    {g : Gh} {w : World} {argv : List Value} (hargs : ArgsRep M g w 0 vs argv) (hH : RelH M g w H) : Go.Calls P f' argv.toArray w (zN M g w r) := by
  have key : ∀ n, qhT P M (exec pg n) := qus (fun n h => qjo hT hx (qds hxlo n) h (qlB n)) (fun n hcs => ⟨qw5 hm hcs (qdi hxlo (qds hxlo n)), qu7 hm hcs (qdi hxlo (qds hxlo n))⟩) (fun n h => qvh hT.2 h)
  exact (qlb hT (qds hxlo n) (key n) (qlB n) hcall hlook hext hargs hH).1
end
end W

/-
  What the kernel works out of a call on closed data, as a fact about the call.
-/
set_option linter.unusedSimpArgs false
set_option linter.unusedVariables false
namespace W
open Go (IntKind BinOp UnOp)
mutual
def eqD : D → D → Bool
  | .b x, .b y => x == y
  | .i k x, .i k' y => eqK k k' && eqI x y
  | .s x, .s y => eqT x y
  | .nil, .nil => true
  | .sl x, .sl y => qvS x y
  | .agg x, .agg y => qvS x y
  | .np, .np => true
  | .nf, .nf => true
  | .ni, .ni => true
  | .nm, .nm => true
  | _, _ => false
def qvS : List D → List D → Bool
  | [], [] => true
  | x :: l, y :: r => eqD x y && qvS l r
  | _, _ => false
end
theorem qB6 {k k' : IntKind} (h : eqK k k' = true) : k = k' := by cases k <;> cases k' <;> first | rfl | cases h
theorem qyZ {x y : Int} (h : eqI x y = true) : x = y := by
  cases x <;> cases y <;> first | (have := qFK h; subst this; rfl) | cases h
theorem qzR : ∀ {x y : List Nat}, eqT x y = true → x = y
  | [], [], _ => rfl
  | a :: x, b :: y, h => by
    simp only [eqT, qFt] at h
    rw [qFK h.1, qzR h.2]
  | [], _ :: _, h => by cases h
  | _ :: _, [], h => by cases h
mutual
theorem qyR : ∀ {x y : D}, eqD x y = true → x = y
  | .b x, y, h => by cases y <;> simp only [eqD] at h <;> first | cases h | skip; rw [eq_of_beq h]
  | .i k x, y, h => by
    cases y <;> simp only [eqD] at h <;> first | cases h | skip
    simp only [qFt] at h
    rw [qB6 h.1, qyZ h.2]
  | .s x, y, h => by cases y <;> simp only [eqD] at h <;> first | cases h | skip; rw [qzR h]
  | .nil, y, h => by cases y <;> simp only [eqD] at h <;> first | rfl | (cases h; done) | (cases h; rfl)
  | .sl x, y, h => by cases y <;> simp only [eqD] at h <;> first | cases h | skip; rw [qs7 h]
  | .agg x, y, h => by cases y <;> simp only [eqD] at h <;> first | cases h | skip; rw [qs7 h]
  | .np, y, h => by cases y <;> simp only [eqD] at h <;> first | rfl | (cases h; done) | (cases h; rfl)
  | .nf, y, h => by cases y <;> simp only [eqD] at h <;> first | rfl | (cases h; done) | (cases h; rfl)
  | .ni, y, h => by cases y <;> simp only [eqD] at h <;> first | rfl | (cases h; done) | (cases h; rfl)
  | .nm, y, h => by cases y <;> simp only [eqD] at h <;> first | rfl | (cases h; done) | (cases h; rfl)
theorem qs7 : ∀ {x y : List D}, qvS x y = true → x = y
  | [], [], _ => rfl
  | a :: x, b :: y, h => by
    simp only [qvS, qFt] at h
    rw [qyR h.1, qs7 h.2]
  | [], _ :: _, h => by simp [qvS] at h
  | _ :: _, [], h => by simp [qvS] at h
end
def isD (r : Option Cr) (x : D) : Bool := match r with
  | some ⟨false, true, .d y, _, _⟩ => eqD y x
  | _ => false
theorem qsi {pg : Pg} (hx : yL pg.ext) {f : Nat} {vs : List V} {H H' : List Obj} {v : V} {lo : Nat} (h : kn pg f vs H = some ⟨false, true, v, H', lo⟩) : kn pg f vs H = some ⟨false, true, v, H, lo⟩ := by
  obtain ⟨n, hn⟩ := qcz.1 h
  have hlo := (qdi hx (qds hx n) _ _ _ _ hn).2.2 rfl
  simp only at hlo
  rw [hlo] at h
  exact h
theorem qqC {pg : Pg} (hx : yL pg.ext) {N f : Nat} {vs : List V} {H : List Obj} {x : D} (h : isD (qeM pg N f vs H) x = true) : ∃ lo, kn pg f vs H = some ⟨false, true, .d x, H, lo⟩ := by
  unfold isD at h
  split at h
  · rename_i y H' lo hr
    rw [qyR h] at hr
    exact ⟨lo, qsi hx (qsc hr)⟩
  · cases h
end W

/- Where all below the heap's end is as it was. -/
set_option linter.unusedSimpArgs false
set_option linter.unusedVariables false
namespace W
open Go (World Value Addr IntKind Program TypeId FuncId Operand Act Oper Next Result Sem BinOp UnOp Ending Exit Code Func Calls)
open Go.RowKit (Below)
theorem qyu {M : Maps} {g : Gh} {w w' : World} {H : List Obj} (hH : RelH M g w H) (h : Below w.heap.size w w') : RelH M g w' H ∧ Evo g w g w' := by
  have hg : Grow g w g w' := ⟨h.size, fun _ => qFw _, fun b o ho => by
    have hb : b < w.heap.size := by
      rcases Nat.lt_or_ge b w.heap.size with h1 | h1
      · exact h1
      · rw [(hH.fresh b h1).2] at ho; omega
    simp only [World.cell?, h.block b hb]⟩
  have hk : ∀ ℓ, Kept g w g w' ℓ := fun ℓ => ⟨fun b hb => by
    have : b < w.heap.size := by
      rcases Nat.lt_or_ge b w.heap.size with h1 | h1
      · exact h1
      · rw [(hH.fresh b h1).1] at hb; cases hb
    exact ⟨hb, h.block b this, rfl⟩⟩
  exact ⟨⟨hH.n, fun id o ho => (hH.h id o ho).mono hg (qFw _) (fun _ _ => rfl) (by rw [hH.n]; exact (List.getElem?_eq_some_iff.1 ho).1) (hk _) (fun i => hk _), fun b hb => hH.fresh b (Nat.le_trans h.size hb), hH.gl.mono hg⟩,
    ⟨hg, qFw _, fun _ _ => rfl, fun b hb _ => ⟨rfl, h.block b hb, rfl⟩, h.os, h.output⟩⟩
end W

set_option linter.unusedSimpArgs false
set_option linter.unusedVariables false
namespace W
open Go (IntKind BinOp UnOp)
set_option maxRecDepth 20000
def ixN (c : Nat) : List Nat → Int
  | [] => -1
  | x :: l => bif qFx x c then 0 else (match ixN c l with | .ofNat n => .ofNat (n + 1) | .negSucc _ => -1)
def ixX (vs : List V) (H : List Obj) : Option Cr :=
  match vs with
  | [.d (.s t), .d (.i .u8 c)] => some ⟨false, true, .d (.i .i64 (ixN (c.toNat % 256) t)), H, H.length⟩
  | _ => none
def teX (vs : List V) (H : List Obj) : Option Cr :=
  match vs with
  | [.d (.s _), .d (.s t), .d (.i .i64 _), .d (.i .i64 _), .ifc 323 (.d (.i .i64 e))] => bif (eqI e 1 || eqI e 2) && Nat.ble t.length 1000000000000 then some ⟨false, true, .ifc 325 .undef, H, H.length⟩ else none
  | _ => none
def KW : List (List Nat) := [[65, 82, 82, 65, 89], [66, 69, 71, 73, 78], [66, 89], [67, 65, 83, 69], [67, 79, 78, 83, 84], [68, 73, 86], [68, 79], [69, 76, 83, 69], [69, 76, 83, 73, 70], [69, 78, 68], [70, 65, 76, 83, 69], [70, 79, 82], [73, 70], [73, 77, 80, 79, 82, 84], [73, 78], [73, 83], [77, 79, 68], [77, 79, 68, 85, 76, 69], [78, 73, 76], [79, 70], [79, 82], [80, 79, 73, 78, 84, 69, 82], [80, 82, 79, 67, 69, 68, 85, 82, 69], [82, 69, 67, 79, 82, 68], [82, 69, 80, 69, 65, 84], [82, 69, 84, 85, 82, 78], [84, 72, 69, 78], [84, 79], [84, 82, 85, 69], [84, 89, 80, 69], [85, 78, 84, 73, 76], [86, 65, 82], [87, 72, 73, 76, 69]]
def kwX (vs : List V) (H : List Obj) : Option Cr :=
  match vs with
  | [] => some ⟨false, true, .d (.sl (KW.map D.s)), H, H.length⟩
  | _ => none
def pgA : Pg := ⟨fun n => bif qFx n 257 then none else bif qFx n 304 then none else prog n, fun i vs H => bif qFx i 257 then ixX vs H else bif qFx i 304 then teX vs H else none⟩
def pg : Pg := ⟨fun n => bif qFx n 257 then none else bif qFx n 304 then none else bif qFx n 261 then none else prog n, fun i vs H => bif qFx i 257 then ixX vs H else bif qFx i 304 then teX vs H else bif qFx i 261 then kwX vs H else none⟩
theorem qnA {H : List Obj} {v : V} {r : Cr} (h : some (⟨false, true, v, H, H.length⟩ : Cr) = some r) : H.length ≤ r.H.length ∧ (∀ id, id < r.lo → id < H.length → r.H[id]? = H[id]?) ∧ (r.same = true → r.H = H) := by
  cases h
  exact ⟨qFw _, fun _ _ _ => rfl, fun _ => rfl⟩
theorem qvA {vs : List V} {H : List Obj} {r : Cr} (h : ixX vs H = some r) : H.length ≤ r.H.length ∧ (∀ id, id < r.lo → id < H.length → r.H[id]? = H[id]?) ∧ (r.same = true → r.H = H) := by
  unfold ixX at h
  split at h
  · exact qnA h
  · cases h
theorem qyX {vs : List V} {H : List Obj} {r : Cr} (h : teX vs H = some r) : H.length ≤ r.H.length ∧ (∀ id, id < r.lo → id < H.length → r.H[id]? = H[id]?) ∧ (r.same = true → r.H = H) := by
  unfold teX at h
  split at h
  · rw [qFA] at h
    split at h
    · exact qnA h
    · cases h
  · cases h
theorem qww : yL pgA.ext := by
  intro i vs H r h
  simp only [pgA, qFA] at h
  split at h
  · exact qvA h
  · split at h
    · exact qyX h
    · cases h
theorem qso : yL pg.ext := by
  intro i vs H r h
  simp only [pg, qFA] at h
  split at h
  · exact qvA h
  · split at h
    · exact qyX h
    · split at h
      · unfold kwX at h
        split at h
        · exact qnA h
        · cases h
      · cases h
theorem qDu : isD (qeM pgA 3000 261 [] []) (.sl (KW.map D.s)) = true := by decide +kernel
theorem qwR {H : List Obj} : kn pg 261 [] H = some ⟨false, true, .d (.sl (KW.map D.s)), H, H.length⟩ := by
  rw [qiD]
  unfold zG
  rw [show pg.fn 261 = none from rfl]
  rfl
theorem qw8 {t : List Nat} {c : Nat} (hc : c < 256) {H : List Obj} : kn pg 257 [.d (.s t), .d (.i .u8 c)] H = some ⟨false, true, .d (.i .i64 (ixN c t)), H, H.length⟩ := by
  have : (c : Int).toNat % 256 = c := by simp; omega
  rw [qiD]
  unfold zG
  rw [show pg.fn 257 = none from rfl]
  show ixX [.d (.s t), .d (.i .u8 c)] H = _
  rw [ixX, this]
theorem qBp {f t : List Nat} {b z e : Int} (he : e = 1 ∨ e = 2) (ht : t.length ≤ 1000000000000) {H : List Obj} : kn pg 304 [.d (.s f), .d (.s t), .d (.i .i64 b), .d (.i .i64 z), .ifc 323 (.d (.i .i64 e))] H = some ⟨false, true, .ifc 325 .undef, H, H.length⟩ := by
  rw [qiD]
  have h1 : Nat.ble t.length 1000000000000 = true := by simpa using ht
  unfold zG
  rw [show pg.fn 304 = none from rfl]
  show teX [.d (.s f), .d (.s t), .d (.i .i64 b), .d (.i .i64 z), .ifc 323 (.d (.i .i64 e))] H = _
  rcases he with rfl | rfl <;> simp only [teX, h1] <;> rfl
def pre (t l : List Nat) : Bool := decide (l.take t.length = t)
theorem qA1 {l : List Nat} {n : Nat} (h : n ≤ l.length) : qjl (.d (.s l)) none (some (n : Int)) = some (.d (.s (l.take n))) := by
  rw [qqx (by simp) (by simp) (by simp; omega)]
  simp
theorem qBz {l : List Nat} {n : Nat} (h : n ≤ l.length) : qjl (.d (.s l)) (some (n : Int)) none = some (.d (.s (l.drop n))) := by
  rw [qqx (by simp) (by simp; omega) (by simp)]
  simp
theorem qzb {l : List Nat} {a b : Nat} (h : a ≤ b) (h2 : b ≤ l.length) : qjl (.d (.s l)) (some (a : Int)) (some (b : Int)) = some (.d (.s ((l.take b).drop a))) := by
  rw [qqx (by simp) (by simp; omega) (by simp; omega)]
  simp
theorem qzW {l t : List Nat} {H : List Obj} : kn pg 299 [.d (.s l), .d (.s t)] H = some ⟨false, true, .d (.b (pre t l)), H, H.length⟩ := by
  rw [zl (fn := zT) rfl rfl]
  by_cases h : t.length ≤ l.length
  · have h1 : ((t.length : Int) ≤ (l.length : Int)) = True := by rw [eq_iff_iff]; simp; omega
    have h2 := qA1 h
    simp only [zT, ql, qFC, Nat.reduceAdd, qq, qr, qs, qk, qb, zk, qF, qG, qZ, qa, qc, kZ, reduceCtorEq, qD, qC, qx, qw, qL, zx, qm, Nat.reduceEqDiff, qg, ko, qFM, js, h1, decide_true, ki, kq, kG, ↓reduceIte, qcv, qhS, qde, qn6, qfG, h2, yy, qI, kJ, qP, qQ, qn, kx, ja, qp, qE, kf, qH, qbP, jM, zj, pre]
    all_goals rfl
  · have h1 : ((t.length : Int) ≤ (l.length : Int)) = False := by rw [eq_iff_iff]; simp; omega
    have h2 : pre t l = false := by
      simp only [pre, decide_eq_false_iff_not]
      intro e
      have := congrArg List.length e
      simp at this
      omega
    simp only [zT, ql, qFC, Nat.reduceAdd, qq, qr, qs, qk, qb, zk, qF, qG, qZ, qa, qc, kZ, reduceCtorEq, qD, qC, qx, qw, qL, zx, qm, Nat.reduceEqDiff, qg, ko, qFM, js, h1, decide_false, ki, kq, kG, qFs, ↓reduceIte, ku, qI, qW, zV, qP, qQ, qn, kx, ja, qp, qE, kf, qH, qbP, jM, zj, h2]
    all_goals rfl
theorem qBy {l t : List Nat} {H : List Obj} : kn pg 255 [.d (.s l), .d (.s t)] H = some ⟨false, true, .d (.b (pre t l)), H, H.length⟩ := by
  rw [zl (fn := qbe) rfl rfl]
  simp only [qbe, ql, qFC, Nat.reduceAdd, qq, qr, qs, qk, qb, zk, qF, qG, qZ, qa, qc, jh, reduceCtorEq, qD, qC, zw, kg, Nat.reduceEqDiff, qt, qFz, qFI, qe, qH, qh, qFD, qY, qzW, qu, qd, qi, Nat.min_self, qP, qQ, qn, kx, ja, qp, qE, kf, qbP, jM, zj]
  all_goals rfl
abbrev sc (s : List Nat) (a : Nat) : Obj := .cells [.d (.s s), .d (.i .i64 (a : Int))]
theorem qgF {s t : List Nat} {a id : Nat} {H : List Obj} (hH : H[id]? = some (sc s a)) (ha : a ≤ s.length) : kn pg 178 [.ptr id 0, .d (.s t)] H = some ⟨false, true, .d (.b (pre t (s.drop a))), H, H.length⟩ := by
  rw [zl (fn := qbw) rfl rfl]
  have h2 := qBz ha
  simp only [qbw, ql, qFC, Nat.reduceAdd, qq, qr, qs, qk, qb, zk, qF, qG, qZ, qa, qc, zu, kQ, kZ, reduceCtorEq, qD, qC, qV, qw, kO, ji, kR, qA, qm, qf, zg, Nat.add_zero, qy, q9, hH, kT, qFu, qFv, kA, jB, qFy, qcv, Nat.reduceEqDiff, qx, qde, qn6, qhS, qfG, h2, jh, zw, kg, qt, qFz, qFI, qe, qH, qh, qFD, qY, qBy, qu, qd, qi, Nat.min_self, kl, kj, qP, qQ, qn, kx, ja, qp, qE, kf, qbP, jM, zj]
  all_goals rfl
def cLt (c : Nat) : Bool := (decide (97 ≤ c) && decide (c ≤ 122)) || (decide (65 ≤ c) && decide (c ≤ 90))
def cDg (c : Nat) : Bool := decide (48 ≤ c) && decide (c ≤ 57)
def cHx (c : Nat) : Bool := cDg c || (decide (65 ≤ c) && decide (c ≤ 70))
def cNm (c : Nat) : Bool := cLt c || cDg c
def cTx (c : Nat) : Bool := decide (32 ≤ c) && !decide (c = 34)
theorem qoT {c : Nat} {H : List Obj} : kn pg 174 [.d (.i .u8 c)] H = some ⟨false, true, .d (.b (cLt c)), H, H.length⟩ := by
  rw [zl (fn := qet) rfl rfl]
  have e1 : ((97 : Int) ≤ (c : Int)) = (97 ≤ c) := by rw [eq_iff_iff]; omega
  have e2 : ((c : Int) ≤ 122) = (c ≤ 122) := by rw [eq_iff_iff]; omega
  have e3 : ((65 : Int) ≤ (c : Int)) = (65 ≤ c) := by rw [eq_iff_iff]; omega
  have e4 : ((c : Int) ≤ 90) = (c ≤ 90) := by rw [eq_iff_iff]; omega
  by_cases h1 : 97 ≤ c <;> by_cases h2 : c ≤ 122 <;> by_cases h3 : 65 ≤ c <;> by_cases h4 : c ≤ 90
  all_goals simp only [qet, ql, qFC, qq, qr, qs, qk, qb, zk, qF, qG, qZ, qa, qc, kZ, reduceCtorEq, qD, qC, qx, qw, qg, ko, kM, qFE, js, e1, h1, decide_true, qm, ki, kq, kG, ↓reduceIte, Nat.reduceEqDiff, yw, e2, h2, qI, kJ, zI, qFO, qFs, ku, qly, qW, qdr, qP, qQ, qn, kx, ja, qp, qE, kf, qH, qbP, jM, zj, cLt, qFD, h3, h4, qFM, decide_false, Bool.and_false, Bool.or_false, Bool.and_true, Bool.not_false, e3, e4, zV]
  all_goals rfl
theorem qmM {c : Nat} {H : List Obj} : kn pg 176 [.d (.i .u8 c)] H = some ⟨false, true, .d (.b (cDg c)), H, H.length⟩ := by
  rw [zl (fn := qfx) rfl rfl]
  have e1 : ((48 : Int) ≤ (c : Int)) = (48 ≤ c) := by rw [eq_iff_iff]; omega
  have e2 : ((c : Int) ≤ 57) = (c ≤ 57) := by rw [eq_iff_iff]; omega
  by_cases h1 : 48 ≤ c <;> by_cases h2 : c ≤ 57
  all_goals simp only [qfx, ql, qFC, qq, qr, qs, qk, qb, zk, qF, qG, qZ, qa, qc, kZ, reduceCtorEq, qD, qC, qx, qw, qg, ko, kM, qFE, js, e1, h1, decide_true, qm, ki, kq, kG, ↓reduceIte, Nat.reduceEqDiff, yw, e2, h2, qI, kJ, qP, qQ, qn, kx, ja, qp, qE, kf, qH, qbP, jM, zj, cDg, qFD, decide_false, Bool.and_false, qFs, ku, qW, zV, Bool.and_true]
  all_goals rfl
theorem qyO {c : Nat} {H : List Obj} : kn pg 262 [.d (.i .u8 c)] H = some ⟨false, true, .d (.b (cHx c)), H, H.length⟩ := by
  rw [zl (fn := qje) rfl rfl]
  have e1 : ((65 : Int) ≤ (c : Int)) = (65 ≤ c) := by rw [eq_iff_iff]; omega
  have e2 : ((c : Int) ≤ 70) = (c ≤ 70) := by rw [eq_iff_iff]; omega
  have hd := qmM (c := c) (H := H)
  cases hq : cDg c <;> rw [hq] at hd <;> by_cases h1 : 65 ≤ c <;> by_cases h2 : c ≤ 70
  all_goals simp only [qje, ql, qFC, qq, qr, qs, qk, qb, zk, qF, qG, qZ, qa, qc, kZ, reduceCtorEq, qD, qC, qx, qw, qt, qFz, qFI, qe, qH, qh, qFD, qY, hd, qu, qd, qi, Nat.min_self, jh, zw, kg, ki, zI, Bool.not_false, kG, ↓reduceIte, Nat.reduceEqDiff, qg, ko, kM, qFE, js, e1, h1, decide_true, qm, kq, yw, e2, h2, qI, kJ, qFs, qP, qQ, qn, kx, ja, qp, qE, kf, qbP, jM, zj, cHx, hq, decide_false, Bool.and_false, qFM, ku, qW, zV, Bool.and_true, qFO, qly, qdr, Bool.or_false]
  all_goals rfl
theorem qwf {c : Nat} {H : List Obj} : kn pg 260 [.d (.i .u8 c)] H = some ⟨false, true, .d (.b (cNm c)), H, H.length⟩ := by
  rw [zl (fn := qfw) rfl rfl]
  have hl := qoT (c := c) (H := H)
  have hd := qmM (c := c) (H := H)
  cases hq : cDg c <;> rw [hq] at hd <;> cases hr : cLt c <;> rw [hr] at hl
  all_goals simp only [qfw, ql, qFC, qq, qr, qs, qk, qb, zk, qF, qG, qZ, qa, qc, kZ, reduceCtorEq, qD, qC, qx, qw, qt, qFz, qFI, qe, qH, qh, qFD, qY, hl, qu, qd, qi, Nat.min_self, jh, zw, kg, ki, zI, Bool.not_false, kG, ↓reduceIte, Nat.reduceEqDiff, hd, qI, kJ, qFs, qm, qP, qQ, qn, kx, ja, qp, qE, kf, qbP, jM, zj, cNm, hr, hq, qFM, qFO, ku, qW, qdr, Bool.or_false, qFE]
  all_goals rfl
theorem qwd {c : Nat} {H : List Obj} : kn pg 264 [.d (.i .u8 c)] H = some ⟨false, true, .d (.b (cTx c)), H, H.length⟩ := by
  rw [zl (fn := qaJ) rfl rfl]
  have e1 : ((32 : Int) ≤ (c : Int)) = (32 ≤ c) := by rw [eq_iff_iff]; omega
  have e2 : ((c : Int) = 34) = (c = 34) := by rw [eq_iff_iff]; omega
  by_cases h1 : 32 ≤ c <;> by_cases h2 : c = 34
  all_goals simp only [qaJ, h2, Int.cast_ofNat_Int, ql, qFC, qq, qr, qs, qk, qb, zk, qF, qG, qZ, qa, qc, kZ, reduceCtorEq, qD, qC, qx, qw, qg, ko, kM, qFE, js, Int.reduceLE, decide_true, qm, ki, kq, kG, ↓reduceIte, Nat.reduceEqDiff, qsq, qFO, qI, kJ, qP, qQ, qn, kx, ja, qp, qE, kf, qH, qbP, jM, zj, cTx, Nat.reduceLeDiff, Bool.and_false, e1, h1, e2, decide_false, Bool.not_false, qFD, qFs, ku, qW, zV, Bool.and_true]
  all_goals rfl
def run (P : Nat → Bool) : List Nat → Nat
  | [] => 0
  | c :: l => bif P c then run P l + 1 else 0
theorem qjg (P : Nat → Bool) : ∀ l, run P l ≤ l.length
  | [] => qFw _
  | c :: l => by simp only [run]; cases P c <;> simp [qjg P l]
theorem qc3 {a e : Int} {H : List Obj} : kn pg 258 [.d (.i .i64 a), .d (.i .i64 e)] H = some ⟨true, true, .ifc 157 (.d (.agg [.i .i64 a, .i .i64 e])), H, H.length⟩ := by
  rw [zl (fn := qhL) rfl rfl]
  simp only [qhL, ql, qFC, Nat.reduceAdd, qq, qs, qk, qb, kZ, qC, qx, qw, qG, qZ, Nat.reduceEqDiff, qD, reduceCtorEq, zc, qFz, qFI, jQ, kP, jb, qFF, qFG, Nat.reduceLT, jP, qFJ, qFL, zS, zQ, zF, jI, zH, kK, zf, qm, jS, yK, qFD, Nat.reduceLeDiff, qdS, List.take_zero, List.nil_append, List.drop_succ_cons, qFQ, List.append_nil, qco, qgc, qcR, qld, qaU, qqb, qaY, qan, qjk, qv5, qpu, qbP, qmG, zj]
  all_goals rfl
theorem qlL {s : List Nat} {a : Nat} (h : a < s.length) : s.drop a = s[a] :: s.drop (a + 1) := by simp
theorem qwc {F : Nat} {P : Nat → Bool} (hF : ∀ c H, kn pg F [.d (.i .u8 ((c : Nat) : Int))] H = some ⟨false, true, .d (.b (P c)), H, H.length⟩) {s : List Nat} (hz : s.length ≤ 1000000000000) {id : Nat} {z : Int} :
    ∀ (k a : Nat) (H : List Obj), s.length - a = k → a ≤ s.length → H[id]? = some (sc s a) → ∀ lo, lo ≤ H.length → ∃ lo', min lo id ≤ lo' ∧ (run P (s.drop a) = 0 ∨ lo' ≤ id) ∧ lo' ≤ lo ∧ qaO 0 [0, 5] (qac pg (.ptr id 0) (.fn F [] []) (.d (.i .i64 z)) H lo) = some (.nrm, ⟨[(0, .ptr id 0), (5, .d (.i .i64 z))], kh H id (sc s (a + run P (s.drop a))), lo'⟩) := by
  intro k
  induction k with
  | zero =>
    intro a H hk ha hH lo hlo
    obtain rfl : a = s.length := by omega
    have h1 : ((s.length : Int) < (s.length : Int)) = False := by simp
    have hr : run P (s.drop s.length) = 0 := by simp [run]
    refine ⟨lo, Nat.min_le_left _ _, .inl hr, qFw _, ?_⟩
    rw [qcm]
    simp only [jT, ze, qiK, qT, qr, zu, kQ, qb, kZ, qC, qV, qw, kO, ji, kR, qA, qm, qf, zg, qFC, qy, q9, hH, kT, qFy, qFu, qFv, kA, jB, reduceCtorEq, qD, Nat.add_zero, qL, qx, zx, qg, ko, qFM, Nat.reduceEqDiff, kX, h1, decide_false, kl, yk, kq, qak, qFs, ↓reduceIte, ku, qI, qW, zk, zV, kj, qc, qB, qK, qbN, qag, yq, qj, qo]
    rw [hr, Nat.add_zero, yF hH]
    all_goals rfl
  | succ k ih =>
    intro a H hk ha hH lo hlo
    have h1 : ((a : Int) < (s.length : Int)) = True := by rw [eq_iff_iff]; simp; omega
    have hlt : a < s.length := by omega
    have hix : ixV (.d (.s s)) (.d (.i .i64 (a : Int))) = some (.d (.i .u8 ((s[a] : Nat) : Int))) := quA (by omega) (by simp)
    have hw : wr .i64 ((a : Int) + 1) = ((a + 1 : Nat) : Int) := by rw [qcY (by omega) (by omega)]; omega
    have hf := hF s[a] H
    have hdr := qlL hlt
    rw [qcm]
    have hm : min lo H.length = lo := by omega
    cases hp : P s[a] with
    | false =>
      rw [hp] at hf
      have hr : run P (s.drop a) = 0 := by rw [hdr]; simp [run, hp]
      refine ⟨lo, Nat.min_le_left _ _, .inl hr, qFw _, ?_⟩
      simp only [jT, ze, qiK, qT, qr, zu, kQ, qb, kZ, qC, qV, qw, kO, ji, kR, qA, qm, qf, zg, qFC, qy, q9, hH, kT, qFy, qFu, qFv, kA, jB, reduceCtorEq, qD, Nat.add_zero, qL, qx, zx, qg, ko, qFM, Nat.reduceEqDiff, kX, h1, decide_true, kl, yk, kq, qak, ↓reduceIte, qnn, qpp, kL, hix, qt, qpz, qFz, qFI, qe, qH, qh, qFD, qnL, hf, qu, qd, qi, hm, qI, zk, kJ, kj, qc, qB, qK, qFs, qbN, qag, yq, qj, qo]
      rw [hr, Nat.add_zero, yF hH]
      all_goals rfl
    | true =>
      rw [hp] at hf
      have hr : a + run P (s.drop a) = (a + 1) + run P (s.drop (a + 1)) := by rw [hdr]; simp only [run, hp, cond_true]; omega
      have hid : id < H.length := (List.getElem?_eq_some_iff.1 hH).1
      have hH2 : (kh H id (sc s (a + 1)))[id]? = some (sc s (a + 1)) := jf hH
      obtain ⟨lo', g1, g2, g3, ih'⟩ := ih (a + 1) (kh H id (sc s (a + 1))) (by omega) (by omega) hH2 (min lo id) (by simp only [kv]; omega)
      rw [hr]
      rw [jz] at ih'
      refine ⟨lo', by omega, .inr (by omega), by omega, ?_⟩
      simp only [jT, ze, qiK, qT, qr, zu, kQ, qb, kZ, qC, qV, qw, kO, ji, kR, qA, qm, qf, zg, qFC, qy, q9, hH, kT, qFy, qFu, qFv, kA, jB, reduceCtorEq, qD, Nat.add_zero, qL, qx, zx, qg, ko, qFM, Nat.reduceEqDiff, kX, h1, decide_true, kl, yk, kq, qak, ↓reduceIte, qnn, qpp, kL, hix, qt, qpz, qFz, qFI, qe, qH, qh, qFD, qnL, hf, qu, qd, qi, hm, qI, zk, kJ, kj, qc, qB, qK, qR, qz, qs, qk, qG, za, qZ, kM, qFE, jn, hw, qX, ju, jQ, kP, qFF, qFG, kC, jb, kS, kV, Nat.reduceAdd, Nat.reduceLT, ky, qFL, qFJ, kU, kW, qa, qO, qj, qo, qcc]
      exact ih'
theorem qm2 {F : Nat} {P : Nat → Bool} (hF : ∀ c H, kn pg F [.d (.i .u8 ((c : Nat) : Int))] H = some ⟨false, true, .d (.b (P c)), H, H.length⟩) {s : List Nat} (hz : s.length ≤ 1000000000000) {id a : Nat} {H : List Obj} (ha : a ≤ s.length) (hH : H[id]? = some (sc s a)) :
    ∃ sm lo, id ≤ lo ∧ lo ≤ H.length ∧ (run P (s.drop a) = 0 ∨ lo ≤ id) ∧ kn pg 259 [.ptr id 0, .fn F [] []] H = some ⟨false, sm, .d (.s ((s.drop a).take (run P (s.drop a)))), kh H id (sc s (a + run P (s.drop a))), lo⟩ := by
  have hid : id < H.length := (List.getElem?_eq_some_iff.1 hH).1
  obtain ⟨lo, g1, g2, g3, hl⟩ := qwc hF hz (z := (a : Int)) (s.length - a) a H rfl ha hH H.length (qFw _)
  have hle := qjg P (s.drop a)
  simp only [List.length_drop] at hle
  have hH2 : (kh H id (sc s (a + run P (s.drop a))))[id]? = some (sc s (a + run P (s.drop a))) := jf hH
  have hm := qzb (l := s) (a := a) (b := a + run P (s.drop a)) (by omega) (by omega)
  have hmm : (s.take (a + run P (s.drop a))).drop a = (s.drop a).take (run P (s.drop a)) := by
    rw [List.drop_take]; congr 1; omega
  rw [hmm] at hm
  rw [zl (fn := qa1) rfl rfl]
  have hlv := fun (e : Env) => qgv (pan := false) (v := .d (.s ((s.drop a).take (run P (s.drop a))))) (e := e) (lo := lo) (o := sc s (a + run P (s.drop a))) rfl rfl (fun _ => rfl) (by
    rcases g2 with h | h
    · left; rw [h, Nat.add_zero]; exact yF hH
    · right; exact h) hid
  simp only [qa1, ql, qFC, Nat.reduceAdd, qq, qr, qs, qk, qb, zk, qF, qG, qZ, qa, qc, kZ, reduceCtorEq, qD, qC, qV, qw, za, qA, qm, qf, zg, qy, q9, hH, kT, qFy, qFu, qFv, kA, qx, qz, qcc, ze, Nat.reduceEqDiff, qiK, qT]
  rw [hl]
  simp only [qdg, qc, qr, zu, kQ, qb, kZ, qC, qV, qw, kO, ji, kR, qA, qm, qf, zg, Nat.add_zero, qy, q9, hH2, kT, qFu, qFv, kA, jB, Nat.reduceEqDiff, qD, reduceCtorEq, qx, qFC, qFy, qcv, qde, qn6, qfG, hm, kl, kj, qP, qQ, qn, kx, ja, qp, qE, kf]
  obtain ⟨sm, h⟩ := hlv _
  exact ⟨sm, lo, by omega, by omega, g2, h⟩
end W

set_option linter.unusedSimpArgs false
set_option linter.unusedVariables false
namespace W
open Go (IntKind BinOp UnOp)
set_option maxRecDepth 20000
def blk (c : Nat) : Bool := decide (c = 9) || decide (c = 10) || decide (c = 13) || decide (c = 32)
theorem qB2 {c : Nat} (hc : c < 256) : ((0 : Int) ≤ ixN c [9, 10, 13, 32]) = (blk c = true) := by
  have h : ∀ c : Fin 256, decide ((0 : Int) ≤ ixN c [9, 10, 13, 32]) = blk c := by decide +kernel
  have := h ⟨c, hc⟩
  simp only at this
  rw [← this]; simp
def sk (deep frm a : Nat) : List Nat → Bool × Nat
  | [] => if deep = 0 then (true, a) else (false, frm)
  | [c] => if deep = 0 then (if blk c then (true, a + 1) else (true, a)) else (false, frm)
  | c :: d :: l =>
    if c = 40 ∧ d = 42 then sk (deep + 1) (if deep = 0 then a else frm) (a + 2) l
    else if 0 < deep ∧ c = 42 ∧ d = 41 then sk (deep - 1) frm (a + 2) l
    else if 0 < deep ∨ blk c = true then sk deep frm (a + 1) (d :: l)
    else (true, a)
theorem qqn {s : List Nat} {a c : Nat} {l : List Nat} (h : s.drop a = c :: l) : s[a]? = some c ∧ s.drop (a + 1) = l ∧ a < s.length := by
  have hl : a < s.length := by
    rcases Nat.lt_or_ge a s.length with h1 | h1
    · exact h1
    · rw [List.drop_eq_nil_of_le h1] at h; cases h
  rw [qlL hl] at h
  injection h with h1 h2
  exact ⟨by rw [← h1]; simp, h2, hl⟩
def SkRes (id : Nat) (s : List Nat) (a : Nat) (H : List Obj) (lo : Nat) (r : Bool × Nat) (X : Option (Ex × St)) : Prop :=
  match r with
  | (true, a') => ∃ x e lo', (x = .nrm ∨ x = .ret) ∧ min lo id ≤ lo' ∧ (a' = a ∨ lo' ≤ id) ∧ lo' ≤ lo ∧ X = some (x, ⟨e, kh H id (sc s a'), lo'⟩)
  | (false, p) => ∃ e lo' a', min lo id ≤ lo' ∧ lo' ≤ lo ∧ (a' = a ∨ lo' ≤ id) ∧ X = some (.pan (.ifc 157 (.d (.agg [.i .i64 (p : Nat), .i .i64 30]))), ⟨e, kh H id (sc s a'), lo'⟩)
theorem SkRes.step {id : Nat} {s : List Nat} {a a2 : Nat} {H : List Obj} {lo : Nat} {r : Bool × Nat} {X : Option (Ex × St)} (h : SkRes id s a2 (kh H id (sc s a2)) (min lo id) r X) : SkRes id s a H lo r X := by
  obtain ⟨b, p⟩ := r
  cases b with
  | true =>
    obtain ⟨x, e, lo', h1, h2, h3, h4, h5⟩ := h
    rw [jz] at h5
    exact ⟨x, e, lo', h1, by omega, .inr (by omega), by omega, h5⟩
  | false =>
    obtain ⟨e, lo', a', h1, h2, h3, h5⟩ := h
    rw [jz] at h5
    exact ⟨e, lo', a', by omega, by omega, .inr (by omega), h5⟩
theorem SkRes.stay {id : Nat} {s : List Nat} {a : Nat} {H : List Obj} {lo : Nat} {X : Option (Ex × St)} (hH : H[id]? = some (sc s a)) (h : ∃ x e, (x = .nrm ∨ x = .ret) ∧ X = some (x, ⟨e, H, lo⟩)) : SkRes id s a H lo (true, a) X := by
  obtain ⟨x, e, hx, h⟩ := h
  exact ⟨x, e, lo, hx, Nat.min_le_left _ _, .inl rfl, qFw _, by rw [yF hH]; exact h⟩
theorem SkRes.bad {id p : Nat} {s : List Nat} {a : Nat} {H : List Obj} {lo : Nat} {X : Option (Ex × St)} (hH : H[id]? = some (sc s a)) (h : ∃ e, X = some (.pan (.ifc 157 (.d (.agg [.i .i64 (p : Nat), .i .i64 30]))), ⟨e, H, lo⟩)) : SkRes id s a H lo (false, p) X := by
  obtain ⟨e, h⟩ := h
  exact ⟨e, lo, a, Nat.min_le_left _ _, qFw _, .inl rfl, by rw [yF hH]; exact h⟩
theorem qBw {x y c d : Nat} {l : List Nat} : pre [x, y] (c :: d :: l) = (decide (c = x ∧ d = y)) := by simp [pre]
theorem qBR {x y c : Nat} : pre [x, y] [c] = false := by simp [pre]
theorem qyx {s : List Nat} (hs : ∀ c ∈ s, c < 256) (hz : s.length ≤ 1000000000000) {id : Nat} :
    ∀ (k a deep frm : Nat) (H : List Obj) (lo : Nat), s.length - a ≤ k → a ≤ s.length → deep ≤ a → H[id]? = some (sc s a) → lo ≤ H.length →
      SkRes id s a H lo (sk deep frm a (s.drop a)) (qbd pg (qaO 0 [2, 3] (jl pg (.ptr id 0) (.d (.i .i64 (frm : Nat))) (.d (.i .i64 (deep : Nat))) H lo)) jm) := by
  have endc : ∀ (deep frm : Nat) (H : List Obj) (lo : Nat), H[id]? = some (sc s s.length) → lo ≤ H.length →
      SkRes id s s.length H lo (if deep = 0 then (true, s.length) else (false, frm)) (qbd pg (qaO 0 [2, 3] (jl pg (.ptr id 0) (.d (.i .i64 (frm : Nat))) (.d (.i .i64 (deep : Nat))) H lo)) jm) := by
    intro deep frm H lo hH hlo
    have h1 : ((s.length : Int) < (s.length : Int)) = False := by simp
    have hm : min lo H.length = lo := by omega
    have hsf := yF hH
    rw [jG]
    by_cases hd : deep = 0
    · subst hd
      have h2 : ((0 : Int) < ((0 : Nat) : Int)) = False := by simp
      rw [if_pos rfl]
      refine .stay hH ⟨.nrm, ?_⟩
      simp only [reduceCtorEq, zm, ze, qT, Int.cast_ofNat_Int, qr, zu, kQ, qb, kZ, qC, qV, qw, kO, ji, kR, qA, qm, qf, zg, qFC, qy, q9, hH, kT, qFy, qFu, qFv, kA, jB, qD, Nat.add_zero, qL, qx, zx, qg, ko, qFM, Nat.reduceEqDiff, kX, h1, decide_false, kl, kj, qc, qB, qK, qFs, ↓reduceIte, qbN, qag, yq, qj, qo, jm, qs, qk, qG, qZ, kM, qFE, zk, zh, Int.reduceLT, qa, qR]
      exact ⟨_, by simp, rfl⟩
    · have h2 : ((0 : Int) < ((deep : Nat) : Int)) = True := by rw [eq_iff_iff]; simp; omega
      rw [if_neg hd]
      refine .bad hH ?_
      simp only [zm, ze, qT, qr, zu, kQ, qb, kZ, qC, qV, qw, kO, ji, kR, qA, qm, qf, zg, qFC, qy, q9, hH, kT, qFy, qFu, qFv, kA, jB, reduceCtorEq, qD, Nat.add_zero, qL, qx, zx, qg, ko, qFM, Nat.reduceEqDiff, kX, h1, decide_false, kl, kj, qc, qB, qK, qFs, ↓reduceIte, qbN, qag, yq, qj, qo, jm, qs, qk, qG, qZ, kM, qFE, zk, zh, h2, decide_true, qa, jh, zw, kg, qt, qFz, qFI, qe, qH, qh, qFD, qY, qc3, qu, qd, qF, qi, hm, qaY]
      exact ⟨_, rfl⟩
  intro k
  induction k with
  | zero =>
    intro a deep frm H lo hk ha hda hH hlo
    obtain rfl : a = s.length := by omega
    rw [List.drop_length]
    exact endc deep frm H lo hH hlo
  | succ k ih =>
    intro a deep frm H lo hk ha hda hH hlo
    have hm : min lo H.length = lo := by omega
    have hid : id < H.length := (List.getElem?_eq_some_iff.1 hH).1
    match hL : s.drop a with
    | [] =>
      have : s.length ≤ a := by simpa using hL
      obtain rfl : a = s.length := by omega
      exact endc deep frm H lo hH hlo
    | c :: L =>
      obtain ⟨hget, hdr, hlt⟩ := qqn hL
      have h1 : ((a : Int) < (s.length : Int)) = True := by rw [eq_iff_iff]; simp; omega
      have hix : ixV (.d (.s s)) (.d (.i .i64 (a : Int))) = some (.d (.i .u8 ((c : Nat) : Int))) := quA (by omega) (by simpa using hget)
      have hw1 : wr .i64 ((a : Int) + 1) = ((a + 1 : Nat) : Int) := by rw [qcY (by omega) (by omega)]; omega
      have hw2 : wr .i64 ((a : Int) + 2) = ((a + 2 : Nat) : Int) := by rw [qcY (by omega) (by omega)]; omega
      have hd1 : wr .i64 ((deep : Int) + 1) = ((deep + 1 : Nat) : Int) := by rw [qcY (by omega) (by omega)]; omega
      have hc : c < 256 := hs c (List.mem_of_getElem? hget)
      have hh1 := qgF (t := [40, 42]) hH (by omega)
      have hh2 := qgF (t := [42, 41]) hH (by omega)
      have hi := fun (t : List Nat) => qw8 (t := t) hc (H := H)
      have hb := qB2 hc
      rw [hL] at hh1 hh2
      -- one byte further
      have go1 : ∀ (h0 : (0 < deep ∨ blk c = true)) (p1 : pre [40, 42] (c :: L) = false) (p2 : 0 < deep → pre [42, 41] (c :: L) = false),
          SkRes id s a H lo (sk deep frm (a + 1) L) (qbd pg (qaO 0 [2, 3] (jl pg (.ptr id 0) (.d (.i .i64 (frm : Nat))) (.d (.i .i64 (deep : Nat))) H lo)) jm) := by
        intro h0 p1 p2
        have hH2 : (kh H id (sc s (a + 1)))[id]? = some (sc s (a + 1)) := jf hH
        have ih' := ih (a + 1) deep frm (kh H id (sc s (a + 1))) (min lo id) (by omega) (by omega) (by omega) hH2 (by simp only [kv]; omega)
        rw [hdr] at ih'
        refine SkRes.step (a2 := a + 1) ?_
        rw [jG]
        rw [p1] at hh1
        by_cases hd : deep = 0
        · subst hd
          have h2 : ((0 : Int) < ((0 : Nat) : Int)) = False := by simp
          have hbk : ((0 : Int) ≤ ixN c [9, 10, 13, 32]) = True := by rw [hb]; exact eq_true (h0.resolve_left (by omega))
          simp only [zm, ze, qT, Int.cast_ofNat_Int, qr, zu, kQ, qb, kZ, qC, qV, qw, kO, ji, kR, qA, qm, qf, zg, qFC, qy, q9, hH, kT, qFy, qFu, qFv, kA, jB, reduceCtorEq, qD, Nat.add_zero, qL, qx, zx, qg, ko, qFM, Nat.reduceEqDiff, kX, h1, decide_true, kl, kj, qc, qB, qK, ↓reduceIte, qR, qz, qs, qk, qG, za, qt, qFz, zk, qFI, qe, kp, qH, qh, qFD, qY, hh1, qu, qd, qF, qi, hm, qZ, jh, zw, kg, qa, qFs, kM, qFE, zh, Int.reduceLT, decide_false, ki, kq, kG, ku, qI, qW, zV, yk, zI, Bool.not_false, qak, kL, hix, hi, js, hbk, kJ, jn, hw1, qX, ju, jQ, kP, qFF, qFG, kC, jb, kS, kV, Nat.reduceAdd, Nat.reduceLT, ky, qFL, qFJ, kU, kW, qO, qj, qo, zP]
          exact ih'
        · have h2 : ((0 : Int) < ((deep : Nat) : Int)) = True := by rw [eq_iff_iff]; simp; omega
          rw [p2 (by omega)] at hh2
          simp only [zm, ze, qT, qr, zu, kQ, qb, kZ, qC, qV, qw, kO, ji, kR, qA, qm, qf, zg, qFC, qy, q9, hH, kT, qFy, qFu, qFv, kA, jB, reduceCtorEq, qD, Nat.add_zero, qL, qx, zx, qg, ko, qFM, Nat.reduceEqDiff, kX, h1, decide_true, kl, kj, qc, qB, qK, ↓reduceIte, qR, qz, qs, qk, qG, za, qt, qFz, zk, qFI, qe, kp, qH, qh, qFD, qY, hh1, qu, qd, qF, qi, hm, qZ, jh, zw, kg, qa, qFs, kM, qFE, zh, h2, ki, kq, kG, hh2, qI, kJ, yk, zI, qFO, qak, ku, qW, qdr, jn, hw1, qX, ju, jQ, kP, qFF, qFG, kC, jb, kS, kV, Nat.reduceAdd, Nat.reduceLT, ky, qFL, qFJ, kU, kW, qO, qj, qo, zP]
          exact ih'
      -- no further
      have stop : ∀ (h0 : deep = 0) (hbk : blk c = false) (p1 : pre [40, 42] (c :: L) = false),
          SkRes id s a H lo (true, a) (qbd pg (qaO 0 [2, 3] (jl pg (.ptr id 0) (.d (.i .i64 (frm : Nat))) (.d (.i .i64 (deep : Nat))) H lo)) jm) := by
        intro h0 hbk p1
        subst h0
        have h2 : ((0 : Int) < ((0 : Nat) : Int)) = False := by simp
        have hbk : ((0 : Int) ≤ ixN c [9, 10, 13, 32]) = False := by rw [hb, hbk]; simp
        rw [p1] at hh1
        rw [jG]
        refine .stay hH ⟨.ret, ?_⟩
        simp only [reduceCtorEq, zm, ze, qT, Int.cast_ofNat_Int, qr, zu, kQ, qb, kZ, qC, qV, qw, kO, ji, kR, qA, qm, qf, zg, qFC, qy, q9, hH, kT, qFy, qFu, qFv, kA, jB, qD, Nat.add_zero, qL, qx, zx, qg, ko, qFM, Nat.reduceEqDiff, kX, h1, decide_true, kl, kj, qc, qB, qK, ↓reduceIte, qR, qz, qs, qk, qG, za, qt, qFz, zk, qFI, qe, kp, qH, qh, qFD, qY, hh1, qu, qd, qF, qi, hm, qZ, jh, zw, kg, qa, qFs, kM, qFE, zh, Int.reduceLT, decide_false, ki, kq, kG, ku, qI, qW, zV, yk, zI, Bool.not_false, qak, kL, hix, hi, js, hbk, kJ, qP, zE, zp]
        exact ⟨_, by simp, rfl⟩
      match L, hdr, hh1, hh2 with
      | [], hdr, hh1, hh2 =>
        have p1 : pre [40, 42] [c] = false := qBR
        have p2 : pre [42, 41] [c] = false := qBR
        by_cases hd : deep = 0
        · cases hbk : blk c with
          | true => 
            have := go1 (.inr hbk) p1 (fun _ => p2)
            simpa [sk, hd, hbk] using this
          | false =>
            have := stop hd hbk p1
            simpa [sk, hd, hbk] using this
        · have := go1 (.inl (by omega)) p1 (fun _ => p2)
          simpa [sk, hd] using this
      | d :: l, hdr, hh1, hh2 =>
        obtain ⟨_, hdr2, hlt2⟩ := qqn hdr
        have hH2 : (kh H id (sc s (a + 2)))[id]? = some (sc s (a + 2)) := jf hH
        by_cases c1 : c = 40 ∧ d = 42
        · have ih' := ih (a + 2) (deep + 1) (if deep = 0 then a else frm) (kh H id (sc s (a + 2))) (min lo id) (by omega) (by omega) (by omega) hH2 (by simp only [kv]; omega)
          rw [hdr2] at ih'
          have p1 : pre [40, 42] (c :: d :: l) = true := by rw [qBw]; simpa using c1
          rw [p1] at hh1
          refine SkRes.step (a2 := a + 2) ?_
          rw [jG, sk, if_pos c1]
          by_cases hd : deep = 0
          · have h2 : (((deep : Nat) : Int) = 0) = True := by rw [eq_iff_iff]; simp; omega
            rw [if_pos hd] at ih' ⊢
            simp only [zm, ze, qT, qr, zu, kQ, qb, kZ, qC, qV, qw, kO, ji, kR, qA, qm, qf, zg, qFC, qy, q9, hH, kT, qFy, qFu, qFv, kA, jB, reduceCtorEq, qD, Nat.add_zero, qL, qx, zx, qg, ko, qFM, Nat.reduceEqDiff, kX, h1, decide_true, kl, kj, qc, qB, qK, ↓reduceIte, qR, qz, qs, qk, qG, za, qt, qFz, zk, qFI, qe, kp, qH, qh, qFD, qY, hh1, qu, qd, qF, qi, hm, qZ, jh, zw, kg, qa, kM, qFE, zD, h2, jn, hd1, hw2, qX, ju, jQ, kP, qFF, qFG, kC, jb, kS, kV, Nat.reduceAdd, Nat.reduceLT, ky, qFL, qFJ, kU, kW, qO, qj, qo, zP]
            exact ih'
          · have h2 : (((deep : Nat) : Int) = 0) = False := by rw [eq_iff_iff]; simp; omega
            rw [if_neg hd] at ih' ⊢
            simp only [zm, ze, qT, qr, zu, kQ, qb, kZ, qC, qV, qw, kO, ji, kR, qA, qm, qf, zg, qFC, qy, q9, hH, kT, qFy, qFu, qFv, kA, jB, reduceCtorEq, qD, Nat.add_zero, qL, qx, zx, qg, ko, qFM, Nat.reduceEqDiff, kX, h1, decide_true, kl, kj, qc, qB, qK, ↓reduceIte, qR, qz, qs, qk, qG, za, qt, qFz, zk, qFI, qe, kp, qH, qh, qFD, qY, hh1, qu, qd, qF, qi, hm, qZ, jh, zw, kg, qa, kM, qFE, zD, h2, decide_false, qFs, jn, hd1, hw2, qX, ju, jQ, kP, qFF, qFG, kC, jb, kS, kV, Nat.reduceAdd, Nat.reduceLT, ky, qFL, qFJ, kU, kW, qO, qj, qo, zP]
            exact ih'
        · have p1 : pre [40, 42] (c :: d :: l) = false := by rw [qBw]; simpa using c1
          by_cases c2 : 0 < deep ∧ c = 42 ∧ d = 41
          · have ih' := ih (a + 2) (deep - 1) frm (kh H id (sc s (a + 2))) (min lo id) (by omega) (by omega) (by omega) hH2 (by simp only [kv]; omega)
            rw [hdr2] at ih'
            have hd2 : wr .i64 ((deep : Int) - 1) = ((deep - 1 : Nat) : Int) := by rw [qcY (by omega) (by omega)]; omega
            have p2 : pre [42, 41] (c :: d :: l) = true := by rw [qBw]; simpa using c2.2
            have h2 : ((0 : Int) < ((deep : Nat) : Int)) = True := by rw [eq_iff_iff]; simp; omega
            rw [p1] at hh1
            rw [p2] at hh2
            refine SkRes.step (a2 := a + 2) ?_
            rw [jG, sk, if_neg c1, if_pos c2]
            simp only [zm, ze, qT, qr, zu, kQ, qb, kZ, qC, qV, qw, kO, ji, kR, qA, qm, qf, zg, qFC, qy, q9, hH, kT, qFy, qFu, qFv, kA, jB, reduceCtorEq, qD, Nat.add_zero, qL, qx, zx, qg, ko, qFM, Nat.reduceEqDiff, kX, h1, decide_true, kl, kj, qc, qB, qK, ↓reduceIte, qR, qz, qs, qk, qG, za, qt, qFz, zk, qFI, qe, kp, qH, qh, qFD, qY, hh1, qu, qd, qF, qi, hm, qZ, jh, zw, kg, qa, qFs, kM, qFE, zh, h2, ki, kq, kG, hh2, qI, kJ, qcw, hd2, jn, hw2, qX, ju, jQ, kP, qFF, qFG, kC, jb, kS, kV, Nat.reduceAdd, Nat.reduceLT, ky, qFL, qFJ, kU, kW, qO, qj, qo, zP]
            exact ih'
          · have p2 : 0 < deep → pre [42, 41] (c :: d :: l) = false := fun h => by
              rw [qBw]; simp only [decide_eq_false_iff_not]; exact fun h' => c2 ⟨h, h'⟩
            rw [sk, if_neg c1, if_neg c2]
            by_cases c3 : 0 < deep ∨ blk c = true
            · rw [if_pos c3]
              exact go1 c3 p1 p2
            · rw [if_neg c3]
              exact stop (by omega) (by simpa using fun h => c3 (.inr h)) p1
theorem qxY {s : List Nat} (hs : ∀ c ∈ s, c < 256) (hz : s.length ≤ 1000000000000) {id a : Nat} {H : List Obj} (ha : a ≤ s.length) (hH : H[id]? = some (sc s a)) :
    match sk 0 a a (s.drop a) with
    | (true, a') => ∃ sm lo, id ≤ lo ∧ lo ≤ H.length ∧ (a' = a ∨ lo ≤ id) ∧ kn pg 173 [.ptr id 0] H = some ⟨false, sm, .tup [], kh H id (sc s a'), lo⟩
    | (false, p) => ∃ sm lo a', id ≤ lo ∧ lo ≤ H.length ∧ (a' = a ∨ lo ≤ id) ∧ kn pg 173 [.ptr id 0] H = some ⟨true, sm, .ifc 157 (.d (.agg [.i .i64 (p : Nat), .i .i64 30])), kh H id (sc s a'), lo⟩ := by
  have hid : id < H.length := (List.getElem?_eq_some_iff.1 hH).1
  have hl := qyx hs hz (s.length - a) a 0 a H H.length (qFw _) ha (by omega) hH (qFw _)
  rw [zl (fn := qaj) rfl rfl]
  generalize hr : sk 0 a a (s.drop a) = r at hl
  obtain ⟨b, p⟩ := r
  have hz0 : ((0 : Nat) : Int) = 0 := rfl
  rw [hz0] at hl
  cases b with
  | true =>
    obtain ⟨x, e, lo', h1, h2, h3, h4, h5⟩ := hl
    obtain ⟨sm, hlv⟩ := qgv (pan := false) (v := .tup []) (e := e) (lo := lo') (o := sc s p) rfl rfl (fun _ => rfl) (by
      rcases h3 with h | h
      · left; rw [h]; exact yF hH
      · right; exact h) hid
    refine ⟨sm, lo', by omega, by omega, h3, ?_⟩
    simp only [qaj, ql, qFC, qq, qr, qs, qk, qb, kZ, qC, qV, qw, qG, za, qA, qm, qf, zg, qy, q9, hH, kT, qFy, qFu, qFv, kA, qZ, qx, zk, qF, qa, qc, qz, zP, reduceCtorEq, qD, ze, Nat.reduceEqDiff, qT]
    rw [h5]
    rcases h1 with rfl | rfl
    · simp only [qiZ, qp, qnz]; exact hlv
    · simp only [qQ, qp, qnz]; exact hlv
  | false =>
    obtain ⟨e, lo', a', h1, h2, h3, h5⟩ := hl
    obtain ⟨sm, hlv⟩ := qgv (pan := true) (v := .ifc 157 (.d (.agg [.i .i64 (p : Nat), .i .i64 30]))) (e := e) (lo := lo') (o := sc s a') rfl rfl (fun _ => rfl) (by
      rcases h3 with h | h
      · left; rw [h]; exact yF hH
      · right; exact h) hid
    refine ⟨sm, lo', a', by omega, by omega, h3, ?_⟩
    simp only [qaj, ql, qFC, qq, qr, qs, qk, qb, kZ, qC, qV, qw, qG, za, qA, qm, qf, zg, qy, q9, hH, kT, qFy, qFu, qFv, kA, qZ, qx, zk, qF, qa, qc, qz, zP, reduceCtorEq, qD, ze, Nat.reduceEqDiff, qT]
    rw [h5]
    simp only [qan]; exact hlv
end W

set_option linter.unusedSimpArgs false
set_option linter.unusedVariables false
namespace W
open Go (IntKind BinOp UnOp)
set_option maxRecDepth 20000
theorem qvT {L : List (List Nat)} {t : List Nat} (hz : L.length ≤ 1000000000000) {H : List Obj} :
    ∀ (k i : Nat), L.length - i = k → i ≤ L.length → (∀ j, j < i → L[j]? ≠ some t) →
      ∃ e x r, (x = .nrm ∨ x = .ret) ∧ (decide ((0 : Int) ≤ r) = decide (t ∈ L)) ∧ get 4 e = .d (.i .i64 r) ∧
        qbd pg (qaO 0 [] (jp pg (.d (slD D.s L)) (.d (.s t)) (.d (.i .i64 (L.length : Nat))) (.d (.i .i64 (i : Nat))) H H.length)) jo = some (x, ⟨e, H, H.length⟩) := by
  intro k
  induction k with
  | zero =>
    intro i hk hi hno
    obtain rfl : i = L.length := by omega
    have h1 : ((L.length : Int) < (L.length : Int)) = False := by simp
    have hnm : t ∉ L := by
      intro h
      obtain ⟨j, hj⟩ := List.getElem?_of_mem h
      have : j < L.length := (List.getElem?_eq_some_iff.1 hj).1
      exact hno j this hj
    rw [qad]
    simp only [zJ, qT, qr, qs, qk, qg, ko, qFM, kZ, reduceCtorEq, qD, Nat.reduceEqDiff, qC, qx, kX, h1, decide_false, qm, qG, qZ, qa, qc, qB, qK, qFs, ↓reduceIte, qbN, qag, yq, qo, jo, Int.reduceNeg, qb, zk, qF, qP]
    exact ⟨_, _, -1, .inr rfl, by simp [hnm], rfl, rfl⟩
  | succ k ih =>
    intro i hk hi hno
    have h1 : ((i : Int) < (L.length : Int)) = True := by rw [eq_iff_iff]; simp; omega
    have hlt : i < L.length := by omega
    have hia : iaV (.d (slD D.s L)) (.d (.i .i64 (i : Int))) 1 none = some (.cp (.s L[i])) := qst (fun _ => rfl) (by omega) (by simp)
    have hw : wr .i64 ((i : Int) + 1) = ((i + 1 : Nat) : Int) := by rw [qcY (by omega) (by omega)]; omega
    rw [qad]
    by_cases he : t = L[i]
    · have h2 : (t = L[i]) = True := by simp [he]
      simp only [zJ, qT, qr, qs, qk, qg, ko, qFM, kZ, reduceCtorEq, qD, Nat.reduceEqDiff, qC, qx, kX, h1, decide_true, qm, qG, qZ, qa, qc, qB, qK, ↓reduceIte, qR, qz, qb, qw, kB, hia, qaP, qy, jH, jR, yy, h2, qP, zE, zp, jo, Int.reduceNeg]
      exact ⟨_, _, (i : Int), .inr rfl, by rw [he]; simp, rfl, rfl⟩
    · have h2 : (t = L[i]) = False := by simp [he]
      have ih' := ih (i + 1) (by omega) (by omega) (fun j hj => by
        rcases Nat.lt_or_ge j i with h | h
        · exact hno j h
        · obtain rfl : j = i := by omega
          rw [List.getElem?_eq_getElem hlt]
          intro h'; exact he (Option.some.inj h').symm)
      simp only [zJ, qT, qr, qs, qk, qg, ko, qFM, kZ, reduceCtorEq, qD, Nat.reduceEqDiff, qC, qx, kX, h1, decide_true, qm, qG, qZ, qa, qc, qB, qK, ↓reduceIte, qR, qz, qb, qw, kB, hia, qaP, qy, jH, jR, yy, h2, decide_false, qFs, qO, qj, qo, kM, qFE, zk, jn, hw, qaa]
      exact ih'
theorem qq4 {L : List (List Nat)} {t : List Nat} (hz : L.length ≤ 1000000000000) {H : List Obj} :
    ∃ r : Int, decide ((0 : Int) ≤ r) = decide (t ∈ L) ∧ kn pg 181 [.d (slD D.s L), .d (.s t)] H = some ⟨false, true, .d (.i .i64 r), H, H.length⟩ := by
  obtain ⟨e, x, r, hx, h1, h2, h3⟩ := qvT (t := t) hz (H := H) L.length 0 rfl (by omega) (by simp)
  refine ⟨r, h1, ?_⟩
  rw [zl (fn := jy) rfl rfl]
  have hz0 : ((0 : Nat) : Int) = 0 := rfl
  rw [hz0] at h3
  simp only [jy, ql, qFC, Nat.reduceAdd, qq, qr, qs, qk, qb, zk, qF, qG, qZ, qa, qc, kZ, reduceCtorEq, qD, qC, qx, qw, zO, qcN, qm, qz, qaa, qT, Nat.reduceEqDiff]
  rw [h3]
  rcases hx with rfl | rfl
  all_goals simp only [qiZ, qn, kx, h2, ja, qp, qE, kf, qH, qbP, jM, zj, qQ]
  all_goals rfl
theorem qq9 {t : List Nat} {H : List Obj} : kn pg 84 [.d (.sl (KW.map D.s)), .d (.s t)] H = some ⟨false, true, .d (.b (decide (t ∈ KW))), H, H.length⟩ := by
  obtain ⟨r, h1, h2⟩ := qq4 (L := KW) (t := t) (by decide) (H := H)
  have hk : slD D.s KW = .sl (KW.map D.s) := rfl
  rw [hk] at h2
  rw [zl (fn := zi) rfl rfl]
  simp only [zi, ql, qFC, Nat.reduceAdd, qq, qr, qs, qk, qb, zk, qF, qG, qZ, qa, qc, jh, reduceCtorEq, qD, qC, zw, kg, Nat.reduceEqDiff, qt, qFz, qFI, qe, qH, qh, qFD, qY, h2, qu, qd, qi, Nat.min_self, qg, ko, kM, qFE, kZ, qx, js, h1, qm, qw, qP, qQ, qn, kx, ja, qp, qE, kf, qbP, jM, zj]
  all_goals rfl
def tok (k p e : Int) (t : List Nat) (n : Int) : D := .agg [.i .i64 k, .i .i64 p, .i .i64 e, .s t, .i .i32 n]
inductive Sy where
  | ok (k : Int) (t : List Nat) (n : Int) (a : Nat)
  | bad (e : Int)
def MRes (id : Nat) (s : List Nat) (a : Nat) (H : List Obj) (r : Sy) (X : Option Cr) : Prop :=
  match r with
  | .ok k t n a' => ∃ sm lo, id ≤ lo ∧ lo ≤ H.length ∧ (a' = a ∨ lo ≤ id) ∧ X = some ⟨false, sm, .d (tok k 0 0 t n), kh H id (sc s a'), lo⟩
  | .bad e => ∃ sm lo a', id ≤ lo ∧ lo ≤ H.length ∧ (a' = a ∨ lo ≤ id) ∧ X = some ⟨true, sm, .ifc 157 (.d (.agg [.i .i64 (a : Nat), .i .i64 e])), kh H id (sc s a'), lo⟩
theorem MRes.good {id : Nat} {s : List Nat} {a a' : Nat} {H : List Obj} {k n : Int} {t : List Nat} {e : Env} {lo : Nat} {X : Option Cr} (hid : id < H.length) (hH : H[id]? = some (sc s a)) (h1 : id ≤ lo) (h2 : lo ≤ H.length) (h3 : a' = a ∨ lo ≤ id)
    (h : X = leave H false (.d (tok k 0 0 t n)) ⟨e, kh H id (sc s a'), lo⟩) : MRes id s a H (.ok k t n a') X := by
  obtain ⟨sm, hlv⟩ := qgv (pan := false) (v := .d (tok k 0 0 t n)) (e := e) (lo := lo) (o := sc s a') rfl rfl (fun _ => rfl) (by
      rcases h3 with h | h
      · left; rw [h]; exact yF hH
      · right; exact h) hid
  exact ⟨sm, lo, h1, h2, h3, h.trans hlv⟩
theorem MRes.worse {id : Nat} {s : List Nat} {a a' : Nat} {H : List Obj} {x : Int} {e : Env} {lo : Nat} {X : Option Cr} (hid : id < H.length) (hH : H[id]? = some (sc s a)) (h1 : id ≤ lo) (h2 : lo ≤ H.length) (h3 : a' = a ∨ lo ≤ id)
    (h : X = leave H true (.ifc 157 (.d (.agg [.i .i64 (a : Nat), .i .i64 x]))) ⟨e, kh H id (sc s a'), lo⟩) : MRes id s a H (.bad x) X := by
  obtain ⟨sm, hlv⟩ := qgv (pan := true) (v := .ifc 157 (.d (.agg [.i .i64 (a : Nat), .i .i64 x]))) (e := e) (lo := lo) (o := sc s a') rfl rfl (fun _ => rfl) (by
      rcases h3 with h | h
      · left; rw [h]; exact yF hH
      · right; exact h) hid
  exact ⟨sm, lo, a', h1, h2, h3, h.trans hlv⟩
def qqY (s : List Nat) (a : Nat) : Sy :=
  if 32 < run cNm (s.drop a) then .bad 34
  else if (s.drop a).take (run cNm (s.drop a)) ∈ KW then .ok 6 ((s.drop a).take (run cNm (s.drop a))) 0 (a + run cNm (s.drop a))
  else .ok 1 ((s.drop a).take (run cNm (s.drop a))) 0 (a + run cNm (s.drop a))
theorem qxO {s : List Nat} (hz : s.length ≤ 1000000000000) {id a : Nat} {H : List Obj} (ha : a ≤ s.length) (hH : H[id]? = some (sc s a)) : MRes id s a H (qqY s a) (kn pg 175 [.ptr id 0] H) := by
  have hid : id < H.length := (List.getElem?_eq_some_iff.1 hH).1
  obtain ⟨sm, lo, g1, g2, g3, hw⟩ := qm2 (F := 260) (P := cNm) (fun c H => qwf) hz ha hH
  have hle := qjg cNm (s.drop a)
  rw [zl (fn := yi) rfl rfl]
  have hm1 : min H.length lo = lo := by omega
  have hm2 : min lo H.length = lo := by omega
  have hlen : ((s.drop a).take (run cNm (s.drop a))).length = run cNm (s.drop a) := by simp only [List.length_take]; omega
  have hc := fun (H : List Obj) => qq9 (t := (s.drop a).take (run cNm (s.drop a))) (H := H)
  have g3' : a + run cNm (s.drop a) = a ∨ lo ≤ id := by omega
  unfold qqY
  by_cases h1 : 32 < run cNm (s.drop a)
  · have e1 : ((32 : Int) < ((run cNm (s.drop a) : Nat) : Int)) = True := by rw [eq_iff_iff]; simp; omega
    rw [if_pos h1]
    refine MRes.worse hid hH g1 g2 g3' ?_ (e := ?_)
    rotate_left
    · simp only [yi, ql, qFC, qq, qr, qs, qk, qM, qFz, qFI, qG, zz, qU, k9, ke, qa, qc, qb, kZ, reduceCtorEq, qD, qC, qV, qw, za, qA, qm, qf, zg, qy, q9, hH, kT, qFy, qFu, qFv, kA, qZ, qx, jh, qiE, kg, qt, qnQ, qe, kp, qab, qap, qFD, qh, qY, hw, qu, qd, qcb, qi, hm1, zw, qz, qL, zx, hlen, qg, ko, kM, qFE, zk, zh, e1, decide_true, qB, qK, ↓reduceIte, Nat.reduceEqDiff, qH, qc3, kv, qF, hm2, qaY, qa5, yH, qan]
      rfl
  · have e1 : ((32 : Int) < ((run cNm (s.drop a) : Nat) : Int)) = False := by rw [eq_iff_iff]; simp; omega
    rw [if_neg h1]
    by_cases h2 : (s.drop a).take (run cNm (s.drop a)) ∈ KW
    · rw [if_pos h2]
      refine MRes.good hid hH g1 g2 g3' ?_ (e := ?_)
      rotate_left
      · simp only [yi, ql, qFC, qq, qr, qs, qk, qM, qFz, qFI, qG, zz, qU, k9, ke, qa, qc, qb, kZ, reduceCtorEq, qD, qC, qV, qw, za, qA, qm, qf, zg, qy, q9, hH, kT, qFy, qFu, qFv, kA, qZ, qx, jh, qiE, kg, qt, qnQ, qe, kp, qab, qap, qFD, qh, qY, hw, qu, qd, qcb, qi, hm1, zw, qz, qL, zx, hlen, qg, ko, kM, qFE, zk, zh, e1, decide_false, qB, qK, qFs, ↓reduceIte, qwR, kv, hm2, Nat.reduceEqDiff, qH, hc, h2, decide_true, zc, jQ, kP, jb, qFF, qFG, Nat.reduceAdd, Nat.reduceLT, jP, qFJ, qaD, qFL, zS, zQ, zF, jI, zH, kK, zf, qX, zB, zy, zq, kC, kS, kY, kD, kI, kW, qP, zE, zp, qQ, qn, zn, yB, Nat.reduceLeDiff, j0, qFQ, qFP, List.take_zero, qp, qE, kf]
        rfl
    · rw [if_neg h2]
      refine MRes.good hid hH g1 g2 g3' ?_ (e := ?_)
      rotate_left
      · simp only [yi, ql, qFC, qq, qr, qs, qk, qM, qFz, qFI, qG, zz, qU, k9, ke, qa, qc, qb, kZ, reduceCtorEq, qD, qC, qV, qw, za, qA, qm, qf, zg, qy, q9, hH, kT, qFy, qFu, qFv, kA, qZ, qx, jh, qiE, kg, qt, qnQ, qe, kp, qab, qap, qFD, qh, qY, hw, qu, qd, qcb, qi, hm1, zw, qz, qL, zx, hlen, qg, ko, kM, qFE, zk, zh, e1, decide_false, qB, qK, qFs, ↓reduceIte, qwR, kv, hm2, Nat.reduceEqDiff, qH, hc, h2, qR, qO, qj, zA, qT, qo, zc, jQ, kP, jb, qFF, qFG, Nat.reduceAdd, Nat.reduceLT, jP, qFJ, qaD, qFL, zS, zQ, zF, jI, zH, kK, zf, qX, zB, zy, zq, kC, kS, kY, kD, kI, kW, qP, qQ, qn, zn, yB, Nat.reduceLeDiff, j0, qFQ, qFP, List.take_zero, qp, qE, kf]
        rfl
end W

set_option linter.unusedSimpArgs false
set_option linter.unusedVariables false
namespace W
open Go (IntKind BinOp UnOp)
set_option maxRecDepth 20000
def dg (c : Nat) : Nat := if c ≤ 57 then c - 48 else c - 55
def pu (b mx : Nat) : Nat → List Nat → Option Nat
  | n, [] => some n
  | n, c :: l => if b ≤ dg c then none else if mx < n * b + dg c then none else pu b mx (n * b + dg c) l
theorem qyw {c : Nat} (h1 : 65 ≤ c) (h2 : c ≤ 70) {H : List Obj} : kn pg 324 [.d (.i .u8 (c : Nat))] H = some ⟨false, true, .d (.i .u8 ((c + 32 : Nat) : Int)), H, H.length⟩ := by
  rw [zl (fn := yQ) rfl rfl]
  have : c = 65 ∨ c = 66 ∨ c = 67 ∨ c = 68 ∨ c = 69 ∨ c = 70 := by omega
  rcases this with rfl | rfl | rfl | rfl | rfl | rfl
  all_goals simp only [yQ, Int.cast_ofNat_Int, ql, qFC, qq, qr, qs, qk, qb, zk, qF, qG, qZ, qa, qc, kZ, reduceCtorEq, qD, qC, qx, qw, qg, ko, kM, qFE, qvK, qm, qP, qQ, qn, kx, ja, qp, qE, kf, qH, qbP, jM, zj, Nat.reduceAdd]
  all_goals rfl
def qr5 (H : List Obj) (r : Option Nat) (X : Option (Ex × St)) : Prop :=
  match r with
  | some u => ∃ e, get 6 e = .d (.i .u64 (u : Nat)) ∧ get 7 e = .d .ni ∧ X = some (.ret, ⟨e, H, H.length⟩)
  | none => ∃ e z er, (er = 1 ∨ er = 2) ∧ get 6 e = .d (.i .u64 z) ∧ get 7 e = .ifc 323 (.d (.i .i64 er)) ∧ X = some (.ret, ⟨e, H, H.length⟩)
theorem qAC {s s0 : List Nat} (hs : ∀ c ∈ s, cHx c = true) (hz : s.length ≤ 1000000000000) {b mx ct : Nat} (hb : b = 10 ∨ b = 16) (hmx : mx ≤ 4294967295) (hct : mx < ct) {H : List Obj} :
    ∀ (k i n : Nat), s.length - i = k → i ≤ s.length → n ≤ mx →
      qr5 H (pu b mx n (s.drop i)) (qbd pg (qaO 3 [9, 12, 13] (z1 pg (.d (.i .i64 (b : Nat))) (.d (.b false)) (.d (.s s0)) (.d (.i .u64 (ct : Nat))) (.d (.i .u64 (mx : Nat))) (.d (.b false)) (.d (.i .u64 (n : Nat))) (slV e8 s) (.d (.i .i64 (s.length : Nat))) (.d (.i .i64 (i : Nat))) H H.length)) jx) := by
  intro k
  induction k with
  | zero =>
    intro i n hk hi hn
    obtain rfl : i = s.length := by omega
    have h1 : ((s.length : Int) < (s.length : Int)) = False := by simp
    rw [List.drop_length, qay]
    simp only [qr5, pu, kE, qT, yj, qr, qs, qk, qg, ko, qFM, kZ, Nat.reduceEqDiff, qD, qC, qx, kX, h1, decide_false, qm, qG, qZ, qa, qc, qB, qK, qFs, ↓reduceIte, qbN, qag, yq, qj, qo, jx, qb, qw, ki, kq, kG, ku, qI, qW, zk, zV, qR, qF, qP]
    exact ⟨_, rfl, rfl, rfl⟩
  | succ k ih =>
    intro i n hk hi hn
    have h1 : ((i : Int) < (s.length : Int)) = True := by rw [eq_iff_iff]; simp; omega
    have hlt : i < s.length := by omega
    obtain ⟨c, hget⟩ : ∃ c, s[i]? = some c := ⟨s[i], by simp⟩
    have hdr : s.drop i = c :: s.drop (i + 1) := by
      rw [qlL hlt]
      congr 1
      have := List.getElem?_eq_getElem hlt
      rw [this] at hget
      exact Option.some.inj hget
    have hcx := hs c (List.mem_of_getElem? hget)
    have hcr : (48 ≤ c ∧ c ≤ 57) ∨ (65 ≤ c ∧ c ≤ 70) := by
      simp only [cHx, cDg, Bool.or_eq_true, qFt, decide_eq_true_eq] at hcx
      exact hcx
    have hia : iaV (.d (slD e8 s)) (.d (.i .i64 (i : Int))) 1 none = some (.cp (e8 c)) := qst (fun _ => rfl) (by omega) (by simpa using hget)
    have hw : wr .i64 ((i : Int) + 1) = ((i + 1 : Nat) : Int) := by rw [qcY (by omega) (by omega)]; omega
    have h95 : ((c : Int) = 95) = False := by rw [eq_iff_iff]; simp; omega
    have hd : dg c < 16 := by unfold dg; split <;> omega
    have hb8 : wr .u8 ((b : Nat) : Int) = (b : Int) := qwS (by omega) (by omega)
    have hb64 : wr .u64 ((b : Nat) : Int) = (b : Int) := qs3 (by omega) (by omega)
    have hd64 : wr .u64 ((dg c : Nat) : Int) = (dg c : Int) := qs3 (by omega) (by omega)
    have hnb : n * b ≤ 4294967295 * 16 := Nat.mul_le_mul (by omega) (by omega)
    have hm64 : wr .u64 ((n : Int) * (b : Int)) = ((n * b : Nat) : Int) := by
      have e : ((n : Int) * (b : Int)) = ((n * b : Nat) : Int) := by push_cast; rfl
      rw [e]
      exact qs3 (by omega) (by omega)
    have ha64 : wr .u64 (((n * b : Nat) : Int) + (dg c : Int)) = ((n * b + dg c : Nat) : Int) := by rw [qs3 (by omega) (by omega)]; push_cast; rfl
    have hcut : ((ct : Int) ≤ (n : Int)) = False := by rw [eq_iff_iff]; simp; omega
    have hnn : n ≤ n * b := Nat.le_mul_of_pos_right n (by omega)
    have hlt2 : (((n * b + dg c : Nat) : Int) < ((n * b : Nat) : Int)) = False := by rw [eq_iff_iff]; simp; omega
    rw [hdr, qay, pu]
    rcases hcr with ⟨g1, g2⟩ | ⟨g1, g2⟩
    · have e1 : ((48 : Int) ≤ (c : Int)) = True := by rw [eq_iff_iff]; simp; omega
      have e2 : ((c : Int) ≤ 57) = True := by rw [eq_iff_iff]; simp; omega
      have e3 : wr .u8 ((c : Int) - 48) = (dg c : Int) := by rw [qwS (by omega) (by omega)]; simp only [dg, g2, if_true]; omega
      by_cases q1 : b ≤ dg c
      · have f1 : ((b : Int) ≤ (dg c : Int)) = True := by rw [eq_iff_iff]; simp; omega
        rw [if_pos q1]
        simp only [qr5, kE, qT, yj, qr, qs, qk, qg, ko, qFM, kZ, Nat.reduceEqDiff, qD, qC, qx, kX, h1, decide_true, qm, qG, qZ, qa, qc, qB, qK, ↓reduceIte, qR, qz, kB, y6, hia, e8, qaP, qy, jH, qah, qb, qw, zk, qF, kM, qFE, zD, h95, decide_false, ki, kq, kG, qFs, ku, qI, qW, zV, Bool.or_false, yw, e1, e2, kJ, qcw, e3, qO, qj, qo, j5, hb8, js, f1, qco, qgc, qcR, qaU, qP, zp, zE]
        exact ⟨_, 0, 2, .inr rfl, rfl, rfl, rfl⟩
      · have f1 : ((b : Int) ≤ (dg c : Int)) = False := by rw [eq_iff_iff]; simp; omega
        rw [if_neg q1]
        by_cases q2 : mx < n * b + dg c
        · have f2 : ((mx : Int) < ((n * b + dg c : Nat) : Int)) = True := by rw [eq_iff_iff]; simp; omega
          rw [if_pos q2]
          simp only [qr5, kE, qT, yj, qr, qs, qk, qg, ko, qFM, kZ, Nat.reduceEqDiff, qD, qC, qx, kX, h1, decide_true, qm, qG, qZ, qa, qc, qB, qK, ↓reduceIte, qR, qz, kB, y6, hia, e8, qaP, qy, jH, qah, qb, qw, zk, qF, kM, qFE, zD, h95, decide_false, ki, kq, kG, qFs, ku, qI, qW, zV, Bool.or_false, yw, e1, e2, kJ, qcw, e3, qO, qj, qo, j5, hb8, js, f1, hcut, hb64, qlx, hm64, hd64, jn, ha64, hlt2, zI, Bool.not_false, zh, f2, qco, qgc, qcR, qaU, qP, zp, zE]
          exact ⟨_, _, 1, .inl rfl, rfl, rfl, rfl⟩
        · have f2 : ((mx : Int) < ((n * b + dg c : Nat) : Int)) = False := by rw [eq_iff_iff]; simp; omega
          rw [if_neg q2]
          have ih' := ih (i + 1) (n * b + dg c) (by omega) (by omega) (by omega)
          simp only [kE, qT, yj, qr, qs, qk, qg, ko, qFM, kZ, Nat.reduceEqDiff, qD, qC, qx, kX, h1, decide_true, qm, qG, qZ, qa, qc, qB, qK, ↓reduceIte, qR, qz, kB, y6, hia, e8, qaP, qy, jH, qah, qb, qw, zk, qF, kM, qFE, zD, h95, decide_false, ki, kq, kG, qFs, ku, qI, qW, zV, Bool.or_false, yw, e1, e2, kJ, qcw, e3, qO, qj, qo, j5, hb8, js, f1, hcut, hb64, qlx, hm64, hd64, jn, ha64, hlt2, zI, Bool.not_false, zh, f2, hw, zK]
          exact ih'
    · have e1 : ((48 : Int) ≤ (c : Int)) = True := by rw [eq_iff_iff]; simp; omega
      have e2 : ((c : Int) ≤ 57) = False := by rw [eq_iff_iff]; simp; omega
      have lw := fun (H : List Obj) => qyw g1 g2 (H := H)
      have e4 : ((97 : Int) ≤ ((c + 32 : Nat) : Int)) = True := by rw [eq_iff_iff]; simp; omega
      have e5 : (((c + 32 : Nat) : Int) ≤ 122) = True := by rw [eq_iff_iff]; simp; omega
      have e6 : wr .u8 (((c + 32 : Nat) : Int) - 97) = ((c - 65 : Nat) : Int) := by rw [qwS (by omega) (by omega)]; omega
      have e3 : wr .u8 (((c - 65 : Nat) : Int) + 10) = (dg c : Int) := by
        have : ¬ c ≤ 57 := by omega
        rw [qwS (by omega) (by omega)]; simp only [dg, this, if_false]; omega
      by_cases q1 : b ≤ dg c
      · have f1 : ((b : Int) ≤ (dg c : Int)) = True := by rw [eq_iff_iff]; simp; omega
        rw [if_pos q1]
        simp only [qr5, kE, qT, yj, qr, qs, qk, qg, ko, qFM, kZ, Nat.reduceEqDiff, qD, qC, qx, kX, h1, decide_true, qm, qG, qZ, qa, qc, qB, qK, ↓reduceIte, qR, qz, kB, y6, hia, e8, qaP, qy, jH, qah, qb, qw, zk, qF, kM, qFE, zD, h95, decide_false, ki, kq, kG, qFs, ku, qI, qW, zV, Bool.or_false, yw, e1, e2, kJ, qt, qFz, qFI, qe, qH, qh, qFD, qY, lw, qu, qd, qi, Nat.min_self, e4, e5, jh, zw, kg, qcw, e6, jn, e3, qO, qj, qo, j5, hb8, js, f1, qco, qgc, qcR, qaU, qP, zp, zE]
        exact ⟨_, 0, 2, .inr rfl, rfl, rfl, rfl⟩
      · have f1 : ((b : Int) ≤ (dg c : Int)) = False := by rw [eq_iff_iff]; simp; omega
        rw [if_neg q1]
        by_cases q2 : mx < n * b + dg c
        · have f2 : ((mx : Int) < ((n * b + dg c : Nat) : Int)) = True := by rw [eq_iff_iff]; simp; omega
          rw [if_pos q2]
          simp only [qr5, kE, qT, yj, qr, qs, qk, qg, ko, qFM, kZ, Nat.reduceEqDiff, qD, qC, qx, kX, h1, decide_true, qm, qG, qZ, qa, qc, qB, qK, ↓reduceIte, qR, qz, kB, y6, hia, e8, qaP, qy, jH, qah, qb, qw, zk, qF, kM, qFE, zD, h95, decide_false, ki, kq, kG, qFs, ku, qI, qW, zV, Bool.or_false, yw, e1, e2, kJ, qt, qFz, qFI, qe, qH, qh, qFD, qY, lw, qu, qd, qi, Nat.min_self, e4, e5, jh, zw, kg, qcw, e6, jn, e3, qO, qj, qo, j5, hb8, js, f1, hcut, hb64, qlx, hm64, hd64, ha64, hlt2, zI, Bool.not_false, zh, f2, qco, qgc, qcR, qaU, qP, zp, zE]
          exact ⟨_, _, 1, .inl rfl, rfl, rfl, rfl⟩
        · have f2 : ((mx : Int) < ((n * b + dg c : Nat) : Int)) = False := by rw [eq_iff_iff]; simp; omega
          rw [if_neg q2]
          have ih' := ih (i + 1) (n * b + dg c) (by omega) (by omega) (by omega)
          simp only [kE, qT, yj, qr, qs, qk, qg, ko, qFM, kZ, Nat.reduceEqDiff, qD, qC, qx, kX, h1, decide_true, qm, qG, qZ, qa, qc, qB, qK, ↓reduceIte, qR, qz, kB, y6, hia, e8, qaP, qy, jH, qah, qb, qw, zk, qF, kM, qFE, zD, h95, decide_false, ki, kq, kG, qFs, ku, qI, qW, zV, Bool.or_false, yw, e1, e2, kJ, qt, qFz, qFI, qe, qH, qh, qFD, qY, lw, qu, qd, qi, Nat.min_self, e4, e5, jh, zw, kg, qcw, e6, jn, e3, qO, qj, qo, j5, hb8, js, f1, hcut, hb64, qlx, hm64, hd64, ha64, hlt2, zI, Bool.not_false, zh, f2, hw, zK]
          exact ih'
theorem qzp {c : Nat} {l : List Nat} : (c :: l = ([] : List Nat)) = False := by simp
theorem qq6 {c : Nat} {l : List Nat} : V.osl ((D.i .u8 (c : Nat)) :: l.map fun n : Nat => D.i .u8 n) = slV e8 (c :: l) := rfl
def PuC (H : List Obj) (r : Option Nat) (X : Option Cr) : Prop :=
  match r with
  | some u => X = some ⟨false, true, .tup [.d (.i .u64 (u : Nat)), .d .ni], H, H.length⟩
  | none => ∃ z er, (er = 1 ∨ er = 2) ∧ X = some ⟨false, true, .tup [.d (.i .u64 z), .ifc 323 (.d (.i .i64 er))], H, H.length⟩
theorem qA8 {s : List Nat} (hs : ∀ c ∈ s, cHx c = true) (hne : s ≠ []) (hz : s.length ≤ 1000000000000) {b bits mx : Nat} (hb : b = 10 ∧ bits = 31 ∧ mx = 2147483647 ∨ b = 16 ∧ bits = 32 ∧ mx = 4294967295 ∨ b = 16 ∧ bits = 8 ∧ mx = 255) {H : List Obj} :
    PuC H (pu b mx 0 s) (kn pg 303 [.d (.s s), .d (.i .i64 (b : Nat)), .d (.i .i64 (bits : Nat))] H) := by
  obtain ⟨c, l, rfl⟩ : ∃ c l, s = c :: l := by
    cases s with
    | nil => exact absurd rfl hne
    | cons c l => exact ⟨c, l, rfl⟩
  rw [zl (fn := zR) rfl rfl]
  have key : ∀ (ct : Nat) X, mx < ct → (b = 10 ∨ b = 16) → mx ≤ 4294967295 → X = qno H false [.t 6, .t 7] (qbd pg (qaO 3 [9, 12, 13] (z1 pg (.d (.i .i64 (b : Nat))) (.d (.b false)) (.d (.s (c :: l))) (.d (.i .u64 (ct : Nat))) (.d (.i .u64 (mx : Nat))) (.d (.b false)) (.d (.i .u64 0)) (slV e8 (c :: l)) (.d (.i .i64 ((c :: l).length : Nat))) (.d (.i .i64 0)) H H.length)) jx) → PuC H (pu b mx 0 (c :: l)) X := by
    intro ct X hct hb hmx hX
    have hl := qAC (s0 := c :: l) hs hz hb hmx hct (H := H) (c :: l).length 0 0 (by omega) (by omega) (by omega)
    have hz0 : ((0 : Nat) : Int) = 0 := rfl
    rw [qFQ, hz0] at hl
    subst hX
    generalize pu b mx 0 (c :: l) = r at hl
    cases r with
    | some u =>
      obtain ⟨e, h1, h2, h3⟩ := hl
      rw [h3]
      simp only [PuC, qQ, qn, kx, h1, ja, h2, qp, qE, qdI, qen, qf7, qv5, qap, qFD, qnY, qiI, qbP, qkY, Nat.max_self, qgl, zj]
      all_goals rfl
    | none =>
      obtain ⟨e, z, er, h0, h1, h2, h3⟩ := hl
      rw [h3]
      refine ⟨z, er, h0, ?_⟩
      simp only [qQ, qn, kx, h1, ja, h2, qm9, qp, qE, qdI, qen, qf7, qv5, qsp, qap, qFD, qnY, qiI, qbP, qpu, qkY, Nat.max_self, qgl, zj]
      all_goals rfl
  rcases hb with ⟨rfl, rfl, rfl⟩ | ⟨rfl, rfl, rfl⟩ | ⟨rfl, rfl, rfl⟩
  · refine key 1844674407370955162 _ (by omega) (by omega) (by omega) ?_
    have w1 : qaM .shl .num true (.d (.i .u64 1)) (.d (.i .u64 (wr .u64 31))) = some (.d (.i .u64 2147483648)) := rfl
    have w2 : wr .u64 (2147483648 - 1) = 2147483647 := rfl
    simp only [zR, Int.cast_ofNat_Int, ql, qFC, Nat.reduceAdd, qq, qr, qs, qk, qb, zk, qF, qG, qZ, qa, qc, kZ, reduceCtorEq, qD, qC, qx, qw, qg, ko, kM, qFE, yy, qzp, decide_false, qm, qB, qK, qFs, ↓reduceIte, qR, Nat.reduceEqDiff, zD, Int.reduceEq, qz, Bool.or_false, yw, Int.reduceLE, decide_true, ki, kq, kG, qI, kJ, qO, qj, qT, qo, kX, Int.reduceLT, zI, Bool.not_false, zh, j5, w1, qcw, Int.reduceSub, qeF, qFz, qiJ, qq6, qhV, zO, y6, qcN, qFF, zK, yj]
    all_goals rfl
  · refine key 1152921504606846976 _ (by omega) (by omega) (by omega) ?_
    have w1 : qaM .shl .num true (.d (.i .u64 1)) (.d (.i .u64 (wr .u64 32))) = some (.d (.i .u64 4294967296)) := rfl
    have w2 : wr .u64 (4294967296 - 1) = 4294967295 := rfl
    simp only [zR, Int.cast_ofNat_Int, ql, qFC, Nat.reduceAdd, qq, qr, qs, qk, qb, zk, qF, qG, qZ, qa, qc, kZ, reduceCtorEq, qD, qC, qx, qw, qg, ko, kM, qFE, yy, qzp, decide_false, qm, qB, qK, qFs, ↓reduceIte, qR, Nat.reduceEqDiff, zD, Int.reduceEq, qz, Bool.or_false, yw, Int.reduceLE, decide_true, ki, kq, kG, qI, kJ, qO, qj, qT, qo, kX, Int.reduceLT, zI, Bool.not_false, zh, j5, w1, qcw, Int.reduceSub, qeF, qFz, qiJ, qq6, qhV, zO, y6, qcN, qFF, zK, yj]
    all_goals rfl
  · refine key 1152921504606846976 _ (by omega) (by omega) (by omega) ?_
    have w1 : qaM .shl .num true (.d (.i .u64 1)) (.d (.i .u64 (wr .u64 8))) = some (.d (.i .u64 256)) := rfl
    have w2 : wr .u64 (256 - 1) = 255 := rfl
    simp only [zR, Int.cast_ofNat_Int, ql, qFC, Nat.reduceAdd, qq, qr, qs, qk, qb, zk, qF, qG, qZ, qa, qc, kZ, reduceCtorEq, qD, qC, qx, qw, qg, ko, kM, qFE, yy, qzp, decide_false, qm, qB, qK, qFs, ↓reduceIte, qR, Nat.reduceEqDiff, zD, Int.reduceEq, qz, Bool.or_false, yw, Int.reduceLE, decide_true, ki, kq, kG, qI, kJ, qO, qj, qT, qo, kX, Int.reduceLT, zI, Bool.not_false, zh, j5, w1, qcw, Int.reduceSub, qeF, qFz, qiJ, qq6, qhV, zO, y6, qcN, qFF, zK, yj]
    all_goals rfl
theorem qmK {s : List Nat} (hs : ∀ c ∈ s, cHx c = true) (hne : s ≠ []) (hz : s.length ≤ 1000000000000) {b bits mx : Nat} (hb : b = 10 ∧ bits = 31 ∧ mx = 2147483647 ∨ b = 16 ∧ bits = 32 ∧ mx = 4294967295 ∨ b = 16 ∧ bits = 8 ∧ mx = 255) {H : List Obj} :
    match pu b mx 0 s with
    | some u => kn pg 263 [.d (.s s), .d (.i .i64 (b : Nat)), .d (.i .i64 (bits : Nat))] H = some ⟨false, true, .tup [.d (.i .u64 (u : Nat)), .d .ni], H, H.length⟩
    | none => ∃ z, kn pg 263 [.d (.s s), .d (.i .i64 (b : Nat)), .d (.i .i64 (bits : Nat))] H = some ⟨false, true, .tup [.d (.i .u64 z), .ifc 325 .undef], H, H.length⟩ := by
  have h := qA8 hs hne hz hb (H := H)
  rw [zl (fn := qam) rfl rfl]
  generalize pu b mx 0 s = r at h
  cases r with
  | some u =>
    simp only [PuC] at h
    simp only [qam, ql, qFC, Nat.reduceAdd, qq, qr, qs, qk, qb, zk, qF, qG, qZ, qa, qc, kZ, reduceCtorEq, qD, qC, qx, qw, Nat.reduceEqDiff, qt, qFz, qFI, qe, qH, qh, qFD, qY, h, qu, qd, qi, Nat.min_self, ku, qW, zC, qb3, qbZ, qm, qb8, qg, ko, kM, qFE, qm3, qB, qK, qFs, ↓reduceIte, qR, qP, qQ, qn, kx, ja, qp, qE, qdI, qen, qf7, qv5, qap, qnY, qiI, qbP, qkY, Nat.max_self, qgl, zj]
    all_goals rfl
  | none =>
    obtain ⟨z, er, h0, h⟩ := h
    have ht := fun (f : List Nat) => qBp (f := f) (t := s) (b := (b : Int)) (z := (bits : Int)) h0 hz (H := H)
    refine ⟨z, ?_⟩
    simp only [qam, ql, qFC, Nat.reduceAdd, qq, qr, qs, qk, qb, zk, qF, qG, qZ, qa, qc, kZ, reduceCtorEq, qD, qC, qx, qw, Nat.reduceEqDiff, qt, qFz, qFI, qe, qH, qh, qFD, qY, h, qu, qd, qi, Nat.min_self, ku, qW, zC, qb3, qbZ, qm, qb8, qi5, qcR, qaU, qg, ko, kM, qFE, qjn, qB, qK, ↓reduceIte, jh, zw, kg, qot, qjk, qv5, ht, qP, zp, qQ, qn, kx, ja, qm9, qp, qE, qdI, qen, qf7, qsp, qpL, qap]
    all_goals exact zj rfl rfl rfl
end W

set_option linter.unusedSimpArgs false
set_option linter.unusedVariables false
namespace W
open Go (IntKind BinOp UnOp)
set_option maxRecDepth 20000
theorem qwT (P : Nat → Bool) : ∀ (l : List Nat), ∀ c ∈ l.take (run P l), P c = true
  | [], c, h => by simp at h
  | x :: l, c, h => by
    simp only [run] at h
    cases hp : P x with
    | false => rw [hp] at h; simp at h
    | true =>
      rw [hp] at h
      simp only [cond_true, qFP, List.mem_cons] at h
      rcases h with rfl | h
      · exact hp
      · exact qwT P l c h
theorem qFf {x c : Nat} {l : List Nat} : pre [x] (c :: l) = decide (c = x) := by simp [pre]
theorem qD0 {x : Nat} : pre [x] [] = false := by simp [pre]
theorem qlz {x a : Nat} {s : List Nat} (h : pre [x] (s.drop a) = true) : a < s.length := by
  rcases Nat.lt_or_ge a s.length with h1 | h1
  · exact h1
  · rw [List.drop_eq_nil_of_le h1, qD0] at h; cases h
def qpm (kind : Int) (b mx : Nat) (t : List Nat) (a' : Nat) : Sy := match pu b mx 0 t with
  | none => .bad 30
  | some u => .ok kind [] (wr .i32 (wr .u32 (u : Nat))) a'
def qxI (s : List Nat) (a : Nat) : Sy :=
  if pre [72] (s.drop (a + run cHx (s.drop a))) then qpm 2 16 4294967295 ((s.drop a).take (run cHx (s.drop a))) (a + run cHx (s.drop a) + 1)
  else if pre [88] (s.drop (a + run cHx (s.drop a))) then qpm 3 16 255 ((s.drop a).take (run cHx (s.drop a))) (a + run cHx (s.drop a) + 1)
  else qpm 2 10 2147483647 ((s.drop a).take (run cHx (s.drop a))) (a + run cHx (s.drop a))
theorem qvs {s : List Nat} (hz : s.length ≤ 1000000000000) {id a c : Nat} {l : List Nat} {H : List Obj} (hL : s.drop a = c :: l) (hc : cDg c = true) (hH : H[id]? = some (sc s a)) : MRes id s a H (qxI s a) (kn pg 177 [.ptr id 0] H) := by
  have hid : id < H.length := (List.getElem?_eq_some_iff.1 hH).1
  have ha : a ≤ s.length := by have := (qqn hL).2.2; omega
  obtain ⟨sm, lo, g1, g2, g3, hw⟩ := qm2 (F := 262) (P := cHx) (fun c H => qyO) hz ha hH
  have hle := qjg cHx (s.drop a)
  have hk : 0 < run cHx (s.drop a) := by rw [hL]; simp [run, cHx, hc]
  have hall := qwT cHx (s.drop a)
  have hlen : ((s.drop a).take (run cHx (s.drop a))).length = run cHx (s.drop a) := by simp only [List.length_take]; omega
  simp only [List.length_drop] at hle
  unfold qxI
  generalize run cHx (s.drop a) = k at *
  generalize (s.drop a).take k = t at *
  have hne : t ≠ [] := by intro h; rw [h] at hlen; simp at hlen; omega
  have hm1 : min H.length lo = lo := by omega
  have hm2 : min lo H.length = lo := by omega
  have hm3 : min lo id = id := by omega
  have hm4 : min id H.length = id := by omega
  have hH1 : (kh H id (sc s (a + k)))[id]? = some (sc s (a + k)) := jf hH
  have hh1 := qgF (t := [72]) hH1 (by omega)
  have hh2 := qgF (t := [88]) hH1 (by omega)
  have hw1 : wr .i64 (((a + k : Nat) : Int) + 1) = ((a + k + 1 : Nat) : Int) := by rw [qcY (by omega) (by omega)]; omega
  rw [zl (fn := zM) rfl rfl]
  have e10 : ((10 : Nat) : Int) = 10 := rfl
  have e16 : ((16 : Nat) : Int) = 16 := rfl
  have e31 : ((31 : Nat) : Int) = 31 := rfl
  have e32 : ((32 : Nat) : Int) = 32 := rfl
  have e8 : ((8 : Nat) : Int) = 8 := rfl
  cases hp1 : pre [72] (s.drop (a + k)) with
  | true =>
    rw [hp1] at hh1
    rw [if_pos rfl]
    have hlt := qlz hp1
    have hn := fun (H : List Obj) => qmK (b := 16) (bits := 32) (mx := 4294967295) hall hne (by omega) (by omega) (H := H)
    unfold qpm
    generalize pu 16 4294967295 0 t = r at hn
    simp only [e16, e32] at hn
    cases r with
    | some u =>
      simp only at hn ⊢
      refine MRes.good hid hH (lo := id) (qFw _) (by omega) (.inr (qFw _)) ?_ (e := ?_)
      rotate_left
      · simp only [zM, ql, qFC, qq, qr, qs, qk, qM, qFz, qFI, qG, zz, qU, k9, ke, qa, qc, qb, kZ, reduceCtorEq, qD, qC, qV, qw, za, qA, qm, qf, zg, qy, q9, hH, kT, qFy, qFu, qFv, kA, qZ, qx, qt, qnQ, qe, kp, qab, qap, qFD, qh, qY, hw, qu, qd, qcb, qi, hm1, jh, zw, kg, zk, qF, qz, qH, hh1, kv, hm2, qB, qK, ↓reduceIte, hH1, qg, ko, kM, qFE, jn, hw1, Nat.reduceEqDiff, qX, ju, jQ, kP, qFF, qFG, kC, jb, kS, kV, Nat.reduceAdd, Nat.reduceLT, ky, qFL, qFJ, kU, jz, hm3, kW, qO, qj, zA, qT, qo, hn, hm4, ku, qW, zC, qb3, qbZ, qb8, qm3, qFs, qR, j5, zc, jP, zS, zQ, zF, jI, zH, kK, zf, zB, zy, zq, qaD, kY, kD, kI, qP, qQ, qn, zn, yB, Nat.reduceLeDiff, j0, qFQ, qFP, List.take_zero, qp, qE, kf]
        rfl
    | none =>
      obtain ⟨z, hn1⟩ := hn (kh H id (sc s (a + k + 1)))
      simp only
      refine MRes.worse hid hH (lo := id) (a' := a + k + 1) (qFw _) (by omega) (.inr (qFw _)) ?_ (e := ?_)
      rotate_left
      · simp only [zM, ql, qFC, qq, qr, qs, qk, qM, qFz, qFI, qG, zz, qU, k9, ke, qa, qc, qb, kZ, reduceCtorEq, qD, qC, qV, qw, za, qA, qm, qf, zg, qy, q9, hH, kT, qFy, qFu, qFv, kA, qZ, qx, qt, qnQ, qe, kp, qab, qap, qFD, qh, qY, hw, qu, qd, qcb, qi, hm1, jh, zw, kg, zk, qF, qz, qH, hh1, kv, hm2, qB, qK, ↓reduceIte, hH1, qg, ko, kM, qFE, jn, hw1, Nat.reduceEqDiff, qX, ju, jQ, kP, qFF, qFG, kC, jb, kS, kV, Nat.reduceAdd, Nat.reduceLT, ky, qFL, qFJ, kU, jz, hm3, kW, qO, qj, zA, qT, qo, hn1, hm4, ku, qW, zC, qb3, qbZ, qb8, qi5, qcR, qaU, qjn, qc3, qaY, yH, qan]
        rfl
  | false =>
    rw [hp1] at hh1
    rw [if_neg (by simp)]
    cases hp2 : pre [88] (s.drop (a + k)) with
    | true =>
      rw [hp2] at hh2
      rw [if_pos rfl]
      have hlt := qlz hp2
      have hn := fun (H : List Obj) => qmK (b := 16) (bits := 8) (mx := 255) hall hne (by omega) (by omega) (H := H)
      unfold qpm
      generalize pu 16 255 0 t = r at hn
      simp only [e16, e8] at hn
      cases r with
      | some u =>
        simp only at hn ⊢
        refine MRes.good hid hH (lo := id) (qFw _) (by omega) (.inr (qFw _)) ?_ (e := ?_)
        rotate_left
        · simp only [zM, ql, qFC, qq, qr, qs, qk, qM, qFz, qFI, qG, zz, qU, k9, ke, qa, qc, qb, kZ, reduceCtorEq, qD, qC, qV, qw, za, qA, qm, qf, zg, qy, q9, hH, kT, qFy, qFu, qFv, kA, qZ, qx, qt, qnQ, qe, kp, qab, qap, qFD, qh, qY, hw, qu, qd, qcb, qi, hm1, jh, zw, kg, zk, qF, qz, qH, hh1, kv, hm2, qB, qK, qFs, ↓reduceIte, hh2, hH1, qg, ko, kM, qFE, jn, hw1, Nat.reduceEqDiff, qX, ju, jQ, kP, qFF, qFG, kC, jb, kS, kV, Nat.reduceAdd, Nat.reduceLT, ky, qFL, qFJ, kU, jz, hm3, kW, qO, qj, zA, qT, qo, hn, hm4, ku, qW, zC, qb3, qbZ, qb8, qm3, qR, j5, zc, jP, zS, zQ, zF, jI, zH, kK, zf, zB, zy, zq, qaD, kY, kD, kI, qP, qQ, qn, zn, yB, Nat.reduceLeDiff, j0, qFQ, qFP, List.take_zero, qp, qE, kf]
          rfl
      | none =>
        obtain ⟨z, hn1⟩ := hn (kh H id (sc s (a + k + 1)))
        simp only
        refine MRes.worse hid hH (lo := id) (a' := a + k + 1) (qFw _) (by omega) (.inr (qFw _)) ?_ (e := ?_)
        rotate_left
        · simp only [zM, ql, qFC, qq, qr, qs, qk, qM, qFz, qFI, qG, zz, qU, k9, ke, qa, qc, qb, kZ, reduceCtorEq, qD, qC, qV, qw, za, qA, qm, qf, zg, qy, q9, hH, kT, qFy, qFu, qFv, kA, qZ, qx, qt, qnQ, qe, kp, qab, qap, qFD, qh, qY, hw, qu, qd, qcb, qi, hm1, jh, zw, kg, zk, qF, qz, qH, hh1, kv, hm2, qB, qK, qFs, ↓reduceIte, hh2, hH1, qg, ko, kM, qFE, jn, hw1, Nat.reduceEqDiff, qX, ju, jQ, kP, qFF, qFG, kC, jb, kS, kV, Nat.reduceAdd, Nat.reduceLT, ky, qFL, qFJ, kU, jz, hm3, kW, qO, qj, zA, qT, qo, hn1, hm4, ku, qW, zC, qb3, qbZ, qb8, qi5, qcR, qaU, qjn, qc3, qaY, yH, qan]
          rfl
    | false =>
      rw [hp2] at hh2
      rw [if_neg (by simp)]
      have hn := fun (H : List Obj) => qmK (b := 10) (bits := 31) (mx := 2147483647) hall hne (by omega) (by omega) (H := H)
      unfold qpm
      generalize pu 10 2147483647 0 t = r at hn
      simp only [e10, e31] at hn
      have g3' : a + k = a ∨ lo ≤ id := by omega
      cases r with
      | some u =>
        simp only at hn ⊢
        refine MRes.good hid hH g1 g2 g3' ?_ (e := ?_)
        rotate_left
        · simp only [zM, ql, qFC, qq, qr, qs, qk, qM, qFz, qFI, qG, zz, qU, k9, ke, qa, qc, qb, kZ, reduceCtorEq, qD, qC, qV, qw, za, qA, qm, qf, zg, qy, q9, hH, kT, qFy, qFu, qFv, kA, qZ, qx, qt, qnQ, qe, kp, qab, qap, qFD, qh, qY, hw, qu, qd, qcb, qi, hm1, jh, zw, kg, zk, qF, qz, qH, hh1, kv, hm2, qB, qK, qFs, ↓reduceIte, hh2, qR, qO, qj, Nat.reduceEqDiff, zA, qT, qo, hn, ku, qW, zC, qb3, qbZ, qb8, qg, ko, kM, qFE, qm3, j5, zc, jQ, kP, jb, qFF, qFG, Nat.reduceAdd, Nat.reduceLT, jP, qFJ, qFL, zS, zQ, zF, jI, zH, kK, zf, qX, zB, zy, zq, kC, qaD, kS, kY, kD, kI, kW, qP, qQ, qn, zn, yB, Nat.reduceLeDiff, j0, qFQ, qFP, List.take_zero, qp, qE, kf]
          rfl
      | none =>
        obtain ⟨z, hn1⟩ := hn (kh H id (sc s (a + k)))
        simp only
        refine MRes.worse hid hH g1 g2 g3' ?_ (e := ?_)
        rotate_left
        · simp only [zM, ql, qFC, qq, qr, qs, qk, qM, qFz, qFI, qG, zz, qU, k9, ke, qa, qc, qb, kZ, reduceCtorEq, qD, qC, qV, qw, za, qA, qm, qf, zg, qy, q9, hH, kT, qFy, qFu, qFv, kA, qZ, qx, qt, qnQ, qe, kp, qab, qap, qFD, qh, qY, hw, qu, qd, qcb, qi, hm1, jh, zw, kg, zk, qF, qz, qH, hh1, kv, hm2, qB, qK, qFs, ↓reduceIte, hh2, qR, qO, qj, Nat.reduceEqDiff, zA, qT, qo, hn1, ku, qW, zC, qb3, qbZ, qb8, qi5, qcR, qaU, qg, ko, kM, qFE, qjn, qc3, qaY, yH, qan]
          rfl
def qrX (s : List Nat) (a : Nat) : Sy :=
  if pre [34] (s.drop (a + 1 + run cTx (s.drop (a + 1)))) then
    (if 120 < run cTx (s.drop (a + 1)) then .bad 34 else .ok 4 ((s.drop (a + 1)).take (run cTx (s.drop (a + 1)))) 0 (a + 1 + run cTx (s.drop (a + 1)) + 1))
  else .bad 30
theorem qyv {s : List Nat} (hz : s.length ≤ 1000000000000) {id a : Nat} {H : List Obj} (ha : a < s.length) (hH : H[id]? = some (sc s a)) : MRes id s a H (qrX s a) (kn pg 179 [.ptr id 0] H) := by
  have hid : id < H.length := (List.getElem?_eq_some_iff.1 hH).1
  have hH1 : (kh H id (sc s (a + 1)))[id]? = some (sc s (a + 1)) := jf hH
  obtain ⟨sm, lo, g1, g2, g3, hw⟩ := qm2 (F := 264) (P := cTx) (fun c H => qwd) hz (by omega) hH1
  have hle := qjg cTx (s.drop (a + 1))
  have hlen : ((s.drop (a + 1)).take (run cTx (s.drop (a + 1)))).length = run cTx (s.drop (a + 1)) := by simp only [List.length_take]; omega
  simp only [List.length_drop] at hle
  rw [jz] at hw
  rw [kv] at g2
  unfold qrX
  generalize run cTx (s.drop (a + 1)) = k at *
  generalize (s.drop (a + 1)).take k = t at *
  have hm1 : min H.length id = id := by omega
  have hm2 : min id lo = id := by omega
  have hm3 : min id H.length = id := by omega
  have hm4 : min id id = id := by omega
  have hH2 : (kh H id (sc s (a + 1 + k)))[id]? = some (sc s (a + 1 + k)) := jf hH
  have hh1 := qgF (t := [34]) hH2 (by omega)
  have hw0 : wr .i64 ((a : Int) + 1) = ((a + 1 : Nat) : Int) := by rw [qcY (by omega) (by omega)]; omega
  have hw1 : wr .i64 (((a + 1 + k : Nat) : Int) + 1) = ((a + 1 + k + 1 : Nat) : Int) := by rw [qcY (by omega) (by omega)]; omega
  rw [zl (fn := yl) rfl rfl]
  cases hp : pre [34] (s.drop (a + 1 + k)) with
  | false =>
    rw [hp] at hh1
    rw [if_neg (by simp)]
    refine MRes.worse hid hH (lo := id) (a' := a + 1 + k) (qFw _) (by omega) (.inr (qFw _)) ?_ (e := ?_)
    rotate_left
    · simp only [yl, ql, qFC, qq, qr, qs, qk, qM, qFz, qFI, qG, zz, qU, k9, ke, qa, qc, qb, kZ, reduceCtorEq, qD, qC, qV, qw, za, qA, qm, qf, zg, qy, q9, hH, kT, qFy, qFu, qFv, kA, qZ, qx, qg, ko, kM, qFE, zk, jn, hw0, Nat.reduceEqDiff, qX, ju, jQ, kP, qFF, qFG, kC, jb, kS, qFD, kV, Nat.reduceAdd, Nat.reduceLT, ky, qFL, qFJ, kU, hm1, kW, qt, qnQ, qe, kp, qab, qap, qh, qY, hw, qu, qd, qcb, qi, hm2, jh, zw, kg, qz, qH, hh1, kv, qF, hm3, z8, yr, Bool.not_false, qB, qK, ↓reduceIte, qc3, qaY, qa5, yH, qan]
      rfl
  | true =>
    rw [hp] at hh1
    rw [if_pos rfl]
    have hlt := qlz hp
    by_cases h1 : 120 < k
    · have e1 : ((120 : Int) < ((k : Nat) : Int)) = True := by rw [eq_iff_iff]; simp; omega
      rw [if_pos h1]
      refine MRes.worse hid hH (lo := id) (a' := a + 1 + k) (qFw _) (by omega) (.inr (qFw _)) ?_ (e := ?_)
      rotate_left
      · simp only [yl, ql, qFC, qq, qr, qs, qk, qM, qFz, qFI, qG, zz, qU, k9, ke, qa, qc, qb, kZ, reduceCtorEq, qD, qC, qV, qw, za, qA, qm, qf, zg, qy, q9, hH, kT, qFy, qFu, qFv, kA, qZ, qx, qg, ko, kM, qFE, zk, jn, hw0, Nat.reduceEqDiff, qX, ju, jQ, kP, qFF, qFG, kC, jb, kS, qFD, kV, Nat.reduceAdd, Nat.reduceLT, ky, qFL, qFJ, kU, hm1, kW, qt, qnQ, qe, kp, qab, qap, qh, qY, hw, qu, qd, qcb, qi, hm2, jh, zw, kg, qz, qH, hh1, kv, qF, hm3, z8, yr, qFO, qB, qK, qFs, ↓reduceIte, qL, zx, hlen, zh, e1, decide_true, qc3, qaY, qa5, yH, qan]
        rfl
    · have e1 : ((120 : Int) < ((k : Nat) : Int)) = False := by rw [eq_iff_iff]; simp; omega
      rw [if_neg h1]
      refine MRes.good hid hH (lo := id) (qFw _) (by omega) (.inr (qFw _)) ?_ (e := ?_)
      rotate_left
      · simp only [yl, ql, qFC, qq, qr, qs, qk, qM, qFz, qFI, qG, zz, qU, k9, ke, qa, qc, qb, kZ, reduceCtorEq, qD, qC, qV, qw, za, qA, qm, qf, zg, qy, q9, hH, kT, qFy, qFu, qFv, kA, qZ, qx, qg, ko, kM, qFE, zk, jn, hw0, Nat.reduceEqDiff, qX, ju, jQ, kP, qFF, qFG, kC, jb, kS, qFD, kV, Nat.reduceAdd, Nat.reduceLT, ky, qFL, qFJ, kU, hm1, kW, qt, qnQ, qe, kp, qab, qap, qh, qY, hw, qu, qd, qcb, qi, hm2, jh, zw, kg, qz, qH, hh1, kv, qF, hm3, z8, yr, qFO, qB, qK, qFs, ↓reduceIte, qL, zx, hlen, zh, e1, decide_false, qR, qO, qj, ze, zA, qT, qo, hH2, hw1, jz, hm4, zc, jP, qaD, zS, zQ, zF, jI, zH, kK, zf, zB, zy, zq, kY, kD, kI, qP, qQ, qn, zn, yB, Nat.reduceLeDiff, j0, qFQ, qFP, List.take_zero, qp, qE, kf]
        rfl
def SG : List Nat := [43, 45, 42, 47, 38, 126, 61, 35, 60, 62, 46, 44, 59, 58, 40, 41, 91, 93, 123, 125, 94, 124]
def qrs (s : List Nat) (a c : Nat) : Sy :=
  if pre [60, 61] (s.drop a) then .ok 5 [60, 61] 0 (a + 2)
  else if pre [62, 61] (s.drop a) then .ok 5 [62, 61] 0 (a + 2)
  else if pre [58, 61] (s.drop a) then .ok 5 [58, 61] 0 (a + 2)
  else if pre [46, 46] (s.drop a) then .ok 5 [46, 46] 0 (a + 2)
  else if ixN c SG < 0 then .bad 30 else .ok 5 [c] 0 (a + 1)
theorem qyz {s : List Nat} (hs : ∀ c ∈ s, c < 256) (hz : s.length ≤ 1000000000000) {id a c : Nat} {l : List Nat} {H : List Obj} (hL : s.drop a = c :: l) (hH : H[id]? = some (sc s a)) : MRes id s a H (qrs s a c) (kn pg 180 [.ptr id 0] H) := by
  have hid : id < H.length := (List.getElem?_eq_some_iff.1 hH).1
  obtain ⟨hget, hdr, hlt⟩ := qqn hL
  have hh := fun (t : List Nat) => qgF (t := t) hH (by omega)
  have hix : ixV (.d (.s s)) (.d (.i .i64 (a : Int))) = some (.d (.i .u8 ((c : Nat) : Int))) := quA (by omega) (by simpa using hget)
  have hc : c < 256 := hs c (List.mem_of_getElem? hget)
  have hi := qw8 (t := SG) hc (H := H)
  have hm1 : min H.length id = id := by omega
  have hw1 : wr .i64 ((a : Int) + 1) = ((a + 1 : Nat) : Int) := by rw [qcY (by omega) (by omega)]; omega
  have hw2 : wr .i64 ((a : Int) + 2) = ((a + 2 : Nat) : Int) := by rw [qcY (by omega) (by omega)]; omega
  have i0 : iaV (.d (.sl [.s [60, 61], .s [62, 61], .s [58, 61], .s [46, 46]])) (.d (.i .i64 0)) 1 none = some (.cp (.s [60, 61])) := rfl
  have i1 : iaV (.d (.sl [.s [60, 61], .s [62, 61], .s [58, 61], .s [46, 46]])) (.d (.i .i64 1)) 1 none = some (.cp (.s [62, 61])) := rfl
  have i2 : iaV (.d (.sl [.s [60, 61], .s [62, 61], .s [58, 61], .s [46, 46]])) (.d (.i .i64 2)) 1 none = some (.cp (.s [58, 61])) := rfl
  have i3 : iaV (.d (.sl [.s [60, 61], .s [62, 61], .s [58, 61], .s [46, 46]])) (.d (.i .i64 3)) 1 none = some (.cp (.s [46, 46])) := rfl
  have w1 : wr .i64 1 = 1 := rfl
  have w2 : wr .i64 2 = 2 := rfl
  have w3 : wr .i64 3 = 3 := rfl
  have w4 : wr .i64 4 = 4 := rfl
  rw [zl (fn := je) rfl rfl]
  unfold qrs
  have h0 := hh [60, 61]
  have h1 := hh [62, 61]
  have h2 := hh [58, 61]
  have h3 := hh [46, 46]
  by_cases q0 : pre [60, 61] (s.drop a) = true
  · rw [if_pos q0]
    rw [q0] at h0
    refine MRes.good hid hH (lo := id) (qFw _) (by omega) (.inr (qFw _)) ?_ (e := ?_)
    rotate_left
    · simp only [je, ql, qFC, qq, qr, qs, qk, qM, qFz, qFI, qG, zz, qU, k9, ke, qa, qc, kw, y1, qFF, qFG, List.reduceReplicate, zk, Nat.reduceAdd, Nat.reduceLT, zW, qFJ, qFL, jt, jN, qaD, qcd, yP, qFD, jK, qm, y7, zO, kZ, qC, jJ, qhC, Int.cast_ofNat_Int, qZ, qb, qF, qz, jj, reduceCtorEq, qD, ze, Nat.reduceEqDiff, zA, qda, qT, jk, zU, qg, ko, qFM, qx, kX, Int.reduceLT, decide_true, qB, qK, ↓reduceIte, qR, kB, i0, qaP, qbr, jH, qlv, jR, qw, qV, za, qt, qe, kp, qH, qh, qY, h0, qu, qd, qi, Nat.min_self, qA, qf, zg, qy, q9, hH, kT, qFy, qFu, qFv, kA, qL, zx, jn, hw2, qX, ju, jQ, kP, kC, jb, kS, kV, ky, kU, hm1, kW, zc, jP, zS, zQ, zF, jI, zH, kK, zf, zB, zy, zq, kY, kD, kI, qP, zE, zp, qQ, qn, zn, yB, Nat.reduceLeDiff, j0, qFQ, qFP, List.take_zero, qp, qE, kf]
      rfl
  rw [if_neg q0]
  rw [Bool.not_eq_true] at q0
  rw [q0] at h0
  by_cases q1 : pre [62, 61] (s.drop a) = true
  · rw [if_pos q1]
    rw [q1] at h1
    refine MRes.good hid hH (lo := id) (qFw _) (by omega) (.inr (qFw _)) ?_ (e := ?_)
    rotate_left
    · simp only [je, ql, qFC, qq, qr, qs, qk, qM, qFz, qFI, qG, zz, qU, k9, ke, qa, qc, kw, y1, qFF, qFG, List.reduceReplicate, zk, Nat.reduceAdd, Nat.reduceLT, zW, qFJ, qFL, jt, jN, qaD, qcd, yP, qFD, jK, qm, y7, zO, kZ, qC, jJ, qhC, Int.cast_ofNat_Int, qZ, qb, qF, qz, jj, reduceCtorEq, qD, ze, Nat.reduceEqDiff, zA, qda, qT, jk, zU, qg, ko, qFM, qx, kX, Int.reduceLT, decide_true, qB, qK, ↓reduceIte, qR, kB, i0, qaP, qbr, jH, qlv, jR, qw, qV, za, qt, qe, kp, qH, qh, qY, h0, qu, qd, qi, Nat.min_self, qFs, qO, qj, qo, kM, qFE, jn, Int.reduceAdd, w1, i1, h1, qA, qf, zg, qy, q9, hH, kT, qFy, qFu, qFv, kA, qL, zx, hw2, qX, ju, jQ, kP, kC, jb, kS, kV, ky, kU, hm1, kW, zc, jP, zS, zQ, zF, jI, zH, kK, zf, zB, zy, zq, kY, kD, kI, qP, zE, zp, qQ, qn, zn, yB, Nat.reduceLeDiff, j0, qFQ, qFP, List.take_zero, qp, qE, kf]
      rfl
  rw [if_neg q1]
  rw [Bool.not_eq_true] at q1
  rw [q1] at h1
  by_cases q2 : pre [58, 61] (s.drop a) = true
  · rw [if_pos q2]
    rw [q2] at h2
    refine MRes.good hid hH (lo := id) (qFw _) (by omega) (.inr (qFw _)) ?_ (e := ?_)
    rotate_left
    · simp only [je, ql, qFC, qq, qr, qs, qk, qM, qFz, qFI, qG, zz, qU, k9, ke, qa, qc, kw, y1, qFF, qFG, List.reduceReplicate, zk, Nat.reduceAdd, Nat.reduceLT, zW, qFJ, qFL, jt, jN, qaD, qcd, yP, qFD, jK, qm, y7, zO, kZ, qC, jJ, qhC, Int.cast_ofNat_Int, qZ, qb, qF, qz, jj, reduceCtorEq, qD, ze, Nat.reduceEqDiff, zA, qda, qT, jk, zU, qg, ko, qFM, qx, kX, Int.reduceLT, decide_true, qB, qK, ↓reduceIte, qR, kB, i0, qaP, qbr, jH, qlv, jR, qw, qV, za, qt, qe, kp, qH, qh, qY, h0, qu, qd, qi, Nat.min_self, qFs, qO, qj, qo, kM, qFE, jn, Int.reduceAdd, w1, i1, h1, w2, i2, h2, qA, qf, zg, qy, q9, hH, kT, qFy, qFu, qFv, kA, qL, zx, hw2, qX, ju, jQ, kP, kC, jb, kS, kV, ky, kU, hm1, kW, zc, jP, zS, zQ, zF, jI, zH, kK, zf, zB, zy, zq, kY, kD, kI, qP, zE, zp, qQ, qn, zn, yB, Nat.reduceLeDiff, j0, qFQ, qFP, List.take_zero, qp, qE, kf]
      rfl
  rw [if_neg q2]
  rw [Bool.not_eq_true] at q2
  rw [q2] at h2
  by_cases q3 : pre [46, 46] (s.drop a) = true
  · rw [if_pos q3]
    rw [q3] at h3
    refine MRes.good hid hH (lo := id) (qFw _) (by omega) (.inr (qFw _)) ?_ (e := ?_)
    rotate_left
    · simp only [je, ql, qFC, qq, qr, qs, qk, qM, qFz, qFI, qG, zz, qU, k9, ke, qa, qc, kw, y1, qFF, qFG, List.reduceReplicate, zk, Nat.reduceAdd, Nat.reduceLT, zW, qFJ, qFL, jt, jN, qaD, qcd, yP, qFD, jK, qm, y7, zO, kZ, qC, jJ, qhC, Int.cast_ofNat_Int, qZ, qb, qF, qz, jj, reduceCtorEq, qD, ze, Nat.reduceEqDiff, zA, qda, qT, jk, zU, qg, ko, qFM, qx, kX, Int.reduceLT, decide_true, qB, qK, ↓reduceIte, qR, kB, i0, qaP, qbr, jH, qlv, jR, qw, qV, za, qt, qe, kp, qH, qh, qY, h0, qu, qd, qi, Nat.min_self, qFs, qO, qj, qo, kM, qFE, jn, Int.reduceAdd, w1, i1, h1, w2, i2, h2, w3, i3, h3, qA, qf, zg, qy, q9, hH, kT, qFy, qFu, qFv, kA, qL, zx, hw2, qX, ju, jQ, kP, kC, jb, kS, kV, ky, kU, hm1, kW, zc, jP, zS, zQ, zF, jI, zH, kK, zf, zB, zy, zq, kY, kD, kI, qP, zE, zp, qQ, qn, zn, yB, Nat.reduceLeDiff, j0, qFQ, qFP, List.take_zero, qp, qE, kf]
      rfl
  rw [if_neg q3]
  rw [Bool.not_eq_true] at q3
  rw [q3] at h3
  by_cases q4 : ixN c SG < 0
  · have e1 : (ixN c SG < 0) = True := eq_true q4
    rw [if_pos q4]
    simp only [SG] at hi e1
    refine MRes.worse hid hH (lo := H.length) (a' := a) (by omega) (qFw _) (.inl rfl) ?_ (e := ?_)
    rotate_left
    · rw [yF hH]
      simp only [je, qbu, ql, qFC, qq, qr, qs, qk, qM, qFz, qFI, qG, zz, qU, k9, ke, qa, qc, kw, y1, qFF, qFG, List.reduceReplicate, zk, Nat.reduceAdd, Nat.reduceLT, zW, qFJ, qFL, jt, jN, qaD, qcd, yP, qFD, jK, qm, y7, zO, kZ, qC, jJ, qhC, Int.cast_ofNat_Int, qZ, qb, qF, qz, jj, reduceCtorEq, qD, ze, Nat.reduceEqDiff, zA, qda, qT, jk, zU, qg, ko, qFM, qx, kX, Int.reduceLT, decide_true, qB, qK, ↓reduceIte, qR, kB, i0, qaP, qbr, jH, qlv, jR, qw, qV, za, qt, qe, kp, qH, qh, qY, h0, qu, qd, qi, Nat.min_self, qFs, qO, qj, qo, kM, qFE, jn, Int.reduceAdd, w1, i1, h1, w2, i2, h2, w3, i3, h3, w4, decide_false, qbN, qag, yq, zu, kQ, kO, ji, kR, qA, qf, zg, Nat.add_zero, qy, q9, hH, kT, qFu, qFv, kA, jB, qFy, kL, hix, kl, hi, e1, kj, qc3, qaY, yH, qan]
      rfl
  · have e1 : (ixN c SG < 0) = False := eq_false q4
    rw [if_neg q4]
    simp only [SG] at hi e1
    have hH1 : (kh H id (sc s (a + 1)))[id]? = some (sc s (a + 1)) := jf hH
    have hwm : wr .i64 (((a + 1 : Nat) : Int) - 1) = (a : Int) := by rw [qcY (by omega) (by omega)]; omega
    have hmid := qzb (l := s) (a := a) (b := a + 1) (by omega) (by omega)
    have hmm : (s.take (a + 1)).drop a = [c] := by
      rw [List.drop_take, hL]; simp
    rw [hmm] at hmid
    refine MRes.good hid hH (lo := id) (qFw _) (by omega) (.inr (qFw _)) ?_ (e := ?_)
    rotate_left
    · simp only [je, qbu, ql, qFC, qq, qr, qs, qk, qM, qFz, qFI, qG, zz, qU, k9, ke, qa, qc, kw, y1, qFF, qFG, List.reduceReplicate, zk, Nat.reduceAdd, Nat.reduceLT, zW, qFJ, qFL, jt, jN, qaD, qcd, yP, qFD, jK, qm, y7, zO, kZ, qC, jJ, qhC, Int.cast_ofNat_Int, qZ, qb, qF, qz, jj, reduceCtorEq, qD, ze, Nat.reduceEqDiff, zA, qda, qT, jk, zU, qg, ko, qFM, qx, kX, Int.reduceLT, decide_true, qB, qK, ↓reduceIte, qR, kB, i0, qaP, qbr, jH, qlv, jR, qw, qV, za, qt, qe, kp, qH, qh, qY, h0, qu, qd, qi, Nat.min_self, qFs, qO, qj, qo, kM, qFE, jn, Int.reduceAdd, w1, i1, h1, w2, i2, h2, w3, i3, h3, w4, decide_false, qbN, qag, yq, zu, kQ, kO, ji, kR, qA, qf, zg, Nat.add_zero, qy, q9, hH, kT, qFu, qFv, kA, jB, qFy, kL, hix, kl, hi, e1, kj, hw1, qX, ju, jQ, kP, kC, jb, kS, kV, ky, kU, hm1, kW, hH1, qcw, hwm, qcv, qde, qn6, qfG, hmid, zc, jP, zS, zQ, zF, jI, zH, kK, zf, zB, zy, zq, kY, kD, kI, qcA, qP, qQ, qn, zn, yB, Nat.reduceLeDiff, j0, qFQ, qFP, List.take_zero, qp, qE, kf]
      rfl
end W

set_option linter.unusedSimpArgs false
set_option linter.unusedVariables false
namespace W
open Go (IntKind BinOp UnOp)
set_option maxRecDepth 20000
theorem qBN : ∀ (n deep frm a : Nat) (l : List Nat) (j : Nat), l.length ≤ n → sk deep frm a l = (true, j) → a ≤ j ∧ j ≤ a + l.length := by
  intro n
  induction n with
  | zero =>
    intro deep frm a l j hn h
    have : l = [] := List.length_eq_zero_iff.1 (by omega)
    subst this
    simp only [sk] at h
    split at h
    · cases h; simp
    · cases h
  | succ n ih =>
    intro deep frm a l j hn h
    match l, hn, h with
    | [], hn, h =>
      simp only [sk] at h
      split at h
      · cases h; simp
      · cases h
    | [c], hn, h =>
      simp only [sk] at h
      split at h
      · split at h
        · cases h; simp
        · cases h; simp
      · cases h
    | c :: d :: l, hn, h =>
      simp only [qFF] at hn ⊢
      rw [sk] at h
      split at h
      · have := ih _ _ _ _ _ (by omega) h; omega
      · split at h
        · have := ih _ _ _ _ _ (by omega) h; omega
        · split at h
          · have := ih _ _ _ _ _ (by simp only [qFF]; omega) h
            simp only [qFF] at this; omega
          · cases h; omega
def qsS (s : List Nat) (j : Nat) : Sy := match s.drop j with
  | [] => .bad 0
  | c :: _ => if cLt c = true then qqY s j else if cDg c = true then qxI s j else if c = 34 then qrX s j else qrs s j c
inductive Nx where
  | ok (k : Int) (p e : Nat) (t : List Nat) (n : Int)
  | bad (p : Nat) (e : Int)
def qx3 (j : Nat) : Sy → Nx
  | .ok k t n a' => .ok k j a' t n
  | .bad e => .bad j e
def qkB (s : List Nat) (a : Nat) : Nx := match sk 0 a a (s.drop a) with
  | (false, p) => .bad p 30
  | (true, j) => if j = s.length then .ok 0 j j [] 0 else qx3 j (qsS s j)
def NRes (id : Nat) (s : List Nat) (a : Nat) (H : List Obj) (r : Nx) (X : Option Cr) : Prop :=
  match r with
  | .ok k p e t n => ∃ sm lo, id ≤ lo ∧ lo ≤ H.length ∧ (e = a ∨ lo ≤ id) ∧ X = some ⟨false, sm, .d (tok k p e t n), kh H id (sc s e), lo⟩
  | .bad p x => ∃ sm lo a', id ≤ lo ∧ lo ≤ H.length ∧ (a' = a ∨ lo ≤ id) ∧ X = some ⟨true, sm, .ifc 157 (.d (.agg [.i .i64 (p : Nat), .i .i64 x])), kh H id (sc s a'), lo⟩
theorem NRes.good {id : Nat} {s : List Nat} {a p a' : Nat} {H : List Obj} {k n : Int} {t : List Nat} {e : Env} {lo : Nat} {X : Option Cr} (hid : id < H.length) (hH : H[id]? = some (sc s a)) (h1 : id ≤ lo) (h2 : lo ≤ H.length) (h3 : a' = a ∨ lo ≤ id)
    (h : X = leave H false (.d (tok k p a' t n)) ⟨e, kh H id (sc s a'), lo⟩) : NRes id s a H (.ok k p a' t n) X := by
  obtain ⟨sm, hlv⟩ := qgv (pan := false) (v := .d (tok k p a' t n)) (e := e) (lo := lo) (o := sc s a') rfl rfl (fun _ => rfl) (by
      rcases h3 with h | h
      · left; rw [h]; exact yF hH
      · right; exact h) hid
  exact ⟨sm, lo, h1, h2, h3, h.trans hlv⟩
theorem NRes.worse {id p : Nat} {s : List Nat} {a a' : Nat} {H : List Obj} {x : Int} {e : Env} {lo : Nat} {X : Option Cr} (hid : id < H.length) (hH : H[id]? = some (sc s a)) (h1 : id ≤ lo) (h2 : lo ≤ H.length) (h3 : a' = a ∨ lo ≤ id)
    (h : X = leave H true (.ifc 157 (.d (.agg [.i .i64 (p : Nat), .i .i64 x]))) ⟨e, kh H id (sc s a'), lo⟩) : NRes id s a H (.bad p x) X := by
  obtain ⟨sm, hlv⟩ := qgv (pan := true) (v := .ifc 157 (.d (.agg [.i .i64 (p : Nat), .i .i64 x]))) (e := e) (lo := lo) (o := sc s a') rfl rfl (fun _ => rfl) (by
      rcases h3 with h | h
      · left; rw [h]; exact yF hH
      · right; exact h) hid
  exact ⟨sm, lo, a', h1, h2, h3, h.trans hlv⟩
theorem qyI {s : List Nat} (hs : ∀ c ∈ s, c < 256) (hz : s.length ≤ 1000000000000) {id a : Nat} {H : List Obj} (ha : a ≤ s.length) (hH : H[id]? = some (sc s a)) : NRes id s a H (qkB s a) (kn pg 83 [.ptr id 0] H) := by
  have hid : id < H.length := (List.getElem?_eq_some_iff.1 hH).1
  have hsk := qxY hs hz ha hH
  rw [zl (fn := f_scan_scanner_next) rfl rfl]
  unfold qkB
  have hjl := fun j => qBN (s.drop a).length 0 a a (s.drop a) j (qFw _)
  generalize sk 0 a a (s.drop a) = r at hsk hjl
  obtain ⟨b, j⟩ := r
  cases b with
  | false =>
    obtain ⟨sm, lo, a', g1, g2, g3, hsk⟩ := hsk
    have hm1 : min H.length lo = lo := by omega
    refine NRes.worse hid hH g1 g2 g3 ?_ (e := ?_)
    rotate_left
    · simp only [f_scan_scanner_next, ql, qFC, qq, qr, qs, qk, qM, qFz, qFI, qG, zz, qU, k9, ke, qa, qc, qb, kZ, reduceCtorEq, qD, qC, qV, qw, za, qt, qe, kp, qh, qFD, qY, hsk, qu, qd, qi, hm1, qaY, yH, qan]
      rfl
  | true =>
    obtain ⟨sm, lo, g1, g2, g3, hsk⟩ := hsk
    have hjr := hjl j rfl
    simp only [List.length_drop] at hjr
    have hm1 : min H.length lo = lo := by omega
    have hm2 : min lo H.length = lo := by omega
    have hH1 : (kh H id (sc s j))[id]? = some (sc s j) := jf hH
    simp only
    by_cases hj : j = s.length
    · have e1 : ((j : Int) = (s.length : Int)) = True := by rw [eq_iff_iff]; simp; omega
      rw [if_pos hj]
      refine NRes.good hid hH g1 g2 g3 ?_ (e := ?_)
      rotate_left
      · simp only [f_scan_scanner_next, ql, qFC, qq, qr, qs, qk, qM, qFz, qFI, qG, zz, qU, k9, ke, qa, qc, qb, kZ, reduceCtorEq, qD, qC, qV, qw, za, qt, qe, kp, qh, qFD, qY, hsk, qu, qd, qi, hm1, ku, qA, qm, qf, zg, qy, q9, hH1, kT, qFy, qFu, qFv, kA, qZ, qx, yu, qaQ, jE, qz, zu, kQ, kO, ji, kR, jB, Nat.add_zero, qL, zx, qg, ko, qFM, Nat.reduceEqDiff, zD, e1, decide_true, kl, kj, qB, qK, ↓reduceIte, zc, zk, jQ, kP, jb, qFF, qFG, Nat.reduceAdd, Nat.reduceLT, jP, qFJ, zS, zQ, zF, jI, zH, kK, zf, qX, zB, zy, zq, kC, qaD, kS, kY, kD, kI, kW, qO, qj, ze, zA, qT, qo, qbY, qhI, qct, qoD, yA, ky, qFL, qcA, yC, Nat.reduceLeDiff, j0, qFQ, qFP, List.take_zero, qP, qQ, qn, zn, yB, qp, qE, kf, tok]
        rfl
    · have e1 : ((j : Int) = (s.length : Int)) = False := by rw [eq_iff_iff]; simp; omega
      rw [if_neg hj]
      have hjlt : j < s.length := by omega
      have hL : s.drop j = s[j] :: s.drop (j + 1) := qlL hjlt
      have hix : ixV (.d (.s s)) (.d (.i .i64 (j : Int))) = some (.d (.i .u8 ((s[j] : Nat) : Int))) := quA (by omega) (by simp)
      generalize s[j] = c at hL hix
      have hlc := qoT (c := c) (H := kh H id (sc s j))
      have hdc := qmM (c := c) (H := kh H id (sc s j))
      have hq := qgF (t := [34]) hH1 (by omega)
      rw [hL, qFf] at hq
      have fin : ∀ (r : Sy) (f : Nat), MRes id s j (kh H id (sc s j)) r (kn pg f [.ptr id 0] (kh H id (sc s j))) →
          (∀ sm2 lo2 k t n a', kn pg f [.ptr id 0] (kh H id (sc s j)) = some ⟨false, sm2, .d (tok k 0 0 t n), kh H id (sc s a'), lo2⟩ → r = .ok k t n a' → ∃ e, qno H true [.cell 2 ⟨5, true⟩] (exL pg f_scan_scanner_next.body ⟨jq 0 [.ptr id 0], H, H.length⟩) = leave H false (.d (tok k j a' t n)) ⟨e, kh H id (sc s a'), min lo lo2⟩) →
          (∀ sm2 lo2 x a', kn pg f [.ptr id 0] (kh H id (sc s j)) = some ⟨true, sm2, .ifc 157 (.d (.agg [.i .i64 (j : Nat), .i .i64 x])), kh H id (sc s a'), lo2⟩ → r = .bad x → ∃ e, qno H true [.cell 2 ⟨5, true⟩] (exL pg f_scan_scanner_next.body ⟨jq 0 [.ptr id 0], H, H.length⟩) = leave H true (.ifc 157 (.d (.agg [.i .i64 (j : Nat), .i .i64 x]))) ⟨e, kh H id (sc s a'), min lo lo2⟩) →
          NRes id s a H (qx3 j r) (qno H true [.cell 2 ⟨5, true⟩] (exL pg f_scan_scanner_next.body ⟨jq 0 [.ptr id 0], H, H.length⟩)) := by
        intro r f hm hgood hbad
        cases r with
        | ok k t n a' =>
          obtain ⟨sm2, lo2, q1, q2, q3, hc⟩ := hm
          rw [jz] at hc
          rw [kv] at q2
          obtain ⟨e, he⟩ := hgood sm2 lo2 k t n a' hc rfl
          exact NRes.good hid hH (by omega) (by omega) (by omega) he
        | bad x =>
          obtain ⟨sm2, lo2, a', q1, q2, q3, hc⟩ := hm
          rw [jz] at hc
          rw [kv] at q2
          obtain ⟨e, he⟩ := hbad sm2 lo2 x a' hc rfl
          exact NRes.worse hid hH (by omega) (by omega) (by omega) he
      have hsym : qsS s j = if cLt c = true then qqY s j else if cDg c = true then qxI s j else if c = 34 then qrX s j else qrs s j c := by
        unfold qsS; rw [hL]
      rw [hsym]
      cases hlt : cLt c with
      | true =>
        rw [hlt] at hlc
        rw [if_pos rfl]
        refine fin _ 175 (qxO hz (by omega) hH1) ?_ ?_
        · intro sm2 lo2 k t n a' hc _
          have hH2 : (kh H id (sc s a'))[id]? = some (sc s a') := jf hH
          simp only [tok] at hc
          simp only [f_scan_scanner_next, ql, qFC, qq, qr, qs, qk, qM, qFz, qFI, qG, zz, qU, k9, ke, qa, qc, qb, kZ, reduceCtorEq, qD, qC, qV, qw, za, qt, qe, kp, qh, qFD, qY, hsk, qu, qd, qi, hm1, ku, qA, qm, qf, zg, qy, q9, hH1, kT, qFy, qFu, qFv, kA, qZ, qx, yu, qaQ, jE, qz, zu, kQ, kO, ji, kR, jB, Nat.add_zero, qL, zx, qg, ko, qFM, Nat.reduceEqDiff, zD, e1, decide_false, kl, kj, qB, qK, qFs, ↓reduceIte, kL, hix, qH, hlc, kv, hm2, jh, zw, kg, hc, qX, zB, zy, zq, qFF, qFG, Nat.reduceAdd, kC, jb, jQ, qaD, kS, kY, kD, kI, kW, qO, qj, ze, zA, qT, qo, hH2, qbY, qhI, qct, qoD, yA, kP, Nat.reduceLT, ky, qFL, qFJ, qcA, yC, Nat.reduceLeDiff, j0, qFQ, qFP, List.take_zero, zF, jI, zH, kK, zf, qP, qQ, qn, zn, yB, qp, qE, kf, tok]
          exact ⟨_, rfl⟩
        · intro sm2 lo2 x a' hc _
          simp only [f_scan_scanner_next, ql, qFC, qq, qr, qs, qk, qM, qFz, qFI, qG, zz, qU, k9, ke, qa, qc, qb, kZ, reduceCtorEq, qD, qC, qV, qw, za, qt, qe, kp, qh, qFD, qY, hsk, qu, qd, qi, hm1, ku, qA, qm, qf, zg, qy, q9, hH1, kT, qFy, qFu, qFv, kA, qZ, qx, yu, qaQ, jE, qz, zu, kQ, kO, ji, kR, jB, Nat.add_zero, qL, zx, qg, ko, qFM, Nat.reduceEqDiff, zD, e1, decide_false, kl, kj, qB, qK, qFs, ↓reduceIte, kL, hix, qH, hlc, kv, hm2, jh, zw, kg, hc, qaY, qa5, yH, qan]
          exact ⟨_, rfl⟩
      | false =>
        rw [hlt] at hlc
        rw [if_neg (by simp)]
        cases hdt : cDg c with
        | true =>
          rw [hdt] at hdc
          rw [if_pos rfl]
          refine fin _ 177 (qvs hz hL hdt hH1) ?_ ?_
          · intro sm2 lo2 k t n a' hc _
            have hH2 : (kh H id (sc s a'))[id]? = some (sc s a') := jf hH
            simp only [tok] at hc
            simp only [f_scan_scanner_next, ql, qFC, qq, qr, qs, qk, qM, qFz, qFI, qG, zz, qU, k9, ke, qa, qc, qb, kZ, reduceCtorEq, qD, qC, qV, qw, za, qt, qe, kp, qh, qFD, qY, hsk, qu, qd, qi, hm1, ku, qA, qm, qf, zg, qy, q9, hH1, kT, qFy, qFu, qFv, kA, qZ, qx, yu, qaQ, jE, qz, zu, kQ, kO, ji, kR, jB, Nat.add_zero, qL, zx, qg, ko, qFM, Nat.reduceEqDiff, zD, e1, decide_false, kl, kj, qB, qK, qFs, ↓reduceIte, kL, hix, qH, hlc, kv, hm2, jh, zw, kg, hdc, hc, qX, zB, zy, zq, qFF, qFG, Nat.reduceAdd, kC, jb, jQ, qaD, kS, kY, kD, kI, kW, qO, qj, ze, zA, qT, qo, hH2, qbY, qhI, qct, qoD, yA, kP, Nat.reduceLT, ky, qFL, qFJ, qcA, yC, Nat.reduceLeDiff, j0, qFQ, qFP, List.take_zero, zF, jI, zH, kK, zf, qP, qQ, qn, zn, yB, qp, qE, kf, tok]
            exact ⟨_, rfl⟩
          · intro sm2 lo2 x a' hc _
            simp only [f_scan_scanner_next, ql, qFC, qq, qr, qs, qk, qM, qFz, qFI, qG, zz, qU, k9, ke, qa, qc, qb, kZ, reduceCtorEq, qD, qC, qV, qw, za, qt, qe, kp, qh, qFD, qY, hsk, qu, qd, qi, hm1, ku, qA, qm, qf, zg, qy, q9, hH1, kT, qFy, qFu, qFv, kA, qZ, qx, yu, qaQ, jE, qz, zu, kQ, kO, ji, kR, jB, Nat.add_zero, qL, zx, qg, ko, qFM, Nat.reduceEqDiff, zD, e1, decide_false, kl, kj, qB, qK, qFs, ↓reduceIte, kL, hix, qH, hlc, kv, hm2, jh, zw, kg, hdc, hc, qaY, qa5, yH, qan]
            exact ⟨_, rfl⟩
        | false =>
          rw [hdt] at hdc
          rw [if_neg (by simp)]
          by_cases h34 : c = 34
          · rw [if_pos h34]
            rw [decide_eq_true h34] at hq
            refine fin _ 179 (qyv hz (by omega) hH1) ?_ ?_
            · intro sm2 lo2 k t n a' hc _
              have hH2 : (kh H id (sc s a'))[id]? = some (sc s a') := jf hH
              simp only [tok] at hc
              simp only [f_scan_scanner_next, ql, qFC, qq, qr, qs, qk, qM, qFz, qFI, qG, zz, qU, k9, ke, qa, qc, qb, kZ, reduceCtorEq, qD, qC, qV, qw, za, qt, qe, kp, qh, qFD, qY, hsk, qu, qd, qi, hm1, ku, qA, qm, qf, zg, qy, q9, hH1, kT, qFy, qFu, qFv, kA, qZ, qx, yu, qaQ, jE, qz, zu, kQ, kO, ji, kR, jB, Nat.add_zero, qL, zx, qg, ko, qFM, Nat.reduceEqDiff, zD, e1, decide_false, kl, kj, qB, qK, qFs, ↓reduceIte, kL, hix, qH, hlc, kv, hm2, jh, zw, kg, hdc, zk, hq, qF, hc, qX, zB, zy, zq, qFF, qFG, Nat.reduceAdd, kC, jb, jQ, qaD, kS, kY, kD, kI, kW, qO, qj, ze, zA, qT, qo, hH2, qbY, qhI, qct, qoD, yA, kP, Nat.reduceLT, ky, qFL, qFJ, qcA, yC, Nat.reduceLeDiff, j0, qFQ, qFP, List.take_zero, zF, jI, zH, kK, zf, qP, qQ, qn, zn, yB, qp, qE, kf, tok]
              exact ⟨_, rfl⟩
            · intro sm2 lo2 x a' hc _
              simp only [f_scan_scanner_next, ql, qFC, qq, qr, qs, qk, qM, qFz, qFI, qG, zz, qU, k9, ke, qa, qc, qb, kZ, reduceCtorEq, qD, qC, qV, qw, za, qt, qe, kp, qh, qFD, qY, hsk, qu, qd, qi, hm1, ku, qA, qm, qf, zg, qy, q9, hH1, kT, qFy, qFu, qFv, kA, qZ, qx, yu, qaQ, jE, qz, zu, kQ, kO, ji, kR, jB, Nat.add_zero, qL, zx, qg, ko, qFM, Nat.reduceEqDiff, zD, e1, decide_false, kl, kj, qB, qK, qFs, ↓reduceIte, kL, hix, qH, hlc, kv, hm2, jh, zw, kg, hdc, zk, hq, qF, hc, qaY, qa5, yH, qan]
              exact ⟨_, rfl⟩
          · rw [if_neg h34]
            rw [decide_eq_false h34] at hq
            refine fin _ 180 (qyz hs hz hL hH1) ?_ ?_
            · intro sm2 lo2 k t n a' hc _
              have hH2 : (kh H id (sc s a'))[id]? = some (sc s a') := jf hH
              simp only [tok] at hc
              simp only [f_scan_scanner_next, ql, qFC, qq, qr, qs, qk, qM, qFz, qFI, qG, zz, qU, k9, ke, qa, qc, qb, kZ, reduceCtorEq, qD, qC, qV, qw, za, qt, qe, kp, qh, qFD, qY, hsk, qu, qd, qi, hm1, ku, qA, qm, qf, zg, qy, q9, hH1, kT, qFy, qFu, qFv, kA, qZ, qx, yu, qaQ, jE, qz, zu, kQ, kO, ji, kR, jB, Nat.add_zero, qL, zx, qg, ko, qFM, Nat.reduceEqDiff, zD, e1, decide_false, kl, kj, qB, qK, qFs, ↓reduceIte, kL, hix, qH, hlc, kv, hm2, jh, zw, kg, hdc, zk, hq, qF, hc, qX, zB, zy, zq, qFF, qFG, Nat.reduceAdd, kC, jb, jQ, qaD, kS, kY, kD, kI, kW, qO, qj, ze, zA, qT, qo, hH2, qbY, qhI, qct, qoD, yA, kP, Nat.reduceLT, ky, qFL, qFJ, qcA, yC, Nat.reduceLeDiff, j0, qFQ, qFP, List.take_zero, zF, jI, zH, kK, zf, qP, qQ, qn, zn, yB, qp, qE, kf, tok]
              exact ⟨_, rfl⟩
            · intro sm2 lo2 x a' hc _
              simp only [f_scan_scanner_next, ql, qFC, qq, qr, qs, qk, qM, qFz, qFI, qG, zz, qU, k9, ke, qa, qc, qb, kZ, reduceCtorEq, qD, qC, qV, qw, za, qt, qe, kp, qh, qFD, qY, hsk, qu, qd, qi, hm1, ku, qA, qm, qf, zg, qy, q9, hH1, kT, qFy, qFu, qFv, kA, qZ, qx, yu, qaQ, jE, qz, zu, kQ, kO, ji, kR, jB, Nat.add_zero, qL, zx, qg, ko, qFM, Nat.reduceEqDiff, zD, e1, decide_false, kl, kj, qB, qK, qFs, ↓reduceIte, kL, hix, qH, hlc, kv, hm2, jh, zw, kg, hdc, zk, hq, qF, hc, qaY, qa5, yH, qan]
              exact ⟨_, rfl⟩
end W

set_option linter.unusedSimpArgs false
set_option linter.unusedVariables false
namespace W
open Go (IntKind BinOp UnOp)
set_option maxRecDepth 20000
structure Tk where
  k : Int
  p : Nat
  e : Nat
  t : List Nat
  n : Int
  deriving DecidableEq
def eTk (x : Tk) : D := .agg [.i .i64 x.k, .i .i64 x.p, .i .i64 x.e, .s x.t, .i .i32 x.n]
def qfi (s : List Nat) : Nat → Nat → List Tk → Sum (Nat × Int) (List Tk)
  | 0, _, _ => .inl (0, 0)
  | f + 1, a, acc => match qkB s a with
    | .bad p e => .inl (p, e)
    | .ok k p e t n => if k = 0 then .inr (acc ++ [⟨k, p, e, t, n⟩]) else qfi s f e (acc ++ [⟨k, p, e, t, n⟩])
noncomputable def qBq (pg : Pg) (fn : Fn) (H : List Obj) (t : Nat) (rest : C) (r : Option (Ex × St)) : Option Cr :=
  match r with
  | some (.nrm, st) => deferred pg (exL pg) fn H t rest st
  | some (.ret, st) => yT fn H st
  | some (.pan v, st) => leave H true v st
  | _ => none
theorem qyo {pg : Pg} {f : Nat} {fn : Fn} {vs : List V} {H : List Obj} {t : Nat} {rest : C} (hf : pg.fn f = some fn) (hn : fn.np = vs.length) (hd : fn.dfr = some (t, rest)) (hr : fn.rcv = none) :
    kn pg f vs H = qBq pg fn H t rest (exL pg fn.body { env := jq 0 vs, H, lo := H.length }) := by
  rw [qiD]
  simp only [zG, hf, hn, hd, hr, and_self, if_true, qBq]
  all_goals rfl
theorem qzy {pg : Pg} {fn : Fn} {H : List Obj} {t : Nat} {rest : C} {st : St} : qBq pg fn H t rest (some (.nrm, st)) = deferred pg (exL pg) fn H t rest st := rfl
theorem qkt {fn : Fn} {H : List Obj} {st : St} : yT fn H st = qno H fn.own fn.res (some (.ret, st)) := rfl
theorem qz3 {pg : Pg} {fn : Fn} {H : List Obj} {t : Nat} {rest : C} {st : St} : qBq pg fn H t rest (some (.ret, st)) = yT fn H st := rfl
theorem qA4 {i0 i1 : Nat} {H : List Obj} {lo : Nat} : ∃ e, exL pg f_scan_All_1.body ⟨(5, .d .ni) :: jq 0 [.ptr i0 0, .ptr i1 0], H, lo⟩ = some (.nrm, ⟨e, H, lo⟩) := by
  simp only [f_scan_All_1, ql, qFC, Nat.reduceAdd, qq, qr, qs, qk, qb, kZ, qC, qx, qw, qG, qZ, qa, qc, qg, ko, kM, qFE, zk, qm3, qm, qB, qK, qFs, ↓reduceIte, qR]
  exact ⟨_, rfl⟩
theorem qz7 {i0 i1 : Nat} {H : List Obj} {lo : Nat} {p e : Int} {v : V} (h0 : H[i0]? = some (.cells [v])) (h1 : H[i1]? = some (.cells [.d .nil])) (hne : (i1 = i0) = False) : ∃ en lo', min lo (min i0 i1) ≤ lo' ∧
    exL pg f_scan_All_1.body ⟨(5, .ifc 157 (.d (.agg [.i .i64 p, .i .i64 e]))) :: jq 0 [.ptr i0 0, .ptr i1 0], H, lo⟩ = some (.nrm, ⟨en, kh (kh H i0 (.cells [.d .nil])) i1 (.cells [.osl [.agg [.i .i64 p, .i .i64 e]]]), lo'⟩) := by
  have h2 : (kh H i0 (.cells [.d .nil]))[i1]? = some (.cells [.d .nil]) := by rw [qa2 hne]; exact h1
  simp only [f_scan_All_1, ql, qFC, Nat.reduceAdd, qq, qr, qs, qk, qb, kZ, qC, qaU, qw, qG, qcR, qa, qc, qg, ko, kM, qFE, zk, qjn, qm, qZ, qB, qx, qK, ↓reduceIte, Nat.reduceEqDiff, qD, qfY, qkF, ku, qW, zC, qb3, qbZ, qb8, qM, qFz, qFI, zz, qU, yu, qaQ, qow, k9, ke, qX, zB, zy, zq, qFF, qFG, kC, jb, jQ, kS, qFD, kY, Nat.reduceLT, qmO, qFJ, qFL, kI, kW, z8, yr, qFO, qFv, qFs, qR, zu, kQ, qf, qbY, Nat.add_zero, kO, qhI, qct, qoD, kR, qy, yA, yC, Nat.reduceLeDiff, j0, qFQ, qFP, List.take_zero, kA, zF, jI, zH, kK, zf, jB, kw, j2, List.reduceReplicate, zW, jt, jN, qdP, jS, yK, yP, jK, qcg, reduceCtorEq, qV, qF, ju, h0, qcy, kP, kV, ky, kU, kl, qcA, jh, qax, kg, h2, qaT, qbL, kj]
  refine ⟨_, _, ?_, rfl⟩
  omega
theorem qpr {x y a : Nat} {s : List Nat} (h : pre [x, y] (s.drop a) = true) : a + 2 ≤ s.length := by
  simp only [pre, decide_eq_true_eq] at h
  have := congrArg List.length h
  simp only [List.length_take, List.length_drop, qFF, qFG] at this
  omega
theorem qAy {s : List Nat} {j : Nat} {k : Int} {t : List Nat} {n : Int} {a' : Nat} (h : qsS s j = .ok k t n a') : j < a' ∧ a' ≤ s.length ∧ k ≠ 0 := by
  unfold qsS at h
  split at h
  · cases h
  · rename_i c l hL
    obtain ⟨hget, hdr, hlt⟩ := qqn hL
    split at h
    · rename_i hc
      have hle := qjg cNm (s.drop j)
      have hk : 0 < run cNm (s.drop j) := by rw [hL]; simp [run, cNm, hc]
      simp only [List.length_drop] at hle
      unfold qqY at h
      split at h
      · cases h
      · split at h
        · cases h; exact ⟨by omega, by omega, by decide⟩
        · cases h; exact ⟨by omega, by omega, by decide⟩
    · split at h
      · rename_i hc
        have hle := qjg cHx (s.drop j)
        have hk : 0 < run cHx (s.drop j) := by rw [hL]; simp [run, cHx, hc]
        simp only [List.length_drop] at hle
        unfold qxI at h
        split at h
        · rename_i hp
          have := qlz hp
          unfold qpm at h
          split at h
          · cases h
          · cases h; exact ⟨by omega, by omega, by decide⟩
        · split at h
          · rename_i hp
            have := qlz hp
            unfold qpm at h
            split at h
            · cases h
            · cases h; exact ⟨by omega, by omega, by decide⟩
          · unfold qpm at h
            split at h
            · cases h
            · cases h; exact ⟨by omega, by omega, by decide⟩
      · split at h
        · unfold qrX at h
          split at h
          · rename_i hp
            have := qlz hp
            split at h
            · cases h
            · cases h; exact ⟨by omega, by omega, by decide⟩
          · cases h
        · unfold qrs at h
          split at h
          · rename_i hp
            have := qpr hp
            cases h; exact ⟨by omega, by omega, by decide⟩
          · split at h
            · rename_i hp
              have := qpr hp
              cases h; exact ⟨by omega, by omega, by decide⟩
            · split at h
              · rename_i hp
                have := qpr hp
                cases h; exact ⟨by omega, by omega, by decide⟩
              · split at h
                · rename_i hp
                  have := qpr hp
                  cases h; exact ⟨by omega, by omega, by decide⟩
                · split at h
                  · cases h
                  · cases h; exact ⟨by omega, by omega, by decide⟩
theorem qyD {s : List Nat} {a : Nat} (ha : a ≤ s.length) {k : Int} {p e : Nat} {t : List Nat} {n : Int} (h : qkB s a = .ok k p e t n) : a ≤ p ∧ p ≤ e ∧ e ≤ s.length ∧ (k ≠ 0 → a < e) := by
  unfold qkB at h
  split at h
  · cases h
  · rename_i j hj
    have hjl := qBN (s.drop a).length 0 a a (s.drop a) j (qFw _) hj
    simp only [List.length_drop] at hjl
    split at h
    · cases h
      exact ⟨by omega, by omega, by omega, fun h => absurd rfl h⟩
    · generalize hr : qsS s j = r at h
      cases r with
      | ok k' t' n' a' =>
        have := qAy hr
        simp only [qx3] at h
        cases h
        exact ⟨by omega, by omega, by omega, fun _ => by omega⟩
      | bad e => simp only [qx3] at h; cases h
def ARes (b : Nat) (r : Sum (Nat × Int) (List Tk)) (X : Option (Ex × St)) : Prop :=
  match r with
  | .inr L' => ∃ e H' lo', b ≤ lo' ∧ get 2 e = .ptr b 0 ∧ get 3 e = .ptr (b + 1) 0 ∧ H'[b]? = some (.cells [.d (slD eTk L')]) ∧ H'[b + 1]? = some (.cells [.d .nil]) ∧ X = some (.ret, ⟨e, H', lo'⟩)
  | .inl (p, x) => ∃ e H' lo' v, b ≤ lo' ∧ get 2 e = .ptr b 0 ∧ get 3 e = .ptr (b + 1) 0 ∧ H'[b]? = some (.cells [v]) ∧ H'[b + 1]? = some (.cells [.d .nil]) ∧ X = some (.pan (.ifc 157 (.d (.agg [.i .i64 (p : Nat), .i .i64 x]))), ⟨e, H', lo'⟩)
theorem ARes.good {b : Nat} {L' : List Tk} {e : Env} {H' : List Obj} {lo' : Nat} {X : Option (Ex × St)} (h5 : X = some (.ret, ⟨e, H', lo'⟩)) (h1 : b ≤ lo') (h2 : get 2 e = .ptr b 0) (h3 : get 3 e = .ptr (b + 1) 0) (h4 : H'[b]? = some (.cells [.d (slD eTk L')])) (h6 : H'[b + 1]? = some (.cells [.d .nil])) : ARes b (.inr L') X :=
  ⟨e, H', lo', h1, h2, h3, h4, h6, h5⟩
theorem ARes.bad {b p : Nat} {x : Int} {e : Env} {H' : List Obj} {lo' : Nat} {v : V} {X : Option (Ex × St)} (h5 : X = some (.pan (.ifc 157 (.d (.agg [.i .i64 (p : Nat), .i .i64 x]))), ⟨e, H', lo'⟩)) (h1 : b ≤ lo') (h2 : get 2 e = .ptr b 0) (h3 : get 3 e = .ptr (b + 1) 0) (h4 : H'[b]? = some (.cells [v])) (h6 : H'[b + 1]? = some (.cells [.d .nil])) : ARes b (.inl (p, x)) X :=
  ⟨e, H', lo', v, h1, h2, h3, h4, h6, h5⟩
theorem qAn {s : List Nat} (hs : ∀ c ∈ s, c < 256) (hz : s.length ≤ 1000000000000) {b : Nat} :
    ∀ (f a : Nat) (L : List Tk) (H : List Obj) (lo : Nat), s.length - a < f → a ≤ s.length → L.length ≤ a → b ≤ lo → lo ≤ H.length → H[b]? = some (.cells [slV eTk L]) → H[b + 1]? = some (.cells [.d .nil]) → H[b + 2]? = some (sc s a) →
      ARes b (qfi s f a L) (qaO 0 [2, 3] (qex pg (.ptr b 0) (.ptr (b + 1) 0) (.ptr (b + 2) 0) H lo)) := by
  intro f
  induction f with
  | zero => intro a L H lo h; omega
  | succ f ih =>
    intro a L H lo hf ha hLa hlo hloH h0 h1 h2
    have hn := qyI hs hz ha h2
    rw [qof, qfi]
    have d1 : (b = b + 2) = False := by simp
    have d2 : (b + 1 = b + 2) = False := by simp
    generalize hr : qkB s a = r at hn
    cases r with
    | bad p x =>
      obtain ⟨sm, lo1, a', g1, g2, g3, hc⟩ := hn
      have e0 : (kh H (b + 2) (sc s a'))[b]? = some (.cells [slV eTk L]) := by rw [qa2 d1]; exact h0
      have e1 : (kh H (b + 2) (sc s a'))[b + 1]? = some (.cells [.d .nil]) := by rw [qa2 d2]; exact h1
      refine ARes.bad (e := ?e) (lo' := min lo lo1) ?h5 (by omega) ?g2 ?g3 e0 e1
      case h5 =>
        simp only [qbR, ze, qz, qr, qs, qk, qb, kZ, Nat.reduceEqDiff, qD, qC, qV, qw, qG, za, qt, qFz, qFI, qe, kp, qh, qFD, qY, hc, qu, qd, qi, qaY, yH, qa5]
        rfl
      case g2 => rfl
      case g3 => rfl
    | ok k p e t n =>
      obtain ⟨sm, lo1, g1, g2, g3, hc⟩ := hn
      have hpr := qyD ha hr
      have e0 : (kh H (b + 2) (sc s e))[b]? = some (.cells [slV eTk L]) := by rw [qa2 d1]; exact h0
      have e1 : (kh H (b + 2) (sc s e))[b + 1]? = some (.cells [.d .nil]) := by rw [qa2 d2]; exact h1
      have e2 : (kh H (b + 2) (sc s e))[b + 2]? = some (sc s e) := jf h2
      have d3 : (b + 1 = b) = False := by simp
      have d4 : (b + 2 = b) = False := by simp
      have e3 : (kh (kh H (b + 2) (sc s e)) b (.cells [.undef]))[b]? = some (.cells [.undef]) := jf e0
      have happ : qar 5 48 (slV eTk L) (.d (.sl [.agg [.i .i64 k, .i .i64 p, .i .i64 e, .s t, .i .i32 n]])) = some (slV eTk (L ++ [⟨k, p, e, t, n⟩])) :=
        qyT (x := (⟨k, p, e, t, n⟩ : Tk)) (fun _ => rfl) (qzx (by omega) (by omega))
      simp only [tok] at hc
      have e4 : ∀ o, (kh (kh H (b + 2) (sc s e)) b o)[b]? = some o := fun o => jf e0
      have e5 : ∀ o, (kh (kh H (b + 2) (sc s e)) b o)[b + 1]? = some (.cells [.d .nil]) := fun o => by rw [qa2 d3]; exact e1
      have e6 : ∀ o, (kh (kh H (b + 2) (sc s e)) b o)[b + 2]? = some (sc s e) := fun o => by rw [qa2 d4]; exact e2
      by_cases hk : k = 0
      · subst hk
        have d5 : (b = b + 1) = False := by simp
        simp only [if_true]
        have key : ∃ e', qaO 0 [2, 3] (qbd pg (exL pg qbR ⟨[(2, kH (.ptr b 0)), (3, kH (.ptr (b + 1) 0)), (4, kH (.ptr (b + 2) 0))], H, lo⟩) qbS) = some (.ret, ⟨e', kh (kh (kh H (b + 2) (sc s e)) b (.cells [.d (slD eTk (L ++ [⟨0, p, e, t, n⟩]))])) (b + 1) (.cells [.d .nil]), min (min (min (min (min lo lo1) b) b) b) (b + 1)⟩) ∧ get 2 e' = .ptr b 0 ∧ get 3 e' = .ptr (b + 1) 0 := by
          simp only [qbR, ze, qz, qr, qs, qk, qb, kZ, Nat.reduceEqDiff, qD, qC, qV, qw, qG, za, qt, qFz, qFI, qe, kp, qh, qFD, qY, hc, qu, qd, qi, qZ, qM, zz, qU, yu, k9, ke, qX, jh, zw, zB, kg, zy, zq, qFF, qFG, qFC, Nat.reduceAdd, kC, jb, jQ, qaD, kS, kY, kD, kI, kW, qa, qc, qfv, e0, qFu, qFJ, qhV, qy, yC, Nat.reduceLeDiff, j0, qFQ, qFP, List.take_zero, kA, zF, jI, zH, kK, zf, qm, kw, j2, List.reduceReplicate, qx, Nat.reduceLT, zW, jt, jN, qdP, jS, yK, yP, jK, y7, qaX, qi6, jJ, happ, qc9, ju, e3, qlJ, qng, kV, ky, kU, jz, qf, qbY, Nat.add_zero, qe1, yA, qsN, qFv, qg, ko, kM, qFE, zk, zD, decide_true, qB, qK, ↓reduceIte, q9, e4, kT, qoy, qsZ, kP, qF, e5, qcy, qP, zE, zp]
          exact ⟨_, rfl, rfl, rfl⟩
        obtain ⟨e', k1, k2, k3⟩ := key
        exact ARes.good k1 (by omega) k2 k3 (by rw [qa2 d5]; exact e4 _) (jf (e5 _))
      · have q1 : (k = 0) = False := eq_false hk
        simp only [hk, if_false]
        have ih' := ih e (L ++ [⟨k, p, e, t, n⟩]) (kh (kh H (b + 2) (sc s e)) b (.cells [slV eTk (L ++ [⟨k, p, e, t, n⟩])])) (min (min (min lo lo1) b) b) (by omega) (by omega) (by simp only [List.length_append, qFF, qFG]; omega) (by omega) (by simp only [kv]; omega) (e4 _) (e5 _) (e6 _)
        simp only [qbR, ze, qz, qr, qs, qk, qb, kZ, Nat.reduceEqDiff, qD, qC, qV, qw, qG, za, qt, qFz, qFI, qe, kp, qh, qFD, qY, hc, qu, qd, qi, qZ, qM, zz, qU, yu, k9, ke, qX, jh, zw, zB, kg, zy, zq, qFF, qFG, qFC, Nat.reduceAdd, kC, jb, jQ, qaD, kS, kY, kD, kI, kW, qa, qc, qfv, e0, qFu, qFJ, qhV, qy, yC, Nat.reduceLeDiff, j0, qFQ, qFP, List.take_zero, kA, zF, jI, zH, kK, zf, qm, kw, j2, List.reduceReplicate, qx, Nat.reduceLT, zW, jt, jN, qdP, jS, yK, yP, jK, y7, qaX, qi6, jJ, happ, qc9, ju, e3, qlJ, qng, kV, ky, kU, jz, qf, qbY, Nat.add_zero, qe1, yA, qsN, qFv, qg, ko, kM, qFE, zk, zD, q1, decide_false, qB, qK, qFs, ↓reduceIte, qR, qO, qj, qo, qiB]
        exact ih'
theorem qsI {pg : Pg} {fn : Fn} {H : List Obj} {t hd : Nat} {first cap : List V} {rest : C} {st st' : St} (h : get t st.env = .fn hd first cap) (hk : V.ok.oks (first ++ cap) = true) (hx : exL pg rest st = some (.ret, st')) : deferred pg (exL pg) fn H t rest st = handle pg (exL pg) fn H hd (first ++ cap) (.d .ni) st' := by
  simp only [deferred, h, hk, hx, cond_true]
theorem qsy {pg : Pg} {fn : Fn} {H : List Obj} {t hd : Nat} {first cap : List V} {rest : C} {st st' : St} {v : V} (h : get t st.env = .fn hd first cap) (hk : V.ok.oks (first ++ cap) = true) (hx : exL pg rest st = some (.pan v, st')) (hv : qzT v = true) : deferred pg (exL pg) fn H t rest st = handle pg (exL pg) fn H hd (first ++ cap) v st' := by
  simp only [deferred, h, hk, hx, hv, cond_true]
theorem qpO {pg : Pg} {fn hf : Fn} {H : List Obj} {hd d : Nat} {vs : List V} {v : V} {st st' : St} (h1 : pg.fn hd = some hf) (h2 : hf.rcv = some d) (h3 : (qFx hf.np vs.length && hf.res.isEmpty) = true) (hx : exL pg hf.body ⟨(d, v) :: jq 0 vs, st.H, st.lo⟩ = some (.nrm, st')) :
    handle pg (exL pg) fn H hd vs v st = yT fn H ⟨st.env, st'.H, st'.lo⟩ := by
  simp only [handle, h1, h2, h3, hx, cond_true]
theorem qFe {s : List Nat} (hs : ∀ c ∈ s, c < 256) (hz : s.length ≤ 1000000000000) {H : List Obj} {e : Env} (g0 : get 0 e = .d (.s s)) (g2 : get 2 e = .ptr H.length 0) (g3 : get 3 e = .ptr (H.length + 1) 0) :
    ARes H.length (qfi s (s.length + 1) 0 []) (exL pg qjd ⟨e, H ++ [.cells [.d .nil]] ++ [.cells [.d .nil]], H.length⟩) := by
  have hl := qAn hs hz (b := H.length) (s.length + 1) 0 [] (H ++ [.cells [.d .nil]] ++ [.cells [.d .nil]] ++ [sc s 0]) H.length (by omega) (by omega) (by simp) (qFw _) (by simp) (by simp [slV]) (by simp) (by simp)
  have hz0 : ((0 : Nat) : Int) = 0 := rfl
  have hs0 : slV eTk [] = .d .nil := rfl
  simp only [qjd, qr, qR, qc, qs, qk, qb, kZ, g0, qx, qw, qG, qZ, zc, qFz, qFI, qC, qaD, kP, jb, qFF, qFG, qFC, Nat.reduceAdd, Nat.reduceLT, jP, qFJ, zS, zQ, zF, jI, zH, kK, zf, qm, qod, zq, kC, jQ, kS, qFD, qwn, List.length_append, za, qV, qa, qz, qiB, Nat.reduceEqDiff, qD, g2, ze, g3]
  exact hl
theorem qz8 {s : List Nat} (hs : ∀ c ∈ s, c < 256) (hz : s.length ≤ 1000000000000) {H : List Obj} :
    ∃ lo, H.length ≤ lo ∧ kn pg 33 [.d (.s s)] H = some ⟨false, true, (if 20000 < s.length then .tup [.d .nil, .d (.sl [.agg [.i .i64 20000, .i .i64 34]])] else match qfi s (s.length + 1) 0 [] with
      | .inr L => .tup [.d (slD eTk L), .d .nil]
      | .inl (p, x) => .tup [.d .nil, .d (.sl [.agg [.i .i64 (p : Nat), .i .i64 x]])]), H, lo⟩ := by
  rw [qyo (fn := f_scan_All) rfl rfl rfl rfl]
  have a0 : (H ++ [Obj.cells [.d .nil]])[H.length]? = some (.cells [.d .nil]) := by simp
  have a1 : ((H ++ [Obj.cells [.d .nil]]) ++ [Obj.cells [.d .nil]])[H.length]? = some (.cells [.d .nil]) := by simp
  have a2 : ((H ++ [Obj.cells [.d .nil]]) ++ [Obj.cells [.d .nil]])[H.length + 1]? = some (.cells [.d .nil]) := by simp
  have d3 : (H.length + 1 = H.length) = False := by simp
  have d5 : (H.length = H.length + 1) = False := by simp
  have b1 : ∀ o, (kh ((H ++ [Obj.cells [.d .nil]]) ++ [Obj.cells [.d .nil]]) H.length o)[H.length + 1]? = some (.cells [.d .nil]) := fun o => by rw [qa2 d3]; exact a2
  have b2 : ∀ o o', (kh (kh ((H ++ [Obj.cells [.d .nil]]) ++ [Obj.cells [.d .nil]]) H.length o) (H.length + 1) o')[H.length]? = some o := fun o o' => by rw [qa2 d5]; exact jf a1
  have b3 : ∀ o o', (kh (kh ((H ++ [Obj.cells [.d .nil]]) ++ [Obj.cells [.d .nil]]) H.length o) (H.length + 1) o')[H.length + 1]? = some o' := fun o o' => jf (b1 o)
  by_cases h1 : 20000 < s.length
  · have e1 : ((20000 : Int) < (s.length : Int)) = True := by rw [eq_iff_iff]; simp; omega
    rw [if_pos h1]
    simp only [f_scan_All, ql, qFC, qq, qr, qs, qk, qhM, qFz, qFI, qG, za, List.length_append, qFF, qFG, qa, qc, qb, kZ, reduceCtorEq, qD, qC, qx, qw, qZ, qL, zx, qm, qg, ko, kM, qFE, zk, zh, e1, decide_true, qB, qK, ↓reduceIte, zc, jQ, kP, jb, Nat.reduceAdd, Nat.reduceLT, jP, qFJ, qFL, zS, zQ, zF, jI, zH, kK, zf, kw, j2, List.reduceReplicate, zW, jt, jN, qdP, jS, yK, qFD, yP, jK, y7, qX, Nat.reduceEqDiff, qV, qF, ju, a1, qcy, kC, kS, kV, ky, kU, Nat.min_self, kW, jh, qax, kg, b1, qaT, qbL, qP, zp, qz3, qkt, qQ, qn, zn, qkH, q9, b2, kT, qFu, qFv, kA, b3, qaR, qp, qE, qdI]
    refine ⟨_, ?_, zY rfl (Nat.zero_le _) (by simp only; omega)⟩
    simp only; omega
  · have e1 : ((20000 : Int) < (s.length : Int)) = False := by rw [eq_iff_iff]; simp; omega
    rw [if_neg h1]
    have hb : ∃ e, get 0 e = .d (.s s) ∧ get 2 e = .ptr H.length 0 ∧ get 3 e = .ptr (H.length + 1) 0 ∧ get 11 e = .fn 82 [] [.ptr H.length 0, .ptr (H.length + 1) 0] ∧ exL pg f_scan_All.body ⟨jq 0 [.d (.s s)], H, H.length⟩ = some (.nrm, ⟨e, H ++ [.cells [.d .nil]] ++ [.cells [.d .nil]], H.length⟩) := by
      simp only [f_scan_All, ql, qFC, qq, qr, qs, qk, qhM, qFz, qFI, qG, za, List.length_append, qFF, qFG, qa, qc, qb, kZ, reduceCtorEq, qD, qC, qx, qw, qZ, qL, zx, qm, qg, ko, kM, qFE, zk, zh, e1, decide_false, qB, qK, qFs, ↓reduceIte, qR, qmS, Nat.reduceEqDiff, qV, qap, qf7, qvV, qFD, qpR, qvW]
      exact ⟨_, rfl, rfl, rfl, rfl, rfl⟩
    obtain ⟨e, g0, g2, g3, g11, hb⟩ := hb
    rw [hb, qzy]
    have hD := qFe hs hz g0 g2 g3
    generalize qfi s (s.length + 1) 0 [] = r at hD
    cases r with
    | inr L =>
      obtain ⟨e', H', lo', k1, k2, k3, k4, k5, k6⟩ := hD
      rw [qsI g11 rfl k6]
      obtain ⟨e2, hh⟩ := qA4 (i0 := H.length) (i1 := H.length + 1) (H := H') (lo := lo')
      rw [qpO (hf := f_scan_All_1) (d := 5) rfl rfl rfl hh, qkt]
      have hr : f_scan_All.res = [.cell 2 ⟨1, false⟩, .cell 3 ⟨1, false⟩] := rfl
      have ho : f_scan_All.own = false := rfl
      simp only [ho, hr, qQ, qn, zn, k2, qkH, q9, k4, kT, qFu, qFv, kA, k3, k5, qp, qE, qdI]
      exact ⟨_, k1, zY rfl (Nat.zero_le _) k1⟩
    | inl q =>
      obtain ⟨p, x⟩ := q
      obtain ⟨e', H', lo', v, k1, k2, k3, k4, k5, k6⟩ := hD
      rw [qsy g11 rfl k6 rfl]
      obtain ⟨e2, lo2, hlo, hh⟩ := qz7 (p := (p : Int)) (e := x) (lo := lo') k4 k5 d3
      rw [qpO (hf := f_scan_All_1) (d := 5) rfl rfl rfl hh, qkt]
      have hr : f_scan_All.res = [.cell 2 ⟨1, false⟩, .cell 3 ⟨1, false⟩] := rfl
      have ho : f_scan_All.own = false := rfl
      have q1 : (kh H' H.length (.cells [.d .nil]))[H.length + 1]? = some (.cells [.d .nil]) := by rw [qa2 d3]; exact k5
      have q2 : ∀ o', (kh (kh H' H.length (.cells [.d .nil])) (H.length + 1) o')[H.length]? = some (.cells [.d .nil]) := fun o' => by rw [qa2 d5]; exact jf k4
      have q3 : ∀ o', (kh (kh H' H.length (.cells [.d .nil])) (H.length + 1) o')[H.length + 1]? = some o' := fun o' => jf q1
      simp only [ho, hr, qQ, qn, zn, k2, qkH, q9, q2, kT, qFu, qFv, kA, k3, q3, qaR, qp, qE, qdI]
      refine ⟨_, ?_, zY rfl (Nat.zero_le _) (by simp only; omega)⟩
      simp only; omega
end W

set_option linter.unusedSimpArgs false
set_option linter.unusedVariables false
namespace W
open Go (IntKind BinOp UnOp)
set_option maxRecDepth 20000
theorem qvl {H : List Obj} : kn pg 86 [] H = some ⟨false, true, slV D.s KW, H, H.length⟩ := by
  rw [zl (fn := qaL) rfl rfl]
  simp only [qaL, qq, qr, qs, qk, qb, zk, qF, qG, qZ, qa, qc, kw, y1, qFF, qFG, qFC, List.reduceReplicate, qFz, qFI, Nat.reduceAdd, Nat.reduceLT, zW, qFJ, qFL, jt, jN, qaD, qcd, yP, qFD, jK, qm, y7, jh, qC, qax, kg, qP, qQ, qn, kx, qn4, qp, qE, kf, qmF, qsx, qmC, zj]
  all_goals rfl
theorem qxP {L : List (List Nat)} {t : List Nat} (hz : L.length ≤ 1000000000000) {H : List Obj} :
    ∀ (k i : Nat), L.length - i = k → i ≤ L.length → ∃ x e, (x = .nrm ∨ x = .ret) ∧ get 2 e = .d (.b (decide (t ∈ L.drop i))) ∧
      qbd pg (qaO 0 [] (y9 pg (.d (.s t)) (slV D.s L) (.d (.i .i64 (i : Nat))) H H.length)) qaf = some (x, ⟨e, H, H.length⟩) := by
  intro k
  induction k with
  | zero =>
    intro i hk hi
    obtain rfl : i = L.length := by omega
    have h1 : ((L.length : Int) < (L.length : Int)) = False := by simp
    rw [qcq]
    simp only [jW, qT, yj, qr, qs, qk, qb, kZ, reduceCtorEq, qD, Nat.reduceEqDiff, qC, qx, qw, qG, qZ, y6, zO, qcN, qm, qg, ko, qFM, kX, h1, decide_false, qa, qc, qB, qK, qFs, ↓reduceIte, qbN, qag, yq, qo, qaf, zk, qF, qP]
    exact ⟨_, _, .inr rfl, by rw [List.drop_length]; simp [get], rfl⟩
  | succ k ih =>
    intro i hk hi
    have h1 : ((i : Int) < (L.length : Int)) = True := by rw [eq_iff_iff]; simp; omega
    have hlt : i < L.length := by omega
    have hdr : L.drop i = L[i] :: L.drop (i + 1) := by simp
    have hia : iaV (.d (slD D.s L)) (.d (.i .i64 (i : Int))) 1 none = some (.cp (.s L[i])) := qst (fun _ => rfl) (by omega) (by simp)
    have hw : wr .i64 ((i : Int) + 1) = ((i + 1 : Nat) : Int) := by rw [qcY (by omega) (by omega)]; omega
    rw [qcq]
    by_cases hc : L[i] = t
    · have h2 : (L[i] = t) = True := eq_true hc
      simp only [jW, qT, yj, qr, qs, qk, qb, kZ, reduceCtorEq, qD, Nat.reduceEqDiff, qC, qx, qw, qG, qZ, y6, zO, qcN, qm, qg, ko, qFM, kX, h1, decide_true, qa, qc, qB, qK, ↓reduceIte, qR, qz, kB, hia, qaP, qy, jH, jR, yy, h2, zk, qF, qP, zE, zp, qaf]
      exact ⟨_, _, .inr rfl, by rw [hdr, hc]; simp [get], rfl⟩
    · have h2 : (L[i] = t) = False := eq_false hc
      obtain ⟨x, e, q1, q2, q3⟩ := ih (i + 1) (by omega) (by omega)
      simp only [jW, qT, yj, qr, qs, qk, qb, kZ, reduceCtorEq, qD, Nat.reduceEqDiff, qC, qx, qw, qG, qZ, y6, zO, qcN, qm, qg, ko, qFM, kX, h1, decide_true, qa, qc, qB, qK, ↓reduceIte, qR, qz, kB, hia, qaP, qy, jH, jR, yy, h2, decide_false, qFs, qO, qj, qo, kM, qFE, zk, jn, hw, qcn]
      refine ⟨x, e, q1, ?_, q3⟩
      rw [q2, hdr]
      have : (t = L[i]) = False := eq_false (fun h => hc h.symm)
      simp only [List.mem_cons, this, false_or]
theorem qtl {t : List Nat} {H : List Obj} : kn pg 35 [.d (.s t)] H = some ⟨false, true, .d (.b (decide (t ∈ KW))), H, H.length⟩ := by
  obtain ⟨x, e, q1, q2, q3⟩ := qxP (L := KW) (t := t) (by decide) (H := H) KW.length 0 rfl (by omega)
  have hz0 : ((0 : Nat) : Int) = 0 := rfl
  rw [hz0] at q3
  rw [qFQ] at q2
  rw [zl (fn := qa0) rfl rfl]
  simp only [qa0, ql, qFC, qq, qr, qs, qk, qb, zk, qF, qG, qZ, qa, qc, qt, qFI, qh, qY, qvl, qu, qi, Nat.min_self, qhV, jh, qC, qi6, kg, qz, qcn, reduceCtorEq, qD, qT, Nat.reduceEqDiff, yj]
  rw [q3]
  rcases q1 with rfl | rfl
  all_goals simp only [qiZ, qn, kx, q2, ja, qp, qE, kf, qH, qbP, jM, zj, qQ]
  all_goals rfl
end W

set_option linter.unusedSimpArgs false
set_option linter.unusedVariables false
namespace W
open Go (IntKind BinOp UnOp)
set_option maxRecDepth 20000
def RES : List (List Nat) := [[73, 78, 84, 69, 71, 69, 82], [67, 72, 65, 82], [66, 79, 79, 76, 69, 65, 78], [83, 69, 84], [65, 66, 83], [79, 68, 68], [76, 83, 76], [65, 83, 82], [82, 79, 82], [79, 82, 68], [67, 72, 82], [76, 69, 78], [73, 78, 67], [68, 69, 67], [73, 78, 67, 76], [69, 88, 67, 76], [78, 69, 87], [65, 83, 83, 69, 82, 84]]
def qDz : List Nat := [73, 78, 84, 69, 71, 69, 82, 32, 67, 72, 65, 82, 32, 66, 79, 79, 76, 69, 65, 78, 32, 83, 69, 84, 32, 65, 66, 83, 32, 79, 68, 68, 32, 76, 83, 76, 32, 65, 83, 82, 32, 82, 79, 82, 32, 79, 82, 68, 32, 67, 72, 82, 32, 76, 69, 78, 32, 73, 78, 67, 32, 68, 69, 67, 32, 73, 78, 67, 76, 32, 69, 88, 67, 76, 32, 78, 69, 87, 32, 65, 83, 83, 69, 82, 84]
theorem qA5 : isD (qeM pg 4000 85 [.d (.s qDz)] []) (.sl (RES.map D.s)) = true := by decide +kernel
theorem qvR {t : List Nat} {H : List Obj} : kn pg 36 [.d (.s t)] H = some ⟨false, true, .d (.b (decide (t ∈ RES))), H, H.length⟩ := by
  rw [zl (fn := qaF) rfl rfl]
  by_cases h : t ∈ RES
  · rw [decide_eq_true h]
    simp only [RES, List.mem_cons, List.not_mem_nil, or_false] at h
    rcases h with rfl | rfl | rfl | rfl | rfl | rfl | rfl | rfl | rfl | rfl | rfl | rfl | rfl | rfl | rfl | rfl | rfl | rfl
    all_goals (simp only [qaF, zj, List.cons.injEq, Nat.reduceEqDiff, and_false, false_and, and_true, and_self, qR, qs, zu, qr, qB, qz, qbN, qP, qc, qag, zp, yH, qqp, qrC, qK, qO, yq, zE, qa5, qo1, qqI, qo, qj, qa, qk, kq, zI, qly, ki, kj, kQ, yk, kG, qak, qG, qaY, quf, qwr, kO, kl, qrZ, quP, kR, qC, qD, qwU, quX, qr9, qQ, qiZ, qan, kf, qnz, qdI, jM, qmC, qq8, qp3, qgl, qrT, qmG, qqw, ql, qq, qp, qE, qn, kx, ja, qu0, quc, qtz, qxw, qxe, qm9, kZ, zk, qnQ, qET, jh, qx, jJ, qV, yA, zB, jH, qt9, qr1, qnn, qaU, qW, qrP, zw, qax, qbZ, quZ, qvt, qtJ, kA, qaR, qr7, qsh, qT, qda, ze, quR, zA, qrn, quw, qtF, qiK, qrY, qro, qrl, qoY, qw, qF, qcb, qxj, kg, qi, qd, kW, qZ, y7, za, qe1, qaP, qzI, qws, qvW, qcR, ku, qer, qrK, zz, jB, qcg, ji, qxB, qtt, quK, qcA, qoK, qnl, qk5, qhQ, qt7, qb, qg, qm, qtu, qxn, jn, qcw, qlx, qwW, qes, zD, qsq, kX, yw, zh, js, yy, quU, qtP, qcK, qu4, z8, yr, qy8, qI, qdr, zV, kJ, j5, qL, zO, zx, qfJ, qhC, qxa, qA, qt, qY, qu, qqF, qrQ, qh, qe, qH, qmF, kp, qqB, qrx, qen, qab, qjk, qap, qf7, qv5, qvV, qyP, qBI, qsp, qBD, zC, qb3, qb8, qzQ, qzM, qbP, qsx, qwX, qwE, qy3, qnY, qpu, qAp, qkY, qiI, qf, zg, qbY, qwF, qwJ, qmv, jQ, qaD, qie, qcy, qy, q9, kT, qwM, yC, qsN, j0, qah, qqv, jR, qoH, qnc, qnU, qqk, quI, qvj, qlv, qbr, qfv, jf, qa2, jz, kv, qX, ju, kV, kU, zy, kY, kI, ky, kP, zq, qa9, qsm, qrF, qaT, qvo, qvw, kS, kC, jb, qbL, qup, qvm, qxp, qwt, qhM, qM, qod, qwn, qy7, qoV, qo7, qle, qkP, qrN, qfY, qkF, qtG, qrM, qr4, zc, zS, jP, qdS, zQ, zF, zf, qrG, kK, qpM, zH, jI, qvz, qt5, qt1, qxt, qw9, qrp, kw, jt, zW, jK, qiJ, qvf, yP, jN, qcd, qdP, yK, jS, qtK, qug, y1, qsf, qp8, j2, qaX, qc9, qo2, qc4, qqc, qjf, qoE, qta, qoO, qrD, kB, qxh, quV, qzl, kL, qhS, qde, qn6, qcv, qnD, qfG, qnS, qnW, qr0, qp6, qry, qts, qoU, qeF, qqP, qo9, quJ, qze, qzZ, qnR, qu8, qtX, qrW, qtS, qwv, qw3, qvc, qut, qjH, qwx, qwQ, qtq, qsl, qru, qrJ, qzq, qAd, qzc, qzA, qoy, qur, y6, qi6, yj, qhV, qng, qlJ, qqy, qw7, qua, qrq, qsZ, qcN, qnT, qp1, qn4, qvd, ko, kM, qz0, qBG, qo6, qq1, qoR, qpB, qzn, qwN, qw2, qvK, qev, qxi, ke, qU, yu, qbX, k9, qsb, jE, qu6, qbU, qaQ, quT, qow, qo5, qtU, qtH, qrI, kD, qmO, qlD, qrt, qt3, qBM, qAo, qxs, qwV, zn, yB, qkH, qqV, quj, qxq, qAc, qhI, qoD, qct, qo4, qtZ, qiE, qrR, quL, qux, quz, qot, qbT, qsd, qwY, qtW, quu, qyM, qBH, qwI, qxx, qw0, qxg, qAv, qxC, qwO, qzj, qwH, qrL, qyY, qAq, qxm, qqG, qrm, qco, qgc, qld, qqb, qjn, qwq, qm3, qAm, qpz, qnL, qoS, qo0, qmS, qpR, qxA, qpA, qqH, qui, qtY, qpp, qu9, qi5, qrw, qpL, eq_self, Int.cast_ofNat_Int, beq_true, beq_false, Nat.max_self, Nat.zero_max, Nat.max_zero, List.reduceReplicate, qFu, qFy, Nat.add_zero, qFJ, qFL, ne_eq, Nat.reduceEqDiff, not_false_eq_true, not_true_eq_false, reduceCtorEq, Bool.true_and, Bool.and_true, Bool.false_and, Bool.and_false, qFO, Bool.not_false, Bool.false_or, Bool.true_or, Bool.or_false, qFE, ↓reduceIte, Nat.reduceAdd, Nat.reduceSub, Nat.reduceMul, decide_true, decide_false, decide_eq_true_eq, Bool.not_eq_true', decide_eq_false_iff_not, qFv, Option.map_none, qFz, qFI, Nat.succ_eq_add_one, qFC, List.cons_append, List.nil_append, List.append_nil, qFs, Bool.true_eq_false, beq_self_eq_true, Int.reduceEq, Int.reduceNe, Int.reduceLT, Int.reduceLE, Int.reduceNeg, Int.reduceAdd, Int.reduceSub, Int.reduceMul, qFF, qFG, qFD, qFM, Int.not_lt, Int.not_le, Nat.reduceLT, Nat.reduceLeDiff, Nat.min_self, List.length_append, Nat.reduceBEq, qFQ, List.drop_succ_cons, qFP, List.take_zero])
    all_goals rfl
  · rw [decide_eq_false h]
    simp only [RES, List.mem_cons, List.not_mem_nil, or_false, not_or] at h
    obtain ⟨h0, h1, h2, h3, h4, h5, h6, h7, h8, h9, h10, h11, h12, h13, h14, h15, h16, h17⟩ := h
    simp only [qaF, zj, eq_false h0, eq_false h1, eq_false h2, eq_false h3, eq_false h4, eq_false h5, eq_false h6, eq_false h7, eq_false h8, eq_false h9, eq_false h10, eq_false h11, eq_false h12, eq_false h13, eq_false h14, eq_false h15, eq_false h16, eq_false h17, qR, qs, zu, qr, qB, qz, qbN, qP, qc, qag, zp, yH, qqp, qrC, qK, qO, yq, zE, qa5, qo1, qqI, qo, qj, qa, qk, kq, zI, qly, ki, kj, kQ, yk, kG, qak, qG, qaY, quf, qwr, kO, kl, qrZ, quP, kR, qC, qD, qwU, quX, qr9, qQ, qiZ, qan, kf, qnz, qdI, jM, qmC, qq8, qp3, qgl, qrT, qmG, qqw, ql, qq, qp, qE, qn, kx, ja, qu0, quc, qtz, qxw, qxe, qm9, kZ, zk, qnQ, qET, jh, qx, jJ, qV, yA, zB, jH, qt9, qr1, qnn, qaU, qW, qrP, zw, qax, qbZ, quZ, qvt, qtJ, kA, qaR, qr7, qsh, qT, qda, ze, quR, zA, qrn, quw, qtF, qiK, qrY, qro, qrl, qoY, qw, qF, qcb, qxj, kg, qi, qd, kW, qZ, y7, za, qe1, qaP, qzI, qws, qvW, qcR, ku, qer, qrK, zz, jB, qcg, ji, qxB, qtt, quK, qcA, qoK, qnl, qk5, qhQ, qt7, qb, qg, qm, qtu, qxn, jn, qcw, qlx, qwW, qes, zD, qsq, kX, yw, zh, js, yy, quU, qtP, qcK, qu4, z8, yr, qy8, qI, qdr, zV, kJ, j5, qL, zO, zx, qfJ, qhC, qxa, qA, qt, qY, qu, qqF, qrQ, qh, qe, qH, qmF, kp, qqB, qrx, qen, qab, qjk, qap, qf7, qv5, qvV, qyP, qBI, qsp, qBD, zC, qb3, qb8, qzQ, qzM, qbP, qsx, qwX, qwE, qy3, qnY, qpu, qAp, qkY, qiI, qf, zg, qbY, qwF, qwJ, qmv, jQ, qaD, qie, qcy, qy, q9, kT, qwM, yC, qsN, j0, qah, qqv, jR, qoH, qnc, qnU, qqk, quI, qvj, qlv, qbr, qfv, jf, qa2, jz, kv, qX, ju, kV, kU, zy, kY, kI, ky, kP, zq, qa9, qsm, qrF, qaT, qvo, qvw, kS, kC, jb, qbL, qup, qvm, qxp, qwt, qhM, qM, qod, qwn, qy7, qoV, qo7, qle, qkP, qrN, qfY, qkF, qtG, qrM, qr4, zc, zS, jP, qdS, zQ, zF, zf, qrG, kK, qpM, zH, jI, qvz, qt5, qt1, qxt, qw9, qrp, kw, jt, zW, jK, qiJ, qvf, yP, jN, qcd, qdP, yK, jS, qtK, qug, y1, qsf, qp8, j2, qaX, qc9, qo2, qc4, qqc, qjf, qoE, qta, qoO, qrD, kB, qxh, quV, qzl, kL, qhS, qde, qn6, qcv, qnD, qfG, qnS, qnW, qr0, qp6, qry, qts, qoU, qeF, qqP, qo9, quJ, qze, qzZ, qnR, qu8, qtX, qrW, qtS, qwv, qw3, qvc, qut, qjH, qwx, qwQ, qtq, qsl, qru, qrJ, qzq, qAd, qzc, qzA, qoy, qur, y6, qi6, yj, qhV, qng, qlJ, qqy, qw7, qua, qrq, qsZ, qcN, qnT, qp1, qn4, qvd, ko, kM, qz0, qBG, qo6, qq1, qoR, qpB, qzn, qwN, qw2, qvK, qev, qxi, ke, qU, yu, qbX, k9, qsb, jE, qu6, qbU, qaQ, quT, qow, qo5, qtU, qtH, qrI, kD, qmO, qlD, qrt, qt3, qBM, qAo, qxs, qwV, zn, yB, qkH, qqV, quj, qxq, qAc, qhI, qoD, qct, qo4, qtZ, qiE, qrR, quL, qux, quz, qot, qbT, qsd, qwY, qtW, quu, qyM, qBH, qwI, qxx, qw0, qxg, qAv, qxC, qwO, qzj, qwH, qrL, qyY, qAq, qxm, qqG, qrm, qco, qgc, qld, qqb, qjn, qwq, qm3, qAm, qpz, qnL, qoS, qo0, qmS, qpR, qxA, qpA, qqH, qui, qtY, qpp, qu9, qi5, qrw, qpL, eq_self, Int.cast_ofNat_Int, beq_true, beq_false, Nat.max_self, Nat.zero_max, Nat.max_zero, List.reduceReplicate, qFu, qFy, Nat.add_zero, qFJ, qFL, ne_eq, Nat.reduceEqDiff, not_false_eq_true, not_true_eq_false, reduceCtorEq, Bool.true_and, Bool.and_true, Bool.false_and, Bool.and_false, qFO, Bool.not_false, Bool.false_or, Bool.true_or, Bool.or_false, qFE, ↓reduceIte, Nat.reduceAdd, Nat.reduceSub, Nat.reduceMul, decide_true, decide_false, decide_eq_true_eq, Bool.not_eq_true', decide_eq_false_iff_not, qFv, Option.map_none, qFz, qFI, Nat.succ_eq_add_one, qFC, List.cons_append, List.nil_append, List.append_nil, qFs, Bool.true_eq_false, beq_self_eq_true, Int.reduceEq, Int.reduceNe, Int.reduceLT, Int.reduceLE, Int.reduceNeg, Int.reduceAdd, Int.reduceSub, Int.reduceMul, qFF, qFG, qFD, qFM, Int.not_lt, Int.not_le, Nat.reduceLT, Nat.reduceLeDiff, Nat.min_self, List.length_append, Nat.reduceBEq, qFQ, List.drop_succ_cons, qFP, List.take_zero]
    all_goals rfl
end W

