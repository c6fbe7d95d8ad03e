/-
  StackLimits: part 7 of what the proof rests on (a value semantics for a part of the language, sound against the model; the walks).
-/
import Derived.KernelRfl
import Derived.Test.YtmaninacgfbecaaGreatW6
/-
  Code turned into closures, which the kernel works out once; each operation its own closure.
-/
set_option linter.unusedSimpArgs false
set_option linter.unusedVariables false
open Nat renaming beq → qCy, le_refl → qCC, eq_of_beq_eq_true → qCD
open Bool renaming and_eq_true → qCz, cond_eq_ite → qCA, false_eq_true → qCG
open Option renaming bind_eq_some_iff → qCB, bind_eq_bind → qCE, pure_def → qCF, map_some → qCH
namespace W
open Go (IntKind BinOp UnOp)
abbrev R := Option (Ex × St)
abbrev KF := Call → Nat → Env → List Obj → Nat → R
inductive K where
  | mk (f : KF)
noncomputable def K.run (k : K) : KF := K.rec (motive := fun _ => KF) (fun f => f) k
inductive KO where
  | mk (f : Env → V)
noncomputable def KO.run (k : KO) : Env → V := KO.rec (motive := fun _ => Env → V) (fun f => f) k
noncomputable def kW (o : O) : KO := O.rec (motive := fun _ => KO) (fun n => .mk fun e => fget n e) (fun x => .mk fun _ => .d x) (fun i => .mk fun _ => .fn i [] []) (fun n => .mk fun e => qjl (fget n e)) (fun _ x => .mk fun _ => .cp x) o
def V.isBox : V → Bool
  | .box _ => true
  | _ => false
def V.pl : V → Prop
  | .box _ => False
  | .osl _ => False
  | .agg _ => False
  | _ => True
theorem kM {o : O} {e : Env} (h : ((kW o).run e).pl) : rd e o = (kW o).run e := by
  cases o with
  | t n =>
    have h : (fget n e).pl := h
    show qgK n (get n e) = fget n e
    rw [← yu]
    cases hv : fget n e <;> rw [hv] at h <;> first | rfl | exact h.elim
  | mv n =>
    show qjl (get n e) = qjl (fget n e)
    rw [yu]
  | _ => rfl
inductive OI where
  | no
  | yes (k : IntKind) (n : Int)
noncomputable def vI (v : V) : OI := V.rec (motive_1 := fun _ => OI) (motive_2 := fun _ => OI) (fun x => D.rec (motive_1 := fun _ => OI) (motive_2 := fun _ => OI) (fun _ => .no) (fun k n => .yes k n) (fun _ => .no) .no (fun _ _ => .no) (fun _ _ => .no) .no .no .no .no .no (fun _ _ _ _ => .no) x) (fun _ => .no) (fun _ => .no) (fun _ _ => .no) (fun _ _ => .no) (fun _ _ => .no) (fun _ => .no) (fun _ _ _ _ => .no) (fun _ _ _ => .no) (fun _ => .no) (fun _ _ _ _ _ => .no) (fun _ _ _ => .no) (fun _ _ => .no) (fun _ _ => .no) .no .no (fun _ _ _ _ => .no) v
theorem qyD {v : V} {k : IntKind} {n : Int} (h : vI v = .yes k n) : v = .d (.i k n) := by
  cases v with
  | d x => cases x with
    | i k' n' => have h : OI.yes k' n' = .yes k n := h; cases h; rfl
    | _ => cases h
  | _ => cases h
inductive OB where
  | no | f | t
noncomputable def vB (v : V) : OB := V.rec (motive_1 := fun _ => OB) (motive_2 := fun _ => OB) (fun x => D.rec (motive_1 := fun _ => OB) (motive_2 := fun _ => OB) (fun y => Bool.rec (motive := fun _ => OB) .f .t y) (fun _ _ => .no) (fun _ => .no) .no (fun _ _ => .no) (fun _ _ => .no) .no .no .no .no .no (fun _ _ _ _ => .no) x) (fun _ => .no) (fun _ => .no) (fun _ _ => .no) (fun _ _ => .no) (fun _ _ => .no) (fun _ => .no) (fun _ _ _ _ => .no) (fun _ _ _ => .no) (fun _ => .no) (fun _ _ _ _ _ => .no) (fun _ _ _ => .no) (fun _ _ => .no) (fun _ _ => .no) .no .no (fun _ _ _ _ => .no) v
theorem qCc {v : V} (h : vB v = .t) : v = .d (.b true) := by
  cases v with
  | d x => cases x with
    | b y => cases y with
      | true => rfl
      | false => cases h
    | _ => cases h
  | _ => cases h
theorem qCm {v : V} (h : vB v = .f) : v = .d (.b false) := by
  cases v with
  | d x => cases x with
    | b y => cases y with
      | false => rfl
      | true => cases h
    | _ => cases h
  | _ => cases h
inductive OP where
  | no
  | p (id off : Nat)
  | l (s off : Nat)
  | c (x : D)
noncomputable def vP (v : V) : OP := V.rec (motive_1 := fun _ => OP) (motive_2 := fun _ => OP) (fun _ => .no) (fun _ => .no) (fun _ => .no) (fun a b => .p a b) (fun a b => .l a b) (fun _ _ => .no) (fun x => .c x) (fun _ _ _ _ => .no) (fun _ _ _ => .no) (fun _ => .no) (fun _ _ _ _ _ => .no) (fun _ _ _ => .no) (fun _ _ => .no) (fun _ _ => .no) .no .no (fun _ _ _ _ => .no) v
theorem qCi {v : V} {a b : Nat} (h : vP v = .p a b) : v = .ptr a b := by
  cases v with
  | ptr c d => have h : OP.p c d = .p a b := h; cases h; rfl
  | _ => cases h
theorem qCf {v : V} {a b : Nat} (h : vP v = .l a b) : v = .lp a b := by
  cases v with
  | lp c d => have h : OP.l c d = .l a b := h; cases h; rfl
  | _ => cases h
theorem qCv {v : V} {x : D} (h : vP v = .c x) : v = .cp x := by
  cases v with
  | cp y => have h : OP.c y = .c x := h; cases h; rfl
  | _ => cases h
inductive OL where
  | no | nil
  | sl (xs : List D)
noncomputable def vL (v : V) : OL := V.rec (motive_1 := fun _ => OL) (motive_2 := fun _ => OL) (fun x => D.rec (motive_1 := fun _ => OL) (motive_2 := fun _ => OL) (fun _ => .no) (fun _ _ => .no) (fun _ => .no) .nil (fun xs _ => .sl xs) (fun _ _ => .no) .no .no .no .no .no (fun _ _ _ _ => .no) x) (fun _ => .no) (fun _ => .no) (fun _ _ => .no) (fun _ _ => .no) (fun _ _ => .no) (fun _ => .no) (fun _ _ _ _ => .no) (fun _ _ _ => .no) (fun _ => .no) (fun _ _ _ _ _ => .no) (fun _ _ _ => .no) (fun _ _ => .no) (fun _ _ => .no) .no .no (fun _ _ _ _ => .no) v
theorem qxJ {v : V} (h : vL v = .nil) : v = .d .nil := by
  cases v with
  | d x => cases x with
    | nil => rfl
    | _ => cases h
  | _ => cases h
theorem qBD {v : V} {xs : List D} (h : vL v = .sl xs) : v = .d (.sl xs) := by
  cases v with
  | d x => cases x with
    | sl ys => have h : OL.sl ys = .sl xs := h; cases h; rfl
    | _ => cases h
  | _ => cases h
inductive OT where
  | no
  | s (t : List Nat)
noncomputable def vT (v : V) : OT := V.rec (motive_1 := fun _ => OT) (motive_2 := fun _ => OT) (fun x => D.rec (motive_1 := fun _ => OT) (motive_2 := fun _ => OT) (fun _ => .no) (fun _ _ => .no) (fun t => .s t) .no (fun _ _ => .no) (fun _ _ => .no) .no .no .no .no .no (fun _ _ _ _ => .no) x) (fun _ => .no) (fun _ => .no) (fun _ _ => .no) (fun _ _ => .no) (fun _ _ => .no) (fun _ => .no) (fun _ _ _ _ => .no) (fun _ _ _ => .no) (fun _ => .no) (fun _ _ _ _ _ => .no) (fun _ _ _ => .no) (fun _ _ => .no) (fun _ _ => .no) .no .no (fun _ _ _ _ => .no) v
theorem qBc {v : V} {t : List Nat} (h : vT v = .s t) : v = .d (.s t) := by
  cases v with
  | d x => cases x with
    | s u => have h : OT.s u = .s t := h; cases h; rfl
    | _ => cases h
  | _ => cases h
inductive OU where
  | no
  | t (vs : List V)
noncomputable def vU (v : V) : OU := V.rec (motive_1 := fun _ => OU) (motive_2 := fun _ => OU) (fun _ => .no) (fun _ => .no) (fun _ => .no) (fun _ _ => .no) (fun _ _ => .no) (fun _ _ => .no) (fun _ => .no) (fun _ _ _ _ => .no) (fun _ _ _ => .no) (fun _ => .no) (fun _ _ _ _ _ => .no) (fun _ _ _ => .no) (fun _ _ => .no) (fun vs _ => .t vs) .no .no (fun _ _ _ _ => .no) v
theorem qCu {v : V} {vs : List V} (h : vU v = .t vs) : v = .tup vs := by
  cases v with
  | tup ws => have h : OU.t ws = .t vs := h; cases h; rfl
  | _ => cases h
inductive OF where
  | no
  | f (i : Nat)
noncomputable def qxl (m : Nat) (v : V) (κ : V → R) : R := V.rec (motive_1 := fun _ => R) (motive_2 := fun _ => R) (fun x => κ (.d x)) (fun xs => κ (.d (.sl xs))) (fun xs => κ (.fsl xs)) (fun a b => κ (.ptr a b)) (fun a b => κ (.lp a b)) (fun _ _ => κ (.lp m 0)) (fun x => κ (.cp x)) (fun a b c d => κ (.rs a b c d)) (fun a b c => κ (.row a b c)) (fun a => κ (.map a)) (fun f a b _ _ => κ (.fn f a b)) (fun t x _ => κ (.ifc t x)) (fun cs _ => qcx (qfm (cs.map z4)) κ) (fun vs _ => κ (.tup vs)) (κ .undef) none (fun _ _ _ _ => none) v
theorem qvY (m : Nat) (v : V) (κ : V → R) : qxl m v κ = κ (qgK m v) := by
  cases v with
  | agg cs => exact qbP _ _
  | _ => rfl
noncomputable def qxk (v : V) (κ : V → R) : R := V.rec (motive_1 := fun _ => R) (motive_2 := fun _ => R) (fun x => κ (.d x)) (fun xs => κ (.osl xs)) (fun xs => κ (.fsl xs)) (fun a b => κ (.ptr a b)) (fun a b => κ (.lp a b)) (fun _ _ => κ .undef) (fun x => κ (.cp x)) (fun a b c d => κ (.rs a b c d)) (fun a b c => κ (.row a b c)) (fun a => κ (.map a)) (fun f a b _ _ => κ (.fn f a b)) (fun t x _ => κ (.ifc t x)) (fun cs _ => κ (.agg cs)) (fun vs _ => κ (.tup vs)) (κ .undef) none (fun _ _ _ _ => none) v
theorem quu (v : V) (κ : V → R) : qxk v κ = κ (qjl v) := by cases v <;> rfl
noncomputable def quU (v : V) (κ : V → R) : R := V.rec (motive_1 := fun _ => R) (motive_2 := fun _ => R) (fun x => κ (.d x)) (fun xs => κ (.osl xs)) (fun xs => κ (.fsl xs)) (fun a b => κ (.ptr a b)) (fun _ _ => κ .undef) (fun cs _ => κ (.box cs)) (fun x => κ (.cp x)) (fun a b c d => κ (.rs a b c d)) (fun a b c => κ (.row a b c)) (fun a => κ (.map a)) (fun f a b _ _ => κ (.fn f a b)) (fun t x _ => κ (.ifc t x)) (fun cs _ => κ (.agg cs)) (fun vs _ => κ (.tup vs)) (κ .undef) none (fun _ _ _ _ => none) v
theorem quP (v : V) (κ : V → R) : quU v κ = κ (match v with | .lp _ _ => .undef | v => v) := by cases v <;> rfl
noncomputable def qxt (v : V) (κ : V → R) : R := V.rec (motive_1 := fun _ => R) (motive_2 := fun _ => R) (fun x => κ (.d x)) (fun xs => κ (.d (.sl xs))) (fun xs => κ (.fsl xs)) (fun a b => κ (.ptr a b)) (fun a b => κ (.lp a b)) (fun _ _ => none) (fun x => κ (.cp x)) (fun a b c d => κ (.rs a b c d)) (fun a b c => κ (.row a b c)) (fun a => κ (.map a)) (fun f a b _ _ => κ (.fn f a b)) (fun t x _ => κ (.ifc t x)) (fun cs _ => κ (.agg cs)) (fun vs _ => κ (.tup vs)) (κ .undef) none (fun _ _ _ _ => none) v
theorem qq4 {v : V} {κ : V → R} {x : Ex × St} (h : qxt v κ = some x) : (z4 v).isBox = false ∧ κ (z4 v) = some x := by
  cases v <;> first | exact ⟨rfl, h⟩ | cases h
theorem qkO (cs : List V) : (qfm cs).isBox = false := by unfold qfm; split <;> rfl
noncomputable def qst (v : V) (κ : V → R) : R := V.rec (motive_1 := fun _ => R) (motive_2 := fun _ => R) (fun x => κ (.d x)) (fun xs => κ (.d (.sl xs))) (fun xs => κ (.fsl xs)) (fun a b => κ (.ptr a b)) (fun a b => κ (.lp a b)) (fun _ _ => none) (fun x => κ (.cp x)) (fun a b c d => κ (.rs a b c d)) (fun a b c => κ (.row a b c)) (fun a => κ (.map a)) (fun f a b _ _ => κ (.fn f a b)) (fun t x _ => κ (.ifc t x)) (fun cs _ => qcx (qfm (cs.map z4)) κ) (fun vs _ => κ (.tup vs)) (κ .undef) none (fun _ _ _ _ => none) v
theorem qjR {v : V} {κ : V → R} {x : Ex × St} (h : qst v κ = some x) : (copy v).isBox = false ∧ κ (copy v) = some x := by
  cases v with
  | agg cs =>
    have h : qcx (qfm (cs.map z4)) κ = some x := h
    rw [qbP] at h
    exact ⟨qkO _, h⟩
  | box cs => cases h
  | _ => exact ⟨rfl, h⟩
noncomputable def qq7 (v : V) (z : R) (κ : V → R) : R := V.rec (motive_1 := fun _ => R) (motive_2 := fun _ => R) (fun x => κ (.d x)) (fun xs => κ (.osl xs)) (fun xs => κ (.fsl xs)) (fun a b => κ (.ptr a b)) (fun a b => κ (.lp a b)) (fun _ _ => z) (fun x => κ (.cp x)) (fun a b c d => κ (.rs a b c d)) (fun a b c => κ (.row a b c)) (fun a => κ (.map a)) (fun f a b _ _ => κ (.fn f a b)) (fun t x _ => κ (.ifc t x)) (fun cs _ => κ (.agg cs)) (fun vs _ => κ (.tup vs)) (κ .undef) none (fun _ _ _ _ => none) v
theorem qpw {v : V} {z : R} {κ : V → R} {x : Ex × St} (h : qq7 v z κ = some x) : z = some x ∨ (v.isBox = false ∧ κ v = some x) := by
  cases v <;> first | exact .inr ⟨rfl, h⟩ | exact .inl h
inductive KR where
  | mk (f : Env → (V → R) → R)
noncomputable def KR.run (k : KR) : Env → (V → R) → R := KR.rec (motive := fun _ => Env → (V → R) → R) (fun f => f) k
noncomputable def rdC (o : O) : KR := O.rec (motive := fun _ => KR) (fun n => .mk fun e κ => qxl n (fget n e) κ) (fun x => .mk fun _ κ => κ (.d x)) (fun i => .mk fun _ κ => κ (.fn i [] [])) (fun n => .mk fun e κ => qxk (fget n e) κ) (fun _ x => .mk fun _ κ => κ (.cp x)) o
theorem qiB (o : O) (e : Env) (κ : V → R) : (rdC o).run e κ = κ (rd e o) := by
  cases o with
  | t n => exact (qvY n (fget n e) κ).trans (by rw [yu]; rfl)
  | mv n => exact (quu (fget n e) κ).trans (by rw [yu]; rfl)
  | _ => rfl
inductive KE where
  | mk (f : Env → Env)
noncomputable def KE.run (k : KE) : Env → Env := KE.rec (motive := fun _ => Env → Env) (fun f => f) k
noncomputable def spC (o : O) (r : KE) : KE := O.rec (motive := fun _ => KE) (fun _ => r) (fun _ => r) (fun _ => r) (fun n => .mk fun e => r.run ((n, .undef) :: e)) (fun _ _ => r) o
noncomputable def spL (l : List O) : KE := List.rec (motive := fun _ => KE) (.mk fun e => e) (fun o _ ih => spC o ih) l
theorem qxw (l : List O) (e : Env) : (spL l).run e = spentAll l e := by
  induction l generalizing e with
  | nil => rfl
  | cons o l ih =>
    show (spC o (spL l)).run e = spentAll l (spent o e)
    cases o <;> first | exact ih _ | exact ih e
noncomputable def spO (o : O) : KE := spC o (.mk fun e => e)
theorem qjG (o : O) (e : Env) : (spO o).run e = spent o e := by cases o <;> rfl
inductive KA where
  | mk (f : Env → (List V → R) → R)
noncomputable def KA.run (k : KA) : Env → (List V → R) → R := KA.rec (motive := fun _ => Env → (List V → R) → R) (fun f => f) k
noncomputable def qyC (l : List O) : KA := List.rec (motive := fun _ => KA) (.mk fun _ κ => κ []) (fun o _ ih => .mk fun e κ => (rdC o).run e fun v => ih.run e fun r => κ (v :: r)) l
theorem qwu (l : List O) (e : Env) (κ : List V → R) : (qyC l).run e κ = κ (l.map (rd e)) := by
  induction l generalizing κ with
  | nil => rfl
  | cons o l ih =>
    show (rdC o).run e (fun v => (qyC l).run e fun r => κ (v :: r)) = _
    rw [qiB, ih]; rfl
noncomputable def iadd (a b : Int) : Int := Int.rec (motive := fun _ => Int) (fun m => Int.rec (motive := fun _ => Int) (fun n => .ofNat (Nat.add m n)) (fun n => a + b) b) (fun _ => a + b) a
theorem qwO (a b : Int) : iadd a b = a + b := by cases a <;> cases b <;> rfl
noncomputable def imul (a b : Int) : Int := Int.rec (motive := fun _ => Int) (fun m => Int.rec (motive := fun _ => Int) (fun n => .ofNat (Nat.mul m n)) (fun n => a * b) b) (fun _ => a * b) a
theorem qwQ (a b : Int) : imul a b = a * b := by cases a <;> cases b <;> rfl
noncomputable def isub (a b : Int) : Int := Int.rec (motive := fun _ => Int) (fun m => Int.rec (motive := fun _ => Int) (fun n => Bool.rec (motive := fun _ => Int) (a - b) (.ofNat (Nat.sub m n)) (Nat.ble n m)) (fun n => a - b) b) (fun _ => a - b) a
theorem qwn (a b : Int) : isub a b = a - b := by
  cases a with
  | ofNat m => cases b with
    | ofNat n =>
      show Bool.rec (motive := fun _ => Int) (Int.ofNat m - Int.ofNat n) (Int.ofNat (Nat.sub m n)) (Nat.ble n m) = _
      cases h : Nat.ble n m with
      | false => rfl
      | true =>
        have := Nat.le_of_ble_eq_true h
        show Int.ofNat (m - n) = Int.ofNat m - Int.ofNat n
        simp only [Int.ofNat_eq_natCast]; omega
    | negSucc n => rfl
  | negSucc m => rfl
noncomputable def ile (a b : Int) : Bool := Int.rec (motive := fun _ => Bool) (fun m => Int.rec (motive := fun _ => Bool) (fun n => Nat.ble m n) (fun _ => false) b) (fun m => Int.rec (motive := fun _ => Bool) (fun _ => true) (fun n => Nat.ble n m) b) a
theorem qom (a b : Int) : ile a b = leI a b := by cases a <;> cases b <;> rfl
noncomputable def ieq (a b : Int) : Bool := Int.rec (motive := fun _ => Bool) (fun m => Int.rec (motive := fun _ => Bool) (fun n => qCy m n) (fun _ => false) b) (fun m => Int.rec (motive := fun _ => Bool) (fun _ => false) (fun n => qCy m n) b) a
theorem qv3 (a b : Int) : ieq a b = eqI a b := by cases a <;> cases b <;> rfl
noncomputable def kcode (k : IntKind) : Nat := IntKind.rec (motive := fun _ => Nat) 0 1 2 3 4 5 6 7 k
theorem qpU (a b : IntKind) : qCy (kcode a) (kcode b) = eqK a b := by cases a <;> cases b <;> rfl
noncomputable def kmax (k : IntKind) : Nat := IntKind.rec (motive := fun _ => Nat) 127 32767 2147483647 9223372036854775807 255 65535 4294967295 18446744073709551615 k
theorem qw0 (k : IntKind) : kmax k = qmU k := by cases k <;> rfl
noncomputable def iwr (k : IntKind) (z : Int) : Int := Int.rec (motive := fun _ => Int) (fun a => Bool.rec (motive := fun _ => Int) (wr k (.ofNat a)) (.ofNat a) (Nat.ble a (kmax k))) (fun a => wr k (.negSucc a)) z
theorem qxX (k : IntKind) (z : Int) : iwr k z = wr k z := by
  cases z with
  | ofNat a =>
    show Bool.rec (motive := fun _ => Int) (wr k (.ofNat a)) (.ofNat a) (Nat.ble a (kmax k)) = _
    rw [qw0]
    cases h : Nat.ble a (qmU k) with
    | false => rfl
    | true => simp only [wr, h, cond_true]
  | negSucc a => rfl
noncomputable def inot (b : Bool) : Bool := Bool.rec (motive := fun _ => Bool) true false b
theorem qoC (b : Bool) : inot b = !b := by cases b <;> rfl
def qvc (pg : Pg) (r : R) (k : K) (call : Call) (n : Nat) (x : Ex × St) : Prop := (∃ s, r = some (.nrm, s) ∧ k.run call n s.env s.H s.lo = some x) ∨ (r = some x ∧ x.1 ≠ .nrm)
def qnN (r : Option Or) (dst : Option Nat) (k : K) (call : Call) (n : Nat) (x : Ex × St) : Prop :=
  ∃ q, r = some q ∧ ((q.pan = false ∧ ∃ st, put dst q.v q.st = st ∧ k.run call n st.env st.H st.lo = some x) ∨ (q.pan = true ∧ x = (.pan q.v, q.st)))
def qY (f : KF) (op : OpK) (dst : Option Nat) (k : K) : Prop := ∀ {call : Call} {n : Nat} {e : Env} {H : List Obj} {lo : Nat} {x : Ex × St}, f call n e H lo = some x → qnN (qd call op ⟨e, H, lo⟩) dst k call n x
noncomputable def qkC (dst : Option Nat) (v : V) (k : K) : KF := fun call n e H lo => match put dst v ⟨e, H, lo⟩ with | ⟨e, H, lo⟩ => k.run call n e H lo
theorem qjT {dst : Option Nat} {v : V} {same : Bool} {k : K} {call : Call} {n : Nat} {e : Env} {H : List Obj} {lo : Nat} {x : Ex × St} (h : qkC dst v k call n e H lo = some x) : qnN (some ⟨false, same, v, ⟨e, H, lo⟩⟩) dst k call n x := by
  refine ⟨_, rfl, .inl ⟨rfl, _, rfl, ?_⟩⟩
  exact h
theorem qo {d : Nat} {v : V} {same : Bool} {k : K} {call : Call} {n : Nat} {e : Env} {H : List Obj} {lo : Nat} {x : Ex × St} (hv : v.isBox = false) (h : k.run call n ((d, v) :: e) H lo = some x) : qnN (some ⟨false, same, v, ⟨e, H, lo⟩⟩) (some d) k call n x := by
  refine ⟨_, rfl, .inl ⟨rfl, _, rfl, ?_⟩⟩
  cases v <;> first | exact h | cases hv
inductive KS where
  | mk (f : Call → St → Option Or)
noncomputable def KS.run (k : KS) : Call → St → Option Or := KS.rec (motive := fun _ => Call → St → Option Or) (fun f => f) k
noncomputable def qBH (op : OpK) : KS :=
  match op with
  | .mov x => .mk fun _ st => qxI x st
  | .pick c a b => .mk fun _ st => qvO c a b st
  | .alloc loc zero => .mk fun _ st => qeb loc zero st
  | .box loc x => .mk fun _ st => qny loc x st
  | .build zero parts => .mk fun _ st => qcm zero parts st
  | .buildSlice zero len parts => .mk fun _ st => qV zero len parts st
  | .load mv sl l a => .mk fun _ st => que mv sl l a st
  | .loadC l a => .mk fun _ st => qfd l a st
  | .store sl l a x => .mk fun _ st => qai sl l a x st
  | .nilCheck x => .mk fun _ st => qkX x st
  | .bin op kd x y => .mk fun _ st => qzB op kd x y st
  | .un op x => .mk fun _ st => eUn op x st
  | .conv k x => .mk fun _ st => qgJ k x st
  | .mkFn f first cap => .mk fun _ st => qjy f first cap st
  | .sliceS x lo hi => .mk fun _ st => qb0 x lo hi st
  | .fieldAddr x off l => .mk fun _ st => qjF x off l st
  | .field x off l => .mk fun _ st => qfh x off l st
  | .indexAddr x i size arr => .mk fun _ st => qjK x i size arr st
  | .index x i => .mk fun _ st => qqT x i st
  | .lookup kk zero m k c => .mk fun _ st => qac kk zero m k c st
  | .mapUpdate kk m k x => .mk fun _ st => zj kk m k x st
  | .extract x i => .mk fun _ st => qmd x i st
  | .bi b args => .mk fun _ st => fBi b args st
  | .call f args => .mk fun call st => yj call f args st
  | op => .mk fun call st => qd call op st
theorem qxb (op : OpK) (call : Call) (st : St) : (qBH op).run call st = qd call op st := by
  rw [← qsO]
  cases op <;> rfl
noncomputable def qpj (op : OpK) : Bool :=
  match op with
  | .appendR _ _ _ _ | .truncR _ _ | .zerosR _ _ _ _ _ | .buildR _ _ _ _ | .rangeM _ | .mkMap | .mkSlice _ _ _ | .alloc _ _ | .box _ _ | .bytesRow _ | .buildRow _ _ _ | .cvtR _ => true
  | _ => false
noncomputable def qrG {α : Type} (b : Bool) (H : List Obj) (k : List Obj → α) : α := Bool.rec (motive := fun _ => α) (qvy H k) (qmv H k) b
theorem qtZ {α : Type} (b : Bool) (H : List Obj) (k : List Obj → α) : qrG b H k = k H := by cases b; exact qtf _ _; exact qnR _ _
noncomputable def qAi (dst : Option Nat) (op : OpK) (k : K) : KF := fun call n e H lo =>
  match (qBH op).run call ⟨e, H, lo⟩ with
  | some ⟨pan, same, v, ⟨e', H', lo'⟩⟩ => Bool.rec (motive := fun _ => R)
      (qrS (makes op) v fun v => Bool.rec (motive := fun _ => R) (qrG (qpj op) H' fun H' => qq lo' fun lo' => qkC dst v k call n e' H' lo') (qkC dst v k call n e' H' lo') same)
      (some (.pan v, ⟨e', H', lo'⟩)) pan
  | none => none
theorem qtA {dst : Option Nat} {op : OpK} {k : K} : qY (qAi dst op k) op dst k := by
  intro call n e H lo x h
  unfold qAi at h
  rw [qxb] at h
  split at h
  · rename_i pan same v e' H' lo' hq
    rw [hq]
    cases pan with
    | false =>
      have h : (qrS (makes op) v fun v => Bool.rec (motive := fun _ => R) (qrG (qpj op) H' fun H' => qq lo' fun lo' => qkC dst v k call n e' H' lo') (qkC dst v k call n e' H' lo') same) = some x := h
      rw [qsX] at h
      have h2 : qkC dst v k call n e' H' lo' = some x := by
        cases same with
        | false => simpa only [qtZ, qX] using h
        | true => exact h
      exact qjT h2
    | true =>
      have h : some (Ex.pan v, (⟨e', H', lo'⟩ : St)) = some x := h
      cases h
      exact ⟨_, rfl, .inr ⟨rfl, rfl⟩⟩
  · cases h
noncomputable def asN (v : V) (z : R) (κ : IntKind → Int → R) : R := OI.rec (motive := fun _ => R) z κ (vI v)
theorem qfB {v : V} {z : R} {κ : IntKind → Int → R} {x : Ex × St} (h : asN v z κ = some x) : z = some x ∨ ∃ k n, v = .d (.i k n) ∧ κ k n = some x := by
  unfold asN at h
  cases hv : vI v with
  | no => rw [hv] at h; exact .inl h
  | yes k n => rw [hv] at h; exact .inr ⟨k, n, qyD hv, h⟩
noncomputable def qpp (d : Nat) (f : Int → Int → Bool) (a b : KO) (g k : K) : KF := fun call n e H lo =>
  asN (a.run e) (g.run call n e H lo) fun ka x => asN (b.run e) none fun kb y => Bool.rec (motive := fun _ => R) none (Bool.rec (motive := fun _ => R) (k.run call n ((d, .d (.b false)) :: e) H lo) (k.run call n ((d, .d (.b true)) :: e) H lo) (f x y)) (qCy (kcode ka) (kcode kb))
noncomputable def qud (d : Nat) (f : Int → Int → Int) (a b : KO) (g k : K) : KF := fun call n e H lo =>
  asN (a.run e) (g.run call n e H lo) fun ka x => asN (b.run e) none fun kb y => Bool.rec (motive := fun _ => R) none (ql0 (iwr ka (f x y)) fun z => k.run call n ((d, .d (.i ka z)) :: e) H lo) (qCy (kcode ka) (kcode kb))
theorem qn6 {o : O} {e : Env} {k : IntKind} {n : Int} (h : (kW o).run e = .d (.i k n)) : rd e o = .d (.i k n) := by
  rw [kM (by rw [h]; trivial), h]
theorem qds {d : Nat} {f : Int → Int → Bool} {op : BinOp} {x y : O} {g k : K} (hop : qcV op = false) (hf : ∀ kk a b, qfl op kk a b = some (.b (f a b))) (hg : qY g.run (.bin op .num x y) (some d) k) : qY (qpp d f (kW x) (kW y) g k) (.bin op .num x y) (some d) k := by
  intro call n e H lo z h
  unfold qpp at h
  rcases qfB h with h | ⟨ka, a, ha, h⟩
  · exact hg h
  rcases qfB h with h | ⟨kb, b, hb, h⟩
  · cases h
  rw [qpU] at h
  cases hk : eqK ka kb with
  | false => rw [hk] at h; cases h
  | true =>
    rw [hk] at h
    have he : qd call (.bin op .num x y) ⟨e, H, lo⟩ = some ⟨false, true, .d (.b (f a b)), ⟨e, H, lo⟩⟩ := by
      simp only [qd, qlD, qn6 ha, qn6 hb, qfr, hop, hk, cond_true, cond_false, hf, qCH, ok]
    rw [he]
    cases hz : f a b with
    | false => rw [hz] at h; exact qo rfl h
    | true => rw [hz] at h; exact qo rfl h
theorem qkR {d : Nat} {f : Int → Int → Int} {op : BinOp} {x y : O} {g k : K} (hop : qcV op = false) (hf : ∀ kk a b, qfl op kk a b = some (.i kk (wr kk (f a b)))) (hg : qY g.run (.bin op .num x y) (some d) k) : qY (qud d f (kW x) (kW y) g k) (.bin op .num x y) (some d) k := by
  intro call n e H lo z h
  unfold qud at h
  rcases qfB h with h | ⟨ka, a, ha, h⟩
  · exact hg h
  rcases qfB h with h | ⟨kb, b, hb, h⟩
  · cases h
  rw [qpU] at h
  cases hk : eqK ka kb with
  | false => rw [hk] at h; cases h
  | true =>
    rw [hk] at h
    have h : (ql0 (iwr ka (f a b)) fun z => k.run call n ((d, .d (.i ka z)) :: e) H lo) = some z := h
    rw [qkJ, qxX] at h
    have he : qd call (.bin op .num x y) ⟨e, H, lo⟩ = some ⟨false, true, .d (.i ka (wr ka (f a b))), ⟨e, H, lo⟩⟩ := by
      simp only [qd, qlD, qn6 ha, qn6 hb, qfr, hop, hk, cond_true, cond_false, hf, qCH, ok]
    rw [he]
    exact qo rfl h
noncomputable def gK (dst : Option Nat) (op : OpK) (k : K) : K := .mk (qAi dst op k)
theorem kf {dst : Option Nat} {op : OpK} {k : K} : qY (gK dst op k).run op dst k := qtA
noncomputable def qym (d : Nat) (op : BinOp) (kd : Kd) (x y : O) (k : K) : K :=
  match op, kd with
  | .add, .num => .mk (qud d iadd (kW x) (kW y) (gK (some d) (.bin .add .num x y) k) k)
  | .sub, .num => .mk (qud d isub (kW x) (kW y) (gK (some d) (.bin .sub .num x y) k) k)
  | .mul, .num => .mk (qud d imul (kW x) (kW y) (gK (some d) (.bin .mul .num x y) k) k)
  | .lss, .num => .mk (qpp d (fun a b => inot (ile b a)) (kW x) (kW y) (gK (some d) (.bin .lss .num x y) k) k)
  | .leq, .num => .mk (qpp d ile (kW x) (kW y) (gK (some d) (.bin .leq .num x y) k) k)
  | .gtr, .num => .mk (qpp d (fun a b => inot (ile a b)) (kW x) (kW y) (gK (some d) (.bin .gtr .num x y) k) k)
  | .geq, .num => .mk (qpp d (fun a b => ile b a) (kW x) (kW y) (gK (some d) (.bin .geq .num x y) k) k)
  | .eql, .num => .mk (qpp d ieq (kW x) (kW y) (gK (some d) (.bin .eql .num x y) k) k)
  | .neq, .num => .mk (qpp d (fun a b => inot (ieq a b)) (kW x) (kW y) (gK (some d) (.bin .neq .num x y) k) k)
  | op, kd => gK (some d) (.bin op kd x y) k
theorem qtO {d : Nat} {op : BinOp} {kd : Kd} {x y : O} {k : K} : qY (qym d op kd x y k).run (.bin op kd x y) (some d) k := by
  unfold qym
  split
  · exact qkR rfl (fun kk a b => by rw [qwO]; rfl) kf
  · exact qkR rfl (fun kk a b => by rw [qwn]; rfl) kf
  · exact qkR rfl (fun kk a b => by rw [qwQ]; rfl) kf
  · exact qds rfl (fun kk a b => by rw [qoC, qom]; rfl) kf
  · exact qds rfl (fun kk a b => by rw [qom]; rfl) kf
  · exact qds rfl (fun kk a b => by rw [qoC, qom]; rfl) kf
  · exact qds rfl (fun kk a b => by rw [qom]; rfl) kf
  · exact qds rfl (fun kk a b => by rw [qv3]; rfl) kf
  · exact qds rfl (fun kk a b => by rw [qoC, qv3]; rfl) kf
  · exact kf
theorem qrx (m : Nat) (v : V) : (qgK m v).isBox = false := by
  cases v with
  | agg cs => exact qkO _
  | _ => rfl
theorem qtv (v : V) : (qjl v).isBox = false := by cases v <;> rfl
theorem qzC (e : Env) (o : O) : (rd e o).isBox = false := by
  cases o with
  | t n => exact qrx _ _
  | mv n => exact qtv _
  | _ => rfl
noncomputable def qyh (d : Nat) (x : O) (k : K) : KF := fun call n e H lo => (rdC x).run e fun v => k.run call n ((d, v) :: (spO x).run e) H lo
theorem qsU {d : Nat} {x : O} {k : K} : qY (qyh d x k) (.mov x) (some d) k := by
  intro call n e H lo z h
  unfold qyh at h
  rw [qiB, qjG] at h
  exact qo (qzC e x) h
noncomputable def asP (v : V) (z : R) (p l : Nat → Nat → R) (c : D → R) : R := OP.rec (motive := fun _ => R) z p l c (vP v)
theorem qej {v : V} {z : R} {p l : Nat → Nat → R} {c : D → R} {x : Ex × St} (h : asP v z p l c = some x) : z = some x ∨ (∃ a b, v = .ptr a b ∧ p a b = some x) ∨ (∃ a b, v = .lp a b ∧ l a b = some x) ∨ ∃ y, v = .cp y ∧ c y = some x := by
  unfold asP at h
  cases hv : vP v with
  | no => rw [hv] at h; exact .inl h
  | p a b => rw [hv] at h; exact .inr (.inl ⟨a, b, qCi hv, h⟩)
  | l a b => rw [hv] at h; exact .inr (.inr (.inl ⟨a, b, qCf hv, h⟩))
  | c y => rw [hv] at h; exact .inr (.inr (.inr ⟨y, qCv hv, h⟩))
noncomputable def qoX (o : Option Obj) : Option (List V) := Option.rec (motive := fun _ => Option (List V)) none (fun ob => Obj.rec (motive := fun _ => Option (List V)) (fun cs => some cs) (fun _ => none) (fun _ _ => none) none (fun _ => none) ob) o
theorem qpC {o : Option Obj} {cs : List V} (h : qoX o = some cs) : o = some (.cells cs) := by
  cases o with
  | none => cases h
  | some ob => cases ob with
    | cells c => have h : some c = some cs := h; cases h; rfl
    | _ => cases h
noncomputable def qqZ (o : Option Obj) : Option (List V) := Option.rec (motive := fun _ => Option (List V)) none (fun ob => Obj.rec (motive := fun _ => Option (List V)) (fun cs => some cs) (fun _ => none) (fun _ cs => some cs) none (fun _ => none) ob) o
theorem qp3 {o : Option Obj} {cs : List V} (h : qqZ o = some cs) : o = some (.cells cs) ∨ ∃ l, o = some (.row l cs) := by
  cases o with
  | none => cases h
  | some ob => cases ob with
    | cells c => have h : some c = some cs := h; cases h; exact .inl rfl
    | row l c => have h : some c = some cs := h; cases h; exact .inr ⟨l, rfl⟩
    | _ => cases h
noncomputable def qql (v : V) : Option (List V) := V.rec (motive_1 := fun _ => Option (List V)) (motive_2 := fun _ => Option (List V)) (fun _ => none) (fun _ => none) (fun _ => none) (fun _ _ => none) (fun _ _ => none) (fun cs _ => some cs) (fun _ => none) (fun _ _ _ _ => none) (fun _ _ _ => none) (fun _ => none) (fun _ _ _ _ _ => none) (fun _ _ _ => none) (fun _ _ => none) (fun _ _ => none) none none (fun _ _ _ _ => none) v
theorem qnO {v : V} {cs : List V} (h : qql v = some cs) : v = .box cs := by
  cases v with
  | box c => have h : some c = some cs := h; cases h; rfl
  | _ => cases h
noncomputable def orN {α : Type} (o : Option α) (κ : α → R) : R := Option.rec (motive := fun _ => R) none κ o
theorem zw {α : Type} {o : Option α} {κ : α → R} {x : Ex × St} (h : orN o κ = some x) : ∃ a, o = some a ∧ κ a = some x := by
  cases o with
  | none => cases h
  | some a => exact ⟨a, rfl, h⟩
noncomputable def orZ {α : Type} (o : Option α) (z : R) (κ : α → R) : R := Option.rec (motive := fun _ => R) z κ o
theorem qj5 {α : Type} {o : Option α} {z : R} {κ : α → R} {x : Ex × St} (h : orZ o z κ = some x) : z = some x ∨ ∃ a, o = some a ∧ κ a = some x := by
  cases o with
  | none => exact .inl h
  | some a => exact .inr ⟨a, rfl, h⟩
noncomputable def qqb (l : L) (off : Nat) (cs : List V) (κ : V → R) : R := L.rec (motive := fun _ => R) (fun n agg => Bool.rec (motive := fun _ => R) (orN (fnth cs off) fun v => qxt v κ) (orN (V.part off ⟨n, agg⟩ cs) fun v => qcx v κ) agg) l
theorem qlX {l : L} {off : Nat} {cs : List V} {κ : V → R} {x : Ex × St} (h : qqb l off cs κ = some x) : ∃ v, V.part off l cs = some v ∧ v.isBox = false ∧ κ v = some x := by
  obtain ⟨n, agg⟩ := l
  cases agg with
  | false =>
    obtain ⟨v, h1, h2⟩ := zw (o := fnth cs off) h
    rw [zN] at h1
    obtain ⟨h3, h4⟩ := qq4 h2
    exact ⟨_, by simp [V.part, h1], h3, h4⟩
  | true =>
    obtain ⟨v, h1, h2⟩ := zw (o := V.part off ⟨n, true⟩ cs) h
    rw [qbP] at h2
    refine ⟨v, h1, ?_, h2⟩
    simp only [V.part, if_true] at h1
    split at h1
    · cases h1; exact qkO _
    · cases h1
noncomputable def isAgg (x : D) : Option (List D) := D.rec (motive_1 := fun _ => Option (List D)) (motive_2 := fun _ => Option (List D)) (fun _ => none) (fun _ _ => none) (fun _ => none) none (fun _ _ => none) (fun cs _ => some cs) none none none none none (fun _ _ _ _ => none) x
noncomputable def qoQ (l : L) (x : D) (κ : V → R) : R := L.rec (motive := fun _ => R) (fun n agg => Option.rec (motive := fun _ => R) (Bool.rec (motive := fun _ => R) (κ (.d x)) none agg) (fun cs => Bool.rec (motive := fun _ => R) none (Bool.rec (motive := fun _ => R) none (κ (.d x)) (qCy (jF cs) n)) agg) (isAgg x)) l
theorem qli {l : L} {x : D} {κ : V → R} {y : Ex × St} {st : St} (h : qoQ l x κ = some y) : qL l st (.cp x) = some (.d x) ∧ κ (.d x) = some y := by
  obtain ⟨n, agg⟩ := l
  cases x with
  | agg cs =>
    cases agg with
    | false => cases h
    | true =>
      have h : Bool.rec (motive := fun _ => R) none (κ (.d (.agg cs))) (qCy (jF cs) n) = some y := h
      cases hb : qCy (jF cs) n with
      | false => rw [hb] at h; cases h
      | true =>
        rw [hb] at h
        have := qCD hb
        rw [kD] at this
        exact ⟨by simp [qL, this], h⟩
  | _ =>
    cases agg with
    | false => exact ⟨rfl, h⟩
    | true => cases h
noncomputable def qxh (d : Nat) (sl : Option Nat) (l : L) (a : O) (g k : K) : KF :=
  Option.rec (motive := fun _ => KF)
    (fun call n e H lo => asP ((kW a).run e) (g.run call n e H lo) (fun id off => orZ (qqZ (fnth H id)) (g.run call n e H lo) fun cs => qqb l off cs fun v => k.run call n ((d, v) :: e) H lo) (fun _ _ => none) (fun x => qoQ l x fun v => k.run call n ((d, v) :: e) H lo))
    (fun s0 call n e H lo => asP ((kW a).run e) (g.run call n e H lo) (fun _ _ => none) (fun s off => Bool.rec (motive := fun _ => R) none (orN (qql (fget s e)) fun cs => qqb l off cs fun v => k.run call n ((d, v) :: e) H lo) (qCy s0 s)) (fun _ => none)) sl
theorem qrB {d : Nat} {sl : Option Nat} {l : L} {a : O} {g k : K} (hg : qY g.run (.load false sl l a) (some d) k) : qY (qxh d sl l a g k) (.load false sl l a) (some d) k := by
  intro call n e H lo z h
  cases sl with
  | none =>
    have h : (asP ((kW a).run e) (g.run call n e H lo) (fun id off => orZ (qqZ (fnth H id)) (g.run call n e H lo) fun cs => qqb l off cs fun v => k.run call n ((d, v) :: e) H lo) (fun _ _ => none) (fun x => qoQ l x fun v => k.run call n ((d, v) :: e) H lo)) = some z := h
    rcases qej h with h | ⟨id, off, ha, h⟩ | ⟨_, _, _, h⟩ | ⟨y, ha, h⟩
    · exact hg h
    · rcases qj5 h with h | ⟨cs, hc, h⟩
      · exact hg h
      obtain ⟨v, hv, hb, h⟩ := qlX h
      have ha' : rd e a = .ptr id off := by rw [kM (by rw [ha]; trivial), ha]
      have he : qd call (.load false none l a) ⟨e, H, lo⟩ = some ⟨false, true, v, ⟨e, H, lo⟩⟩ := by
        rcases qp3 hc with hc | ⟨l', hc⟩ <;>
        · rw [zN] at hc
          simp only [qd, jC, ha', qF, qL, hc, hv, Bool.not_true, cond_false, ok]
      rw [he]; exact qo hb h
    · cases h
    · obtain ⟨h1, h2⟩ := qli (st := ⟨e, H, lo⟩) h
      have ha' : rd e a = .cp y := by rw [kM (by rw [ha]; trivial), ha]
      have he : qd call (.load false none l a) ⟨e, H, lo⟩ = some ⟨false, true, .d y, ⟨e, H, lo⟩⟩ := by
        simp only [qd, jC, ha', qF, h1, Bool.not_true, cond_false, ok]
      rw [he]; exact qo rfl h2
  | some s0 =>
    have h : (asP ((kW a).run e) (g.run call n e H lo) (fun _ _ => none) (fun s off => Bool.rec (motive := fun _ => R) none (orN (qql (fget s e)) fun cs => qqb l off cs fun v => k.run call n ((d, v) :: e) H lo) (qCy s0 s)) (fun _ => none)) = some z := h
    rcases qej h with h | ⟨_, _, _, h⟩ | ⟨s, off, ha, h⟩ | ⟨_, _, h⟩
    · exact hg h
    · cases h
    · cases hb : qCy s0 s with
      | false => rw [hb] at h; cases h
      | true =>
        rw [hb] at h
        obtain ⟨cs, hc, h⟩ := zw (o := qql (fget s e)) h
        obtain ⟨v, hv, hbx, h⟩ := qlX h
        have hc := qnO hc
        rw [yu] at hc
        have ha' : rd e a = .lp s off := by rw [kM (by rw [ha]; trivial), ha]
        have he : qd call (.load false (some s0) l a) ⟨e, H, lo⟩ = some ⟨false, true, v, ⟨e, H, lo⟩⟩ := by
          simp only [qd, jC, ha', qF, qL, hc, hv, hb, Bool.not_true, cond_false, ok]
        rw [he]; exact qo hbx h
    · cases h
noncomputable def qqB (d : Nat) (l : L) (a : O) (k : K) : KF := fun call n e H lo => asP ((kW a).run e) none (fun _ _ => none) (fun _ _ => none) (fun x => qoQ l x fun v => k.run call n ((d, v) :: e) H lo)
theorem qqp {d : Nat} {l : L} {a : O} {k : K} : qY (qqB d l a k) (.loadC l a) (some d) k := by
  intro call n e H lo z h
  unfold qqB at h
  rcases qej h with h | ⟨_, _, _, h⟩ | ⟨_, _, _, h⟩ | ⟨y, ha, h⟩
  · cases h
  · cases h
  · cases h
  · obtain ⟨h1, h2⟩ := qli (st := ⟨e, H, lo⟩) h
    have ha' : rd e a = .cp y := by rw [kM (by rw [ha]; trivial), ha]
    have he : qd call (.loadC l a) ⟨e, H, lo⟩ = some ⟨false, true, .d y, ⟨e, H, lo⟩⟩ := by
      simp only [qd, qfd, ha', h1, ok]
    rw [he]; exact qo rfl h2
noncomputable def qzO (d : Nat) (a : O) (g k : K) : KF := fun call n e H lo =>
  asP ((kW a).run e) (g.run call n e H lo) (fun id off => k.run call n ((d, .ptr id off) :: e) H lo) (fun s off => k.run call n ((d, .lp s off) :: e) H lo) (fun x => k.run call n ((d, .cp x) :: e) H lo)
theorem qsG {d : Nat} {a : O} {g k : K} (hg : qY g.run (.nilCheck a) (some d) k) : qY (qzO d a g k) (.nilCheck a) (some d) k := by
  intro call n e H lo z h
  unfold qzO at h
  rcases qej h with h | ⟨id, off, ha, h⟩ | ⟨s, off, ha, h⟩ | ⟨y, ha, h⟩
  · exact hg h
  · have ha' : rd e a = .ptr id off := (kM (by rw [ha]; trivial)).trans ha
    rw [show qd call (.nilCheck a) ⟨e, H, lo⟩ = some ⟨false, true, .ptr id off, ⟨e, H, lo⟩⟩ by simp only [qd, zA, ha', ok]]
    exact qo rfl h
  · have ha' : rd e a = .lp s off := (kM (by rw [ha]; trivial)).trans ha
    rw [show qd call (.nilCheck a) ⟨e, H, lo⟩ = some ⟨false, true, .lp s off, ⟨e, H, lo⟩⟩ by simp only [qd, zA, ha', ok]]
    exact qo rfl h
  · have ha' : rd e a = .cp y := (kM (by rw [ha]; trivial)).trans ha
    rw [show qd call (.nilCheck a) ⟨e, H, lo⟩ = some ⟨false, true, .cp y, ⟨e, H, lo⟩⟩ by simp only [qd, zA, ha', ok]]
    exact qo rfl h
noncomputable def qyN (d : Nat) (a : O) (o : Nat) (l : L) (g k : K) : KF := fun call n e H lo =>
  asP ((kW a).run e) (g.run call n e H lo) (fun id off => qq (Nat.add off o) fun off => k.run call n ((d, .ptr id off) :: e) H lo) (fun s off => qq (Nat.add off o) fun off => k.run call n ((d, .lp s off) :: e) H lo) (fun _ => g.run call n e H lo)
theorem qfP {a : Nat} {κ : Nat → R} : qq a κ = κ a := qX a κ
theorem qs9 {d : Nat} {a : O} {o : Nat} {l : L} {g k : K} (hg : qY g.run (.fieldAddr a o l) (some d) k) : qY (qyN d a o l g k) (.fieldAddr a o l) (some d) k := by
  intro call n e H lo z h
  unfold qyN at h
  rcases qej h with h | ⟨id, off, ha, h⟩ | ⟨s, off, ha, h⟩ | ⟨y, ha, h⟩
  · exact hg h
  · rw [qfP] at h
    have ha' : rd e a = .ptr id off := (kM (by rw [ha]; trivial)).trans ha
    have he : qd call (.fieldAddr a o l) ⟨e, H, lo⟩ = some ⟨false, true, .ptr id (off + o), ⟨e, H, lo⟩⟩ := by
      simp only [qd, qU, ha', ok]
    rw [he]; exact qo rfl h
  · rw [qfP] at h
    have ha' : rd e a = .lp s off := (kM (by rw [ha]; trivial)).trans ha
    have he : qd call (.fieldAddr a o l) ⟨e, H, lo⟩ = some ⟨false, true, .lp s (off + o), ⟨e, H, lo⟩⟩ := by
      simp only [qd, qU, ha', ok]
    rw [he]; exact qo rfl h
  · exact hg h
noncomputable def qt7 (z : Int) (κ : Nat → R) : R := Int.rec (motive := fun _ => R) κ (fun _ => none) z
theorem qlS {z : Int} {κ : Nat → R} {x : Ex × St} (h : qt7 z κ = some x) : ∃ m : Nat, z = .ofNat m ∧ κ m = some x := by
  cases z with
  | ofNat m => exact ⟨m, rfl, h⟩
  | negSucc m => cases h
noncomputable def szD (y : D) : Nat := D.rec (motive_1 := fun _ => Nat) (motive_2 := fun _ => Nat) (fun _ => 1) (fun _ _ => 1) (fun _ => 1) 1 (fun _ _ => 1) (fun cs _ => jF cs) 1 1 1 1 1 (fun _ _ _ _ => 1) y
theorem qok (y : D) : szD y = y.cells.length := by
  cases y with
  | agg cs => exact kD cs
  | _ => rfl
noncomputable def asL (v : V) (z nl : R) (κ : List D → R) : R := OL.rec (motive := fun _ => R) z nl κ (vL v)
theorem qng {v : V} {z nl : R} {κ : List D → R} {x : Ex × St} (h : asL v z nl κ = some x) : z = some x ∨ (v = .d .nil ∧ nl = some x) ∨ ∃ xs, v = .d (.sl xs) ∧ κ xs = some x := by
  unfold asL at h
  cases hv : vL v with
  | no => rw [hv] at h; exact .inl h
  | nil => rw [hv] at h; exact .inr (.inl ⟨qxJ hv, h⟩)
  | sl xs => rw [hv] at h; exact .inr (.inr ⟨xs, qBD hv, h⟩)
noncomputable def asT (v : V) (z : R) (κ : List Nat → R) : R := OT.rec (motive := fun _ => R) z κ (vT v)
theorem qo8 {v : V} {z : R} {κ : List Nat → R} {x : Ex × St} (h : asT v z κ = some x) : z = some x ∨ ∃ t, v = .d (.s t) ∧ κ t = some x := by
  unfold asT at h
  cases hv : vT v with
  | no => rw [hv] at h; exact .inl h
  | s t => rw [hv] at h; exact .inr ⟨t, qBc hv, h⟩
noncomputable def qzR (d : Nat) (x i : O) (size : Nat) (g k : K) : KF := fun call n e H lo =>
  asL ((kW x).run e) (g.run call n e H lo) none fun xs => asN ((kW i).run e) none fun _ z => qt7 z fun m => orN (fnth xs m) fun y => Bool.rec (motive := fun _ => R) none (k.run call n ((d, .cp y) :: e) H lo) (qCy (szD y) size)
theorem qtw {d : Nat} {x i : O} {size : Nat} {g k : K} (hg : qY g.run (.indexAddr x i size none) (some d) k) : qY (qzR d x i size g k) (.indexAddr x i size none) (some d) k := by
  intro call n e H lo z h
  unfold qzR at h
  rcases qng h with h | ⟨_, h⟩ | ⟨xs, hx, h⟩
  · exact hg h
  · cases h
  rcases qfB h with h | ⟨kk, w, hi, h⟩
  · cases h
  obtain ⟨m, rfl, h⟩ := qlS h
  obtain ⟨y, hy, h⟩ := zw h
  rw [zN] at hy
  rw [qok] at h
  cases hb : qCy y.cells.length size with
  | false => rw [hb] at h; cases h
  | true =>
    rw [hb] at h
    have hx' : rd e x = .d (.sl xs) := (kM (by rw [hx]; trivial)).trans hx
    have hl : leI 0 (Int.ofNat m) = true := by show Nat.ble 0 m = true; exact Nat.ble_eq_true_of_le (Nat.zero_le m)
    have ht : (Int.ofNat m).toNat = m := rfl
    have he : qd call (.indexAddr x i size none) ⟨e, H, lo⟩ = some ⟨false, true, .cp y, ⟨e, H, lo⟩⟩ := by
      simp only [qd, ky, yf, hx', qn6 hi, hl, ht, hy, hb, cond_true, ok]
    rw [he]; exact qo rfl h
noncomputable def qzJ (d : Nat) (x i : O) (k : K) : KF := fun call n e H lo =>
  asT ((kW x).run e) none fun t => asN ((kW i).run e) none fun _ z => qt7 z fun m => orN (fnth t m) fun y => k.run call n ((d, .d (.i .u8 (.ofNat y))) :: e) H lo
theorem qsF {d : Nat} {x i : O} {k : K} : qY (qzJ d x i k) (.index x i) (some d) k := by
  intro call n e H lo z h
  unfold qzJ at h
  rcases qo8 h with h | ⟨t, hx, h⟩
  · cases h
  rcases qfB h with h | ⟨kk, w, hi, h⟩
  · cases h
  obtain ⟨m, rfl, h⟩ := qlS h
  obtain ⟨y, hy, h⟩ := zw h
  rw [zN] at hy
  have hx' : rd e x = .d (.s t) := (kM (by rw [hx]; trivial)).trans hx
  have hl : leI 0 (Int.ofNat m) = true := by show Nat.ble 0 m = true; exact Nat.ble_eq_true_of_le (Nat.zero_le m)
  have ht : (Int.ofNat m).toNat = m := rfl
  have he : qd call (.index x i) ⟨e, H, lo⟩ = some ⟨false, true, .d (.i .u8 (.ofNat y)), ⟨e, H, lo⟩⟩ := by
    simp only [qd, qfa, hx', qn6 hi, hl, ht, hy, cond_true, ok]; rfl
  rw [he]; exact qo rfl h
noncomputable def asU (v : V) (κ : List V → R) : R := OU.rec (motive := fun _ => R) none κ (vU v)
theorem qvZ {v : V} {κ : List V → R} {x : Ex × St} (h : asU v κ = some x) : ∃ vs, v = .tup vs ∧ κ vs = some x := by
  unfold asU at h
  cases hv : vU v with
  | no => rw [hv] at h; cases h
  | t vs => rw [hv] at h; exact ⟨vs, qCu hv, h⟩
noncomputable def qAv (d m i : Nat) (k : K) : KF := fun call n e H lo =>
  asU (fget m e) fun vs => orN (fnth vs i) fun v => qst v fun v => k.run call n ((d, v) :: e) H lo
theorem qtJ {d m i : Nat} {k : K} : qY (qAv d m i k) (.extract (.t m) i) (some d) k := by
  intro call n e H lo z h
  unfold qAv at h
  obtain ⟨vs, hv, h⟩ := qvZ h
  obtain ⟨v, hn, h⟩ := zw h
  obtain ⟨hb, h⟩ := qjR h
  rw [yu] at hv
  rw [zN] at hn
  have he : qd call (.extract (.t m) i) ⟨e, H, lo⟩ = some ⟨false, true, copy v, ⟨e, H, lo⟩⟩ := by
    simp only [qd, ju, hv, hn, ok]
  rw [he]; exact qo hb h
noncomputable def qvA (d : Nat) (x : O) (k : K) : KF := fun call n e H lo =>
  asT ((kW x).run e) none fun t => qq (jF t) fun m => k.run call n ((d, .d (.i .i64 (.ofNat m))) :: e) H lo
theorem qrp {d : Nat} {x : O} {k : K} : qY (qvA d x k) (.bi .lenS [x]) (some d) k := by
  intro call n e H lo z h
  unfold qvA at h
  rcases qo8 h with h | ⟨t, hx, h⟩
  · cases h
  rw [qfP, kD] at h
  have hx' : rd e x = .d (.s t) := (kM (by rw [hx]; trivial)).trans hx
  have he : qd call (.bi .lenS [x]) ⟨e, H, lo⟩ = some ⟨false, true, .d (.i .i64 (.ofNat t.length)), ⟨e, H, lo⟩⟩ := by
    simp only [qd, eBi, qj3, hx', ok]; rfl
  rw [he]; exact qo rfl h
noncomputable def qus (d : Nat) (x : O) (g k : K) : KF := fun call n e H lo =>
  asL ((kW x).run e) (g.run call n e H lo) (k.run call n ((d, .d (.i .i64 (.ofNat 0))) :: e) H lo) fun xs => qq (jF xs) fun m => k.run call n ((d, .d (.i .i64 (.ofNat m))) :: e) H lo
theorem qru {d : Nat} {x : O} {g k : K} (hg : qY g.run (.bi .lenL [x]) (some d) k) : qY (qus d x g k) (.bi .lenL [x]) (some d) k := by
  intro call n e H lo z h
  unfold qus at h
  rcases qng h with h | ⟨hx, h⟩ | ⟨xs, hx, h⟩
  · exact hg h
  · have hx' : rd e x = .d .nil := (kM (by rw [hx]; trivial)).trans hx
    have he : qd call (.bi .lenL [x]) ⟨e, H, lo⟩ = some ⟨false, true, .d (.i .i64 (.ofNat 0)), ⟨e, H, lo⟩⟩ := by
      simp only [qd, eBi, qeD, qwc, hx', ok]; rfl
    rw [he]; exact qo rfl h
  · rw [qfP, kD] at h
    have hx' : rd e x = .d (.sl xs) := (kM (by rw [hx]; trivial)).trans hx
    have he : qd call (.bi .lenL [x]) ⟨e, H, lo⟩ = some ⟨false, true, .d (.i .i64 (.ofNat xs.length)), ⟨e, H, lo⟩⟩ := by
      simp only [qd, eBi, qeD, qwc, hx', ok]; rfl
    rw [he]; exact qo rfl h
noncomputable def asB (v : V) (a b : R) : R := OB.rec (motive := fun _ => R) none b a (vB v)
theorem qpE {v : V} {a b : R} {x : Ex × St} (h : asB v a b = some x) : (v = .d (.b true) ∧ a = some x) ∨ (v = .d (.b false) ∧ b = some x) := by
  unfold asB at h
  cases hv : vB v with
  | no => rw [hv] at h; cases h
  | t => rw [hv] at h; exact .inl ⟨qCc hv, h⟩
  | f => rw [hv] at h; exact .inr ⟨qCm hv, h⟩
noncomputable def qx7 (d : Nat) (x : O) (k : K) : KF := fun call n e H lo =>
  asB ((kW x).run e) (k.run call n ((d, .d (.b false)) :: e) H lo) (k.run call n ((d, .d (.b true)) :: e) H lo)
theorem qs2 {d : Nat} {x : O} {k : K} : qY (qx7 d x k) (.un .not x) (some d) k := by
  intro call n e H lo z h
  unfold qx7 at h
  rcases qpE h with ⟨hx, h⟩ | ⟨hx, h⟩
  · have hx' : rd e x = .d (.b true) := (kM (by rw [hx]; trivial)).trans hx
    rw [show qd call (.un .not x) ⟨e, H, lo⟩ = some ⟨false, true, .d (.b false), ⟨e, H, lo⟩⟩ by simp only [qd, eUn, hx', unD, ok]; rfl]
    exact qo rfl h
  · have hx' : rd e x = .d (.b false) := (kM (by rw [hx]; trivial)).trans hx
    rw [show qd call (.un .not x) ⟨e, H, lo⟩ = some ⟨false, true, .d (.b true), ⟨e, H, lo⟩⟩ by simp only [qd, eUn, hx', unD, ok]; rfl]
    exact qo rfl h
noncomputable def qrJ (v : V) : Bool := V.rec (motive_1 := fun _ => Bool) (motive_2 := fun _ => Bool) (fun x => D.rec (motive_1 := fun _ => Bool) (motive_2 := fun _ => Bool) (fun _ => true) (fun _ _ => true) (fun _ => true) true (fun _ _ => true) (fun _ _ => false) true true true true true (fun _ _ _ _ => true) x) (fun _ => true) (fun _ => true) (fun _ _ => true) (fun _ _ => false) (fun _ _ => false) (fun _ => false) (fun _ _ _ _ => true) (fun _ _ _ => true) (fun _ => true) (fun _ _ _ _ _ => false) (fun _ _ _ => false) (fun _ _ => false) (fun _ _ => false) false false (fun _ _ _ _ => false) v
theorem qsq {v : V} (h : qrJ v = true) : v.cells = [v] ∧ V.ones [v] = true := by
  cases v with
  | d x => cases x <;> first | exact ⟨rfl, rfl⟩ | cases h
  | _ => first | exact ⟨rfl, rfl⟩ | cases h
noncomputable def qp4 (v : V) (cs : List V) : Nat → (List V → R) → R :=
  List.rec (motive := fun _ => Nat → (List V → R) → R) (fun _ _ => none) (fun c t ih off κ => Nat.rec (motive := fun _ => R) (κ (v :: t)) (fun m _ => ih m fun t' => κ (c :: t')) off) cs
theorem qiV {v : V} : ∀ {cs : List V} {off : Nat} {κ : List V → R} {x : Ex × St}, qp4 v cs off κ = some x → ∃ cs', ko cs off [v] = some cs' ∧ κ cs' = some x
  | [], off, κ, x, h => by cases h
  | c :: t, 0, κ, x, h => ⟨v :: t, by simp [ko], h⟩
  | c :: t, m + 1, κ, x, h => by
    have h : qp4 v t m (fun t' => κ (c :: t')) = some x := h
    obtain ⟨cs', h1, h2⟩ := qiV h
    refine ⟨c :: cs', ?_, h2⟩
    simp only [ko, List.length_cons, List.length_nil] at h1 ⊢
    split at h1
    · rename_i hl
      cases h1
      rw [if_pos (by omega)]
      simp [Nat.add_right_comm]
    · cases h1
noncomputable def qjt (o : Obj) (H : List Obj) : Nat → (List Obj → R) → R :=
  List.rec (motive := fun _ => Nat → (List Obj → R) → R) (fun _ _ => none) (fun c t ih off κ => Nat.rec (motive := fun _ => R) (κ (o :: t)) (fun m _ => ih m fun t' => κ (c :: t')) off) H
theorem qbR {o : Obj} : ∀ {H : List Obj} {id : Nat} {κ : List Obj → R} {x : Ex × St}, qjt o H id κ = some x → κ (kl H id o) = some x
  | [], off, κ, x, h => by cases h
  | c :: t, 0, κ, x, h => h
  | c :: t, m + 1, κ, x, h => by
    have h : qjt o t m (fun t' => κ (c :: t')) = some x := h
    exact qbR (H := t) (id := m) (κ := fun t' => κ (c :: t')) h
noncomputable def qlF (a b : Nat) (κ : Nat → R) : R := Bool.rec (motive := fun _ => R) (κ b) (κ a) (Nat.ble a b)
theorem qiY (a b : Nat) (κ : Nat → R) : qlF a b κ = κ (min a b) := by
  unfold qlF
  cases h : Nat.ble a b with
  | true => rw [Nat.min_eq_left (Nat.le_of_ble_eq_true h)]
  | false =>
    have : ¬ a ≤ b := fun hc => by rw [Nat.ble_eq_true_of_le hc] at h; cases h
    rw [Nat.min_eq_right (by omega)]
noncomputable def qvi (g k : K) (v : V) (id off : Nat) (call : Call) (n : Nat) (e : Env) (H : List Obj) (lo : Nat) (e' : Env) : R :=
  match fnth H id with
  | some (.row l cs) => Bool.rec (motive := fun _ => R) (g.run call n e H lo) (qp4 v cs off fun cs => qjt (.row l cs) H id fun H => qlF lo id fun lo => k.run call n e' H lo) v.ok
  | _ => g.run call n e H lo
noncomputable def qAR (sl : Option Nat) (a x : O) (g k : K) : KF :=
  Option.rec (motive := fun _ => KF)
    (fun call n e H lo => asP ((kW a).run e) (g.run call n e H lo) (fun id off => (rdC x).run e fun v => Bool.rec (motive := fun _ => R) (g.run call n e H lo) (orZ (qoX (fnth H id)) (qvi g k v id off call n e H lo ((spO x).run e)) fun cs => qp4 v cs off fun cs => qjt (.cells cs) H id fun H => qlF lo id fun lo => k.run call n ((spO x).run e) H lo) (qrJ v)) (fun _ _ => none) (fun _ => none))
    (fun s0 call n e H lo => asP ((kW a).run e) (g.run call n e H lo) (fun _ _ => none) (fun s off => (rdC x).run e fun v => Bool.rec (motive := fun _ => R) (g.run call n e H lo) (Bool.rec (motive := fun _ => R) none (orN (qql (fget s ((spO x).run e))) fun cs => qp4 v cs off fun cs => k.run call n ((s, .box cs) :: (spO x).run e) H lo) (qCy s0 s)) (qrJ v)) (fun _ => none)) sl
theorem qtp {sl : Option Nat} {a x : O} {g k : K} (hg : qY g.run (.store sl ⟨1, false⟩ a x) none k) : qY (qAR sl a x g k) (.store sl ⟨1, false⟩ a x) none k := by
  intro call n e H lo z h
  cases sl with
  | none =>
    have h : (asP ((kW a).run e) (g.run call n e H lo) (fun id off => (rdC x).run e fun v => Bool.rec (motive := fun _ => R) (g.run call n e H lo) (orZ (qoX (fnth H id)) (qvi g k v id off call n e H lo ((spO x).run e)) fun cs => qp4 v cs off fun cs => qjt (.cells cs) H id fun H => qlF lo id fun lo => k.run call n ((spO x).run e) H lo) (qrJ v)) (fun _ _ => none) (fun _ => none)) = some z := h
    rcases qej h with h | ⟨id, off, ha, h⟩ | ⟨_, _, _, h⟩ | ⟨y, ha, h⟩
    · exact hg h
    · rw [qiB] at h
      cases ho : qrJ (rd e x) with
      | false => rw [ho] at h; exact hg h
      | true =>
        rw [ho] at h
        obtain ⟨h1, h2⟩ := qsq ho
        rcases qj5 (o := qoX (fnth H id)) h with h | ⟨cs, hc, h⟩
        · unfold qvi at h
          rw [zN] at h
          split at h
          · rename_i l' cs hob
            cases hok : (rd e x).ok with
            | false => rw [hok] at h; exact hg h
            | true =>
              rw [hok] at h
              obtain ⟨cs', hs, h⟩ := qiV h
              have h := qbR h
              rw [qiY, qjG] at h
              have ha' : rd e a = .ptr id off := (kM (by rw [ha]; trivial)).trans ha
              have he : qd call (.store none ⟨1, false⟩ a x) ⟨e, H, lo⟩ = some ⟨false, false, .undef, ⟨spent x e, kl H id (.row l' cs'), min lo id⟩⟩ := by
                simp only [qd, qai, ha', qF, yz, hob, h1, h2, hs, hok, V.ok.oks, Bool.not_true, cond_false, okH, List.length_cons, List.length_nil, Nat.zero_add, decide_true, Bool.and_self, if_true]
              rw [he]
              exact ⟨_, rfl, .inl ⟨rfl, _, rfl, h⟩⟩
          · exact hg h
        obtain ⟨cs', hs, h⟩ := qiV h
        have h := qbR h
        rw [qiY, qjG] at h
        have hc := qpC hc
        rw [zN] at hc
        have ha' : rd e a = .ptr id off := (kM (by rw [ha]; trivial)).trans ha
        have he : qd call (.store none ⟨1, false⟩ a x) ⟨e, H, lo⟩ = some ⟨false, false, .undef, ⟨spent x e, kl H id (.cells cs'), min lo id⟩⟩ := by
          simp only [qd, qai, ha', qF, yz, hc, h1, h2, hs, Bool.not_true, cond_false, okH, List.length_cons, List.length_nil, Nat.zero_add, decide_true, Bool.and_self, if_true]
        rw [he]
        exact ⟨_, rfl, .inl ⟨rfl, _, rfl, h⟩⟩
    · cases h
    · cases h
  | some s0 =>
    have h : (asP ((kW a).run e) (g.run call n e H lo) (fun _ _ => none) (fun s off => (rdC x).run e fun v => Bool.rec (motive := fun _ => R) (g.run call n e H lo) (Bool.rec (motive := fun _ => R) none (orN (qql (fget s ((spO x).run e))) fun cs => qp4 v cs off fun cs => k.run call n ((s, .box cs) :: (spO x).run e) H lo) (qCy s0 s)) (qrJ v)) (fun _ => none)) = some z := h
    rcases qej h with h | ⟨_, _, _, h⟩ | ⟨s, off, ha, h⟩ | ⟨_, _, h⟩
    · exact hg h
    · cases h
    · rw [qiB] at h
      cases ho : qrJ (rd e x) with
      | false => rw [ho] at h; exact hg h
      | true =>
        rw [ho] at h
        obtain ⟨h1, h2⟩ := qsq ho
        have h : Bool.rec (motive := fun _ => R) none (orN (qql (fget s ((spO x).run e))) fun cs => qp4 (rd e x) cs off fun cs => k.run call n ((s, .box cs) :: (spO x).run e) H lo) (qCy s0 s) = some z := h
        cases hb : qCy s0 s with
        | false => rw [hb] at h; cases h
        | true =>
          rw [hb] at h
          obtain ⟨cs, hc, h⟩ := zw (o := qql (fget s ((spO x).run e))) h
          obtain ⟨cs', hs, h⟩ := qiV h
          have hc := qnO hc
          rw [yu, qjG] at hc
          rw [qjG] at h
          have ha' : rd e a = .lp s off := (kM (by rw [ha]; trivial)).trans ha
          have he : qd call (.store (some s0) ⟨1, false⟩ a x) ⟨e, H, lo⟩ = some ⟨false, true, .undef, ⟨(s, .box cs') :: spent x e, H, lo⟩⟩ := by
            simp only [qd, qai, ha', qF, yz, hb, hc, h1, h2, hs, Bool.not_true, cond_false, ok, List.length_cons, List.length_nil, Nat.zero_add, decide_true, Bool.and_self, if_true]
          rw [he]
          exact ⟨_, rfl, .inl ⟨rfl, _, rfl, h⟩⟩
    · cases h
noncomputable def qvL {α : Type} (o : α) (l : List α) : (List α → R) → R := List.rec (motive := fun _ => (List α → R) → R) (fun κ => κ [o]) (fun x _ ih κ => ih fun r => κ (x :: r)) l
theorem qo9 {α : Type} (o : α) (l : List α) (κ : List α → R) : qvL o l κ = κ (l ++ [o]) := by
  induction l generalizing κ with
  | nil => rfl
  | cons x l ih => exact ih _
noncomputable def qyU (d : Nat) (zero : List D) (k : K) : KF := fun call n e H lo =>
  kI (fun v κ => κ v) (zero.map V.d) fun cs => qq (jF H) fun m => qvL (.cells cs) H fun H => k.run call n ((d, .ptr m 0) :: e) H lo
theorem qtq {d : Nat} {zero : List D} {k : K} : qY (qyU d zero k) (.alloc false zero) (some d) k := by
  intro call n e H lo z h
  unfold qyU at h
  rw [qH (fun v κ => rfl), qfP, kD, qo9] at h
  exact qo (same := false) rfl h
noncomputable def qyE (d : Nat) (k : K) : KF := fun call n e H lo => qq (jF H) fun m => qvL (.map []) H fun H => k.run call n ((d, .map m) :: e) H lo
theorem qtu {d : Nat} {k : K} : qY (qyE d k) .mkMap (some d) k := by
  intro call n e H lo z h
  unfold qyE at h
  rw [qfP, kD, qo9] at h
  exact qo (same := false) rfl h
noncomputable def quT (a : List Nat) : List Nat → Bool := List.rec (motive := fun _ => List Nat → Bool) (fun b => List.rec (motive := fun _ => Bool) true (fun _ _ _ => false) b) (fun x _ ih b => List.rec (motive := fun _ => Bool) false (fun y t _ => Bool.rec (motive := fun _ => Bool) false (ih t) (qCy x y)) b) a
theorem qss : ∀ a b : List Nat, quT a b = eqT a b
  | [], [] => rfl
  | [], _ :: _ => rfl
  | _ :: _, [] => rfl
  | x :: a, y :: b => by
    show Bool.rec (motive := fun _ => Bool) false (quT a b) (qCy x y) = (qCy x y && eqT a b)
    rw [qss a b]
    cases qCy x y <;> rfl
noncomputable def qph (x w : D) : Option Bool := D.rec (motive_1 := fun _ => Option Bool) (motive_2 := fun _ => Option Bool) (fun y => D.same (.b y) w) (fun k n => D.same (.i k n) w) (fun t => OT.rec (motive := fun _ => Option Bool) (D.same (.s t) w) (fun u => some (quT t u)) (vT (.d w))) none (fun _ _ => none) (fun _ _ => none) none none none none none (fun _ _ _ _ => none) x
theorem qpY (x w : D) : qph x w = D.same x w := by
  cases x with
  | s t =>
    show OT.rec (motive := fun _ => Option Bool) (D.same (.s t) w) (fun u => some (quT t u)) (vT (.d w)) = _
    cases h : vT (.d w) with
    | no => rfl
    | s u =>
      have := qBc h
      cases this
      show some (quT t u) = some (eqT t u)
      rw [qss]
  | b z => rfl
  | i k n => rfl
  | _ => cases w <;> rfl
noncomputable def quG (k : D) (es : List (D × V)) : Option (Option V) := List.rec (motive := fun _ => Option (Option V)) (some none) (fun p _ ih => Option.rec (motive := fun _ => Option (Option V)) none (fun b => Bool.rec (motive := fun _ => Option (Option V)) ih (some (some p.2)) b) (qph k p.1)) es
theorem quw (k : D) (es : List (D × V)) : quG k es = qeV k es := by
  induction es with
  | nil => rfl
  | cons p es ih =>
    obtain ⟨k', v⟩ := p
    show Option.rec (motive := fun _ => Option (Option V)) none (fun b => Bool.rec (motive := fun _ => Option (Option V)) (quG k es) (some (some v)) b) (qph k k') = qeV k ((k', v) :: es)
    rw [qpY, ih]
    simp only [qeV]
    cases D.same k k' with
    | none => rfl
    | some b => cases b <;> rfl
noncomputable def qt4 (k : D) (v : V) (es : List (D × V)) : (List (D × V) → R) → R := List.rec (motive := fun _ => (List (D × V) → R) → R) (fun κ => κ [(k, v)]) (fun p t ih κ => Option.rec (motive := fun _ => R) none (fun b => Bool.rec (motive := fun _ => R) (ih fun r => κ (p :: r)) (κ ((p.1, v) :: t)) b) (qph k p.1)) es
theorem qm1 {k : D} {v : V} : ∀ {es : List (D × V)} {κ : List (D × V) → R} {x : Ex × St}, qt4 k v es κ = some x → ∃ es', qhN k v es = some es' ∧ κ es' = some x
  | [], κ, x, h => ⟨_, rfl, h⟩
  | (k', w) :: es, κ, x, h => by
    have h : Option.rec (motive := fun _ => R) none (fun b => Bool.rec (motive := fun _ => R) (qt4 k v es fun r => κ ((k', w) :: r)) (κ ((k', v) :: es)) b) (qph k k') = some x := h
    rw [qpY] at h
    cases hs : D.same k k' with
    | none => rw [hs] at h; cases h
    | some b =>
      rw [hs] at h
      cases b with
      | true => exact ⟨_, by simp only [qhN, hs], h⟩
      | false =>
        obtain ⟨es', h1, h2⟩ := qm1 (es := es) h
        exact ⟨_, by simp only [qhN, hs, h1], h2⟩
noncomputable def vD (v : V) : Option D := V.rec (motive_1 := fun _ => Option D) (motive_2 := fun _ => Option D) (fun x => some x) (fun _ => none) (fun _ => none) (fun _ _ => none) (fun _ _ => none) (fun _ _ => none) (fun _ => none) (fun _ _ _ _ => none) (fun _ _ _ => none) (fun _ => none) (fun _ _ _ _ _ => none) (fun _ _ _ => none) (fun _ _ => none) (fun _ _ => none) none none (fun _ _ _ _ => none) v
theorem qoq {v : V} {x : D} (h : vD v = some x) : v = .d x := by
  cases v with
  | d y => have h : some y = some x := h; cases h; rfl
  | _ => cases h
noncomputable def qz5 (v : V) : Option Nat := V.rec (motive_1 := fun _ => Option Nat) (motive_2 := fun _ => Option Nat) (fun _ => none) (fun _ => none) (fun _ => none) (fun _ _ => none) (fun _ _ => none) (fun _ _ => none) (fun _ => none) (fun _ _ _ _ => none) (fun _ _ _ => none) (fun a => some a) (fun _ _ _ _ _ => none) (fun _ _ _ => none) (fun _ _ => none) (fun _ _ => none) none none (fun _ _ _ _ => none) v
theorem qoa {v : V} {m : Nat} (h : qz5 v = some m) : v = .map m := by
  cases v with
  | map y => have h : some y = some m := h; cases h; rfl
  | _ => cases h
noncomputable def qzc (o : Option Obj) : Option (List (D × V)) := Option.rec (motive := fun _ => Option (List (D × V))) none (fun ob => Obj.rec (motive := fun _ => Option (List (D × V))) (fun _ => none) (fun es => some es) (fun _ _ => none) none (fun _ => none) ob) o
theorem qnK {o : Option Obj} {es : List (D × V)} (h : qzc o = some es) : o = some (.map es) := by
  cases o with
  | none => cases h
  | some ob => cases ob with
    | map c => have h : some c = some es := h; cases h; rfl
    | _ => cases h
noncomputable def qap (b : Bool) (κ : R) : R := Bool.rec (motive := fun _ => R) none κ b
theorem kc {b : Bool} {κ : R} {x : Ex × St} (h : qap b κ = some x) : b = true ∧ κ = some x := by
  cases b with
  | false => cases h
  | true => exact ⟨rfl, h⟩
noncomputable def qup (d : Nat) (kk : Nat) (zero : D) (m q : O) (c : Bool) (g k : K) : KF := fun call n e H lo =>
  orZ (qz5 ((kW m).run e)) (g.run call n e H lo) fun id => orN (vD ((kW q).run e)) fun key => orN (qzc (fnth H id)) fun es => qap (jK kk key) (orN (quG key es) fun r =>
    Option.rec (motive := fun _ => R) (Bool.rec (motive := fun _ => R) (k.run call n ((d, .d zero) :: e) H lo) (k.run call n ((d, .tup [.d zero, .d (.b false)]) :: e) H lo) c) (fun v => Bool.rec (motive := fun _ => R) (qst v fun v => k.run call n ((d, v) :: e) H lo) (qst v fun v => k.run call n ((d, .tup [v, .d (.b true)]) :: e) H lo) c) r)
theorem qrf {d kk : Nat} {zero : D} {m q : O} {c : Bool} {g k : K} (hg : qY g.run (.lookup kk zero m q c) (some d) k) : qY (qup d kk zero m q c g k) (.lookup kk zero m q c) (some d) k := by
  intro call n e H lo z h
  unfold qup at h
  rcases qj5 h with h | ⟨id, hm, h⟩
  · exact hg h
  obtain ⟨key, hq, h⟩ := zw h
  obtain ⟨es, hs, h⟩ := zw h
  obtain ⟨hgk, h⟩ := kc h
  obtain ⟨r, hf, h⟩ := zw h
  have hm := qoa hm
  have hq := qoq hq
  have hs := qnK hs
  rw [zN] at hs
  rw [quw] at hf
  have hm' : rd e m = .map id := (kM (by rw [hm]; trivial)).trans hm
  have hq' : rd e q = .d key := (kM (by rw [hq]; trivial)).trans hq
  cases r with
  | none =>
    have he : qd call (.lookup kk zero m q c) ⟨e, H, lo⟩ = some ⟨false, true, bif c then .tup [.d zero, .d (.b false)] else .d zero, ⟨e, H, lo⟩⟩ := by
      simp only [qd, qac, hm', hq', hs, hgk, hf, ok, if_true]
    rw [he]
    cases c <;> exact qo rfl h
  | some v =>
    have he : qd call (.lookup kk zero m q c) ⟨e, H, lo⟩ = some ⟨false, true, bif c then .tup [copy v, .d (.b true)] else copy v, ⟨e, H, lo⟩⟩ := by
      simp only [qd, qac, hm', hq', hs, hgk, hf, ok, if_true]
    rw [he]
    cases c with
    | false =>
      obtain ⟨hb, h⟩ := qjR (v := v) h
      exact qo hb h
    | true =>
      obtain ⟨hb, h⟩ := qjR (v := v) h
      exact qo rfl h
noncomputable def okF (v : V) : Bool := V.rec (motive_1 := fun _ => Bool) (motive_2 := fun _ => Bool) (fun _ => true) (fun _ => false) (fun _ => true) (fun _ _ => true) (fun _ _ => false) (fun _ _ => false) (fun _ => false) (fun _ _ _ _ => true) (fun _ _ _ => true) (fun _ => true) (fun f a b _ _ => V.ok (.fn f a b)) (fun t x _ => V.ok (.ifc t x)) (fun cs _ => V.ok (.agg cs)) (fun vs _ => V.ok (.tup vs)) true false (fun _ _ _ _ => false) v
theorem qzE (v : V) : okF v = v.ok := by cases v <;> rfl
noncomputable def qz7 (kk : Nat) (m q x : O) (k : K) : KF := fun call n e H lo =>
  orN (qz5 ((kW m).run e)) fun id => orN (vD ((kW q).run e)) fun key => orN (qzc (fnth H id)) fun es => (rdC x).run e fun v => qap (jK kk key) (qap (okF v) (qt4 key v es fun es => qjt (.map es) H id fun H => qlF lo id fun lo => k.run call n ((spO x).run e) H lo))
theorem qtH {kk : Nat} {m q x : O} {k : K} : qY (qz7 kk m q x k) (.mapUpdate kk m q x) none k := by
  intro call n e H lo z h
  unfold qz7 at h
  obtain ⟨id, hm, h⟩ := zw h
  obtain ⟨key, hq, h⟩ := zw h
  obtain ⟨es, hs, h⟩ := zw h
  rw [qiB] at h
  obtain ⟨hgk, h⟩ := kc h
  obtain ⟨hok, h⟩ := kc h
  obtain ⟨es', hp, h⟩ := qm1 h
  have h := qbR h
  rw [qiY, qjG] at h
  have hm := qoa hm
  have hq := qoq hq
  have hs := qnK hs
  rw [zN] at hs
  rw [qzE] at hok
  have hm' : rd e m = .map id := (kM (by rw [hm]; trivial)).trans hm
  have hq' : rd e q = .d key := (kM (by rw [hq]; trivial)).trans hq
  have he : qd call (.mapUpdate kk m q x) ⟨e, H, lo⟩ = some ⟨false, false, .undef, ⟨spent x e, kl H id (.map es'), min lo id⟩⟩ := by
    simp only [qd, zj, hm', hq', hs, hgk, hok, hp, okH, if_true, Bool.and_self]
  rw [he]
  exact ⟨_, rfl, .inl ⟨rfl, _, rfl, h⟩⟩
noncomputable def hdF (size : Nat) (l : List D) : Bool := List.rec (motive := fun _ => Bool) true (fun x _ _ => qCy (szD x) size) l
theorem qrk (size : Nat) (l : List D) : hdF size l = kr size l := by
  cases l with
  | nil => rfl
  | cons x l => show qCy (szD x) size = qCy x.cells.length size; rw [qok]
noncomputable def qlY (bytes n : Nat) : Bool := Bool.rec (motive := fun _ => Bool) false (Nat.ble n 140737488355328) (Nat.ble (Nat.mul n bytes) 140737488355328)
theorem qmn (bytes n : Nat) : qlY bytes n = roomy bytes n := by
  show Bool.rec (motive := fun _ => Bool) false (Nat.ble n 140737488355328) (Nat.ble (n * bytes) 140737488355328) = (Nat.ble (n * bytes) 140737488355328 && Nat.ble n 140737488355328)
  cases Nat.ble (n * bytes) 140737488355328 <;> rfl
noncomputable def quv {α : Type} (ys : List α) (l : List α) : (List α → R) → R := List.rec (motive := fun _ => (List α → R) → R) (fun κ => κ ys) (fun x _ ih κ => ih fun r => κ (x :: r)) l
theorem qsA {α : Type} (ys l : List α) (κ : List α → R) : quv ys l κ = κ (l ++ ys) := by
  induction l generalizing κ with
  | nil => rfl
  | cons x l ih => exact ih _
inductive OA where
  | no | nil
  | osl (xs : List D)
  | fsl (xs : List D)
noncomputable def vA (v : V) : OA := V.rec (motive_1 := fun _ => OA) (motive_2 := fun _ => OA) (fun x => D.rec (motive_1 := fun _ => OA) (motive_2 := fun _ => OA) (fun _ => .no) (fun _ _ => .no) (fun _ => .no) .nil (fun _ _ => .no) (fun _ _ => .no) .no .no .no .no .no (fun _ _ _ _ => .no) x) (fun xs => .osl xs) (fun xs => .fsl xs) (fun _ _ => .no) (fun _ _ => .no) (fun _ _ => .no) (fun _ => .no) (fun _ _ _ _ => .no) (fun _ _ _ => .no) (fun _ => .no) (fun _ _ _ _ _ => .no) (fun _ _ _ => .no) (fun _ _ => .no) (fun _ _ => .no) .no .no (fun _ _ _ _ => .no) v
theorem qy5 {v : V} (h : vA v = .nil) : v = .d .nil := by
  cases v with
  | d x => cases x with
    | nil => rfl
    | _ => cases h
  | _ => cases h
theorem qAF {v : V} {xs : List D} (h : vA v = .osl xs) : v = .osl xs := by
  cases v with
  | osl ys => have h : OA.osl ys = .osl xs := h; cases h; rfl
  | d x => cases x <;> cases h
  | _ => cases h
theorem qzA {v : V} {xs : List D} (h : vA v = .fsl xs) : v = .fsl xs := by
  cases v with
  | fsl ys => have h : OA.fsl ys = .fsl xs := h; cases h; rfl
  | d x => cases x <;> cases h
  | _ => cases h
noncomputable def qAQ {α : Type} (l : List α) : Bool := List.rec (motive := fun _ => Bool) false (fun _ _ _ => true) l
noncomputable def qz1 (d size bytes : Nat) (x y : O) (g k : K) : KF := fun call n e H lo =>
  (rdC x).run e fun a => (rdC y).run e fun b => asL b (g.run call n e H lo) (g.run call n e H lo) fun ys =>
    OA.rec (motive := fun _ => R) (g.run call n e H lo)
      (Bool.rec (motive := fun _ => R) (g.run call n e H lo) (qap (hdF size ys) (qap (qlY bytes (jF ys)) (k.run call n ((d, .osl ys) :: (spO x).run e) H lo))) (qAQ ys))
      (fun xs => qap (hdF size xs) (qap (hdF size ys) (qap (qlY bytes (Nat.add (jF xs) (jF ys))) (quv ys xs fun zs => k.run call n ((d, .osl zs) :: (spO x).run e) H lo))))
      (fun xs => qap (hdF size xs) (qap (hdF size ys) (qap (qlY bytes (Nat.add (jF xs) (jF ys))) (quv ys xs fun zs => k.run call n ((d, .osl zs) :: (spO x).run e) H lo)))) (vA a)
theorem qsJ {d size bytes : Nat} {x y : O} {g k : K} (hg : qY g.run (.bi (.append size bytes) [x, y]) (some d) k) : qY (qz1 d size bytes x y g k) (.bi (.append size bytes) [x, y]) (some d) k := by
  intro call n e H lo z h
  unfold qz1 at h
  rw [qiB, qiB] at h
  rcases qng h with h | ⟨_, h⟩ | ⟨ys, hy, h⟩
  · exact hg h
  · exact hg h
  have done : ∀ {v : V}, v.isBox = false → qi2 size bytes (rd e x) (rd e y) = some v → k.run call n ((d, v) :: (spO x).run e) H lo = some z → qnN (qd call (.bi (.append size bytes) [x, y]) ⟨e, H, lo⟩) (some d) k call n z := by
    intro v hb hv hk
    have he : qd call (.bi (.append size bytes) [x, y]) ⟨e, H, lo⟩ = some ⟨false, true, v, ⟨spent x e, H, lo⟩⟩ := by
      simp only [qd, eBi, qae, hv, ok]
    rw [he]
    rw [qjG] at hk
    exact qo hb hk
  cases ha : vA (rd e x) with
  | no => rw [ha] at h; exact hg h
  | nil =>
    rw [ha] at h
    cases ys with
    | nil => exact hg h
    | cons y0 ys =>
      obtain ⟨h1, h⟩ := kc (κ := qap (qlY bytes (jF (y0 :: ys))) (k.run call n ((d, .osl (y0 :: ys)) :: (spO x).run e) H lo)) h
      obtain ⟨h2, h⟩ := kc h
      rw [qrk] at h1
      rw [qmn, kD] at h2
      exact done rfl (by rw [qy5 ha, hy]; simp only [qi2, h1, h2, Bool.and_self, cond_true]) h
  | osl xs =>
    rw [ha] at h
    obtain ⟨h1, h⟩ := kc (b := hdF size xs) (κ := qap (hdF size ys) (qap (qlY bytes (Nat.add (jF xs) (jF ys))) (quv ys xs fun zs => k.run call n ((d, .osl zs) :: (spO x).run e) H lo))) h
    obtain ⟨h2, h⟩ := kc h
    obtain ⟨h3, h⟩ := kc h
    rw [qrk] at h1 h2
    rw [qmn, kD, kD] at h3
    have h3 : roomy bytes (xs.length + ys.length) = true := h3
    rw [qsA] at h
    exact done rfl (by rw [qAF ha, hy]; simp only [qi2, h1, h2, h3, Bool.and_self, cond_true]) h
  | fsl xs =>
    rw [ha] at h
    obtain ⟨h1, h⟩ := kc (b := hdF size xs) (κ := qap (hdF size ys) (qap (qlY bytes (Nat.add (jF xs) (jF ys))) (quv ys xs fun zs => k.run call n ((d, .osl zs) :: (spO x).run e) H lo))) h
    obtain ⟨h2, h⟩ := kc h
    obtain ⟨h3, h⟩ := kc h
    rw [qrk] at h1 h2
    rw [qmn, kD, kD] at h3
    have h3 : roomy bytes (xs.length + ys.length) = true := h3
    rw [qsA] at h
    exact done rfl (by rw [qzA ha, hy]; simp only [qi2, h1, h2, h3, Bool.and_self, cond_true]) h
noncomputable def qfZ (l : List D) : Bool := List.rec (motive := fun _ => Bool) true (fun x _ ih => D.rec (motive_1 := fun _ => Bool) (motive_2 := fun _ => Bool) (fun _ => ih) (fun _ _ => ih) (fun _ => ih) ih (fun _ _ => ih) (fun _ _ => false) ih ih ih ih ih (fun _ _ _ _ => ih) x) l
theorem quI (l : List D) : qfZ l = D.ones l := by
  induction l with
  | nil => rfl
  | cons x l ih =>
    show (D.rec (motive_1 := fun _ => Bool) (motive_2 := fun _ => Bool) (fun _ => qfZ l) (fun _ _ => qfZ l) (fun _ => qfZ l) (qfZ l) (fun _ _ => qfZ l) (fun _ _ => false) (qfZ l) (qfZ l) (qfZ l) (qfZ l) (qfZ l) (fun _ _ _ _ => qfZ l) x) = (x.one && D.ones l)
    rw [ih]
    cases x <;> rfl
noncomputable def wfF (x : D) : Bool := D.rec (motive_1 := fun _ => Bool) (motive_2 := fun _ => Bool) (fun _ => true) (fun _ _ => true) (fun _ => true) true (fun _ _ => true) (fun cs _ => qfZ cs) true true true true true (fun _ _ _ _ => true) x
theorem qxT (x : D) : wfF x = x.wf := by
  cases x with
  | agg cs => exact quI cs
  | _ => rfl
noncomputable def qyn (d : Nat) (zero : D) (x : O) (g k : K) : KF := fun call n e H lo =>
  (rdC x).run e fun v => orZ (vD v) (g.run call n e H lo) fun y => qap (qCy (szD y) (szD zero)) (qap (wfF y) (k.run call n ((d, .osl [y]) :: e) H lo))
theorem qth {d : Nat} {zero : D} {x : O} {g k : K} (hg : qY g.run (.buildSlice zero 1 [(0, x)]) (some d) k) : qY (qyn d zero x g k) (.buildSlice zero 1 [(0, x)]) (some d) k := by
  intro call n e H lo z h
  unfold qyn at h
  rw [qiB] at h
  rcases qj5 h with h | ⟨y, hv, h⟩
  · exact hg h
  obtain ⟨h1, h⟩ := kc h
  obtain ⟨h2, h⟩ := kc h
  have hv := qoq hv
  rw [qok, qok] at h1
  have h1 := qCD h1
  rw [qxT] at h2
  have he : qd call (.buildSlice zero 1 [(0, x)]) ⟨e, H, lo⟩ = some ⟨false, true, .osl [y], ⟨e, H, lo⟩⟩ := by
    simp [qd, qV, hv, qcM, h1, D.wfs, h2, ok, List.replicate]
  rw [he]; exact qo rfl h
noncomputable def lvF (v : V) : Bool := V.rec (motive_1 := fun _ => Bool) (motive_2 := fun _ => Bool) (fun _ => true) (fun _ => true) (fun _ => true) (fun _ _ => true) (fun _ _ => false) (fun _ _ => false) (fun _ => false) (fun _ _ _ _ => true) (fun _ _ _ => true) (fun _ => true) (fun f a b _ _ => V.ok (.fn f a b)) (fun t x _ => V.ok (.ifc t x)) (fun cs _ => V.ok (.agg cs)) (fun vs _ => V.ok (.tup vs)) true false (fun _ _ _ _ => false) v
theorem quL (v : V) : lvF v = v.leaves := by cases v <;> rfl
noncomputable def lvs (l : List V) : Bool := List.rec (motive := fun _ => Bool) true (fun v _ ih => Bool.rec (motive := fun _ => Bool) false ih (lvF v)) l
theorem qx8 (l : List V) : lvs l = V.allLeave l := by
  induction l with
  | nil => rfl
  | cons v l ih =>
    show Bool.rec (motive := fun _ => Bool) false (lvs l) (lvF v) = (v.leaves && V.allLeave l)
    rw [ih, quL]
    cases v.leaves <;> rfl
noncomputable def qAH (dst : Option Nat) (v : V) (k : K) : KF := fun call n e H lo =>
  Option.rec (motive := fun _ => R) (k.run call n e H lo) (fun d => qq7 v (qkC (some d) v k call n e H lo) fun v => k.run call n ((d, v) :: e) H lo) dst
theorem qrr {dst : Option Nat} {v : V} {same : Bool} {k : K} {call : Call} {n : Nat} {e : Env} {H : List Obj} {lo : Nat} {x : Ex × St} (h : qAH dst v k call n e H lo = some x) : qnN (some ⟨false, same, v, ⟨e, H, lo⟩⟩) dst k call n x := by
  cases dst with
  | none => exact ⟨_, rfl, .inl ⟨rfl, _, rfl, h⟩⟩
  | some d =>
    have h : qq7 v (qkC (some d) v k call n e H lo) (fun v => k.run call n ((d, v) :: e) H lo) = some x := h
    rcases qpw h with h | ⟨hb, h⟩
    · exact qjT h
    · exact qo hb h
noncomputable def qwx (dst : Option Nat) (i : Nat) (args : List O) (k : K) : KF := fun call n e H lo =>
  (qyC args).run e fun vs => qap (lvs vs) (orN (call i vs H) fun r => Cr.rec (motive := fun _ => R) (fun pan same v H' lo' => qlF lo lo' fun lo => Bool.rec (motive := fun _ => R) (qAH dst v k call n ((spL args).run e) H' lo) (some (.pan v, ⟨(spL args).run e, H', lo⟩)) pan) r)
theorem qnM {dst : Option Nat} {i : Nat} {args : List O} {k : K} : qY (qwx dst i args k) (.call (.f i) args) dst k := by
  intro call n e H lo z h
  unfold qwx at h
  rw [qwu] at h
  obtain ⟨h1, h⟩ := kc h
  obtain ⟨r, hr, h⟩ := zw h
  rw [qx8] at h1
  obtain ⟨pan, same, v, H', lo'⟩ := r
  have h : (qlF lo lo' fun lo => Bool.rec (motive := fun _ => R) (qAH dst v k call n ((spL args).run e) H' lo) (some (.pan v, ⟨(spL args).run e, H', lo⟩)) pan) = some z := h
  rw [qiY, qxw] at h
  have he : qd call (.call (.f i) args) ⟨e, H, lo⟩ = some ⟨pan, same, v, ⟨spentAll args e, H', min lo lo'⟩⟩ := by
    simp only [qd, yj, rd, List.nil_append, List.append_nil, h1, if_true, hr]
  rw [he]
  cases pan with
  | false => exact qrr h
  | true =>
    have h : some (Ex.pan v, (⟨spentAll args e, H', min lo lo'⟩ : St)) = some z := h
    cases h
    exact ⟨_, rfl, .inr ⟨rfl, rfl⟩⟩
noncomputable def qri {β γ : Type} (l m : List β) (κ : List β → γ) : γ := List.rec (motive := fun _ => (List β → γ) → γ) (fun κ => κ m) (fun x _ ih κ => ih fun t => κ (x :: t)) l κ
theorem qoy {β γ : Type} (l m : List β) (κ : List β → γ) : qri l m κ = κ (l ++ m) := by
  induction l generalizing κ with
  | nil => rfl
  | cons x l ih => exact ih fun t => κ (x :: t)
noncomputable def qu4 (d : Nat) (l : L) (bytes : Nat) (x y : O) (g k : K) : KF := fun call n e H lo =>
  match frd e x with
  | .row id sz len => match fnth H id with
    | some (.row l' cs) => match qof l (frd e y) with
      | some ys => Bool.rec (motive := fun _ => R) none (kI (fun v k => kQ v k) (qan ys) fun new => qri cs new fun cs => qjt .dead H id fun H2 => qri H2 [.row l' cs] fun H3 => qq (jF H) fun m => qq (Nat.add len (jF ys)) fun len2 => qlF lo id fun lo => k.run call n ((d, .row m sz len2) :: e) H3 lo)
          (qCy sz l.n && (qCy (jF cs) (len * sz) && (kr l.n ys && roomy bytes (len + jF ys))))
      | none => none
    | _ => g.run call n e H lo
  | _ => g.run call n e H lo
theorem qrn {d : Nat} {l : L} {bytes : Nat} {x y : O} {g k : K} (hg : qY g.run (.appendR l bytes x y) (some d) k) : qY (qu4 d l bytes x y g k) (.appendR l bytes x y) (some d) k := by
  intro call n e H lo z h
  unfold qu4 at h
  rw [yK] at h
  split at h
  · rename_i id sz len hx
    rw [zN] at h
    split at h
    · rename_i l' cs hob
      rw [yK] at h
      split at h
      · rename_i ys hys
        rw [kD cs, kD ys, kD H] at h
        cases hb : (qCy sz l.n && (qCy cs.length (len * sz) && (kr l.n ys && roomy bytes (len + ys.length)))) with
        | false => rw [hb] at h; cases h
        | true =>
          rw [hb] at h
          have h : (kI (fun v k => kQ v k) (qan ys) fun new => qri cs new fun cs => qjt .dead H id fun H2 => qri H2 [.row l' cs] fun H3 => qq H.length fun m => qq (Nat.add len ys.length) fun len2 => qlF lo id fun lo => k.run call n ((d, .row m sz len2) :: e) H3 lo) = some z := h
          rw [qH kn, qoy] at h
          have h := qbR h
          rw [qoy, qX, qX, qiY] at h
          have he : qd call (.appendR l bytes x y) ⟨e, H, lo⟩ = some ⟨false, false, .row H.length sz (len + ys.length), ⟨e, kl H id .dead ++ [.row l' (cs ++ qan ys)], min lo id⟩⟩ := by
            simp only [qd, yT, hys, hx, hob, hb, cond_true]
            rfl
          rw [he]
          exact qo rfl h
      · cases h
    · exact hg h
  · exact hg h
noncomputable def fTk {β γ : Type} (l : List β) : Nat → (List β → γ) → γ := List.rec (motive := fun _ => Nat → (List β → γ) → γ) (fun _ κ => κ []) (fun x _ ih n κ => Nat.rec (motive := fun _ => γ) (κ []) (fun m _ => ih m fun t => κ (x :: t)) n) l
theorem qut {β γ : Type} : ∀ (l : List β) (n : Nat) (κ : List β → γ), fTk l n κ = κ (l.take n)
  | [], n, κ => by simp [fTk]
  | x :: l, 0, κ => rfl
  | x :: l, n + 1, κ => by
    show fTk l n (fun t => κ (x :: t)) = _
    rw [qut]; rfl
theorem qvB {a b : Int} (h : leI a b = true) : a ≤ b := by
  cases a <;> cases b <;> simp only [leI] at h
  · have := Nat.le_of_ble_eq_true h
    simp only [Int.ofNat_eq_natCast]; omega
  · cases h
  · simp only [Int.ofNat_eq_natCast, Int.negSucc_eq]; omega
  · have := Nat.le_of_ble_eq_true h
    simp only [Int.negSucc_eq]; omega
noncomputable def qx9 (d : Nat) (x hi : O) (g k : K) : KF := fun call n e H lo =>
  match frd e x, frd e hi with
  | .row id sz len, .d (.i _ h) => match fnth H id with
    | some (.row l cs) => Bool.rec (motive := fun _ => R) none (fTk cs (h.toNat * sz) fun cs => qjt .dead H id fun H2 => qri H2 [.row l cs] fun H3 => qq (jF H) fun m => qq h.toNat fun hn => qlF lo id fun lo => k.run call n ((d, .row m sz hn) :: e) H3 lo)
        (leI 0 h && (leI h len && qCy (jF cs) (len * sz)))
    | _ => g.run call n e H lo
  | _, _ => g.run call n e H lo
theorem qtW {d : Nat} {x hi : O} {g k : K} (hg : qY g.run (.truncR x hi) (some d) k) : qY (qx9 d x hi g k) (.truncR x hi) (some d) k := by
  intro call n e H lo z h
  unfold qx9 at h
  rw [yK, yK] at h
  split at h
  · rename_i id sz len kk hh hx hhi
    rw [zN] at h
    split at h
    · rename_i l cs hob
      rw [kD cs, kD H] at h
      cases hb : (leI 0 hh && (leI hh len && qCy cs.length (len * sz))) with
      | false => rw [hb] at h; cases h
      | true =>
        rw [hb] at h
        have h : (fTk cs (hh.toNat * sz) fun cs => qjt .dead H id fun H2 => qri H2 [.row l cs] fun H3 => qq H.length fun m => qq hh.toNat fun hn => qlF lo id fun lo => k.run call n ((d, .row m sz hn) :: e) H3 lo) = some z := h
        rw [qut] at h
        have h := qbR h
        rw [qoy, qX, qX, qiY] at h
        simp only [qCz] at hb
        have hc : 0 ≤ hh ∧ hh ≤ (len : Int) ∧ cs.length = len * sz := ⟨qvB hb.1, qvB hb.2.1, qCD hb.2.2⟩
        have he : qd call (.truncR x hi) ⟨e, H, lo⟩ = some ⟨false, false, .row H.length sz hh.toNat, ⟨e, kl H id .dead ++ [.row l (cs.take (hh.toNat * sz))], min lo id⟩⟩ := by
          simp only [qd, qbZ, hx, hhi, hob, hc, and_self, if_true]
          rfl
        rw [he]
        exact qo rfl h
    · exact hg h
  · exact hg h
noncomputable def qpP (dst : Option Nat) (op : OpK) (k : K) : K :=
  match dst with
  | some d => match op with
    | .mov x => .mk (qyh d x k)
    | .bin op kd x y => qym d op kd x y k
    | .load false sl l a => .mk (qxh d sl l a (gK (some d) (.load false sl l a) k) k)
    | .loadC l a => .mk (qqB d l a k)
    | .nilCheck a => .mk (qzO d a (gK (some d) (.nilCheck a) k) k)
    | .fieldAddr a o l => .mk (qyN d a o l (gK (some d) (.fieldAddr a o l) k) k)
    | .indexAddr x i size none => .mk (qzR d x i size (gK (some d) (.indexAddr x i size none) k) k)
    | .index x i => .mk (qzJ d x i k)
    | .extract (.t m) i => .mk (qAv d m i k)
    | .bi .lenS [x] => .mk (qvA d x k)
    | .bi .lenL [x] => .mk (qus d x (gK (some d) (.bi .lenL [x]) k) k)
    | .bi (.append size bytes) [x, y] => .mk (qz1 d size bytes x y (gK (some d) (.bi (.append size bytes) [x, y]) k) k)
    | .un .not x => .mk (qx7 d x k)
    | .alloc false zero => .mk (qyU d zero k)
    | .mkMap => .mk (qyE d k)
    | .lookup kk zero m q c => .mk (qup d kk zero m q c (gK (some d) (.lookup kk zero m q c) k) k)
    | .buildSlice zero 1 [(0, x)] => .mk (qyn d zero x (gK (some d) (.buildSlice zero 1 [(0, x)]) k) k)
    | .call (.f i) args => .mk (qwx (some d) i args k)
    | .appendR l b x y => .mk (qu4 d l b x y (gK (some d) (.appendR l b x y) k) k)
    | .truncR x hi => .mk (qx9 d x hi (gK (some d) (.truncR x hi) k) k)
    | op => gK (some d) op k
  | none => match op with
    | .store sl ⟨1, false⟩ a x => .mk (qAR sl a x (gK none (.store sl ⟨1, false⟩ a x) k) k)
    | .mapUpdate kk m q x => .mk (qz7 kk m q x k)
    | .call (.f i) args => .mk (qwx none i args k)
    | op => gK none op k
theorem qsS {dst : Option Nat} {op : OpK} {k : K} : qY (qpP dst op k).run op dst k := by
  unfold qpP
  split
  · split
    · exact qsU
    · exact qtO
    · exact qrB kf
    · exact qqp
    · exact qsG kf
    · exact qs9 kf
    · exact qtw kf
    · exact qsF
    · exact qtJ
    · exact qrp
    · exact qru kf
    · exact qsJ kf
    · exact qs2
    · exact qtq
    · exact qtu
    · exact qrf kf
    · exact qth kf
    · exact qnM
    · exact qrn kf
    · exact qtW kf
    · exact kf
  · split
    · exact qtp kf
    · exact qtH
    · exact qnM
    · exact kf
theorem qqO {dst : Option Nat} {op : OpK} {k : K} {call : Call} {n : Nat} {e : Env} {H : List Obj} {lo : Nat} {z : Ex × St} (h : (qpP dst op k).run call n e H lo = some z) : qnN (qd call op ⟨e, H, lo⟩) dst k call n z := qsS h
noncomputable def vG (v : V) : Option (Option Bool) := V.rec (motive_1 := fun _ => Option (Option Bool)) (motive_2 := fun _ => Option (Option Bool)) (fun x => D.rec (motive_1 := fun _ => Option (Option Bool)) (motive_2 := fun _ => Option (Option Bool)) (fun y => some (some y)) (fun _ _ => none) (fun _ => none) none (fun _ _ => none) (fun _ _ => none) none none none none none (fun _ _ _ _ => none) x) (fun _ => none) (fun _ => none) (fun _ _ => none) (fun _ _ => none) (fun _ _ => none) (fun _ => none) (fun _ _ _ _ => none) (fun _ _ _ => none) (fun _ => none) (fun _ _ _ _ _ => none) (fun _ _ _ => none) (fun _ _ => none) (fun vs _ => List.rec (motive := fun _ => Option (Option Bool)) (some none) (fun _ _ _ => none) vs) none none (fun _ _ _ _ => none) v
theorem qBz (m : Nat) (w : Bool) (e : Env) : wanted (some (m, w)) e = Option.rec (motive := fun _ => Option Bool) none (fun r => Option.rec (motive := fun _ => Option Bool) (some false) (fun z => some (z == w)) r) (vG (fget m e)) := by
  rw [yu]
  simp only [wanted]
  cases get m e with
  | d x => cases x <;> rfl
  | tup vs => cases vs <;> rfl
  | _ => rfl
noncomputable def eqB (a b : Bool) : Bool := Bool.rec (motive := fun _ => Bool) (Bool.rec (motive := fun _ => Bool) true false b) b a
theorem qz2 (a b : Bool) : eqB a b = (a == b) := by cases a <;> cases b <;> rfl
noncomputable def qug (o : Op) (k : K) : K :=
  match o.g with
  | none => qpP o.dst o.k k
  | some (m, w) => .mk fun call n e H lo => orN (vG (fget m e)) fun r => Option.rec (motive := fun _ => R) (qkC o.dst (.tup []) k call n e H lo) (fun z => Bool.rec (motive := fun _ => R) (qkC o.dst (.tup []) k call n e H lo) ((qpP o.dst o.k k).run call n e H lo) (eqB z w)) r
noncomputable def qfe (l : List Op) (k : K) : K := List.rec (motive := fun _ => K) k (fun o _ ih => qug o ih) l
theorem qim {pg : Pg} {call : Call} (hc : qcq call (ql pg)) {n : Nat} {k : K} : ∀ (l : List Op) {e : Env} {H : List Obj} {lo : Nat} {x : Ex × St}, (qfe l k).run call n e H lo = some x → qvc pg (qp (ql pg) l ⟨e, H, lo⟩) k call n x
  | [], e, H, lo, x, h => .inl ⟨⟨e, H, lo⟩, rfl, h⟩
  | o :: l, e, H, lo, x, h => by
    have h : (qug o (qfe l k)).run call n e H lo = some x := h
    have key : wanted o.g e = some true → (qpP o.dst o.k (qfe l k)).run call n e H lo = some x → qvc pg (qp (ql pg) (o :: l) ⟨e, H, lo⟩) k call n x := by
      intro hw h
      obtain ⟨q, hq, hq2⟩ := qqO h
      have hq' := qib hc hq
      simp only [qp, hw, hq']
      rcases hq2 with ⟨hp, st, hst, hrun⟩ | ⟨hp, rfl⟩
      · rw [hp, hst]
        exact qim hc l hrun
      · rw [hp]
        exact .inr ⟨rfl, by simp⟩
    have skip : wanted o.g e = some false → qkC o.dst (.tup []) (qfe l k) call n e H lo = some x → qvc pg (qp (ql pg) (o :: l) ⟨e, H, lo⟩) k call n x := by
      intro hw' h
      obtain ⟨q, hq, hq2⟩ := qjT (same := true) h
      cases hq
      rcases hq2 with ⟨_, st, hst, hrun⟩ | ⟨hp, _⟩
      · simp only [qp, hw']
        rw [hst]
        exact qim hc l hrun
      · cases hp
    unfold qug at h
    split at h
    · rename_i hg
      exact key (by rw [hg]; rfl) h
    · rename_i m w hg
      have h : (orN (vG (fget m e)) fun r => Option.rec (motive := fun _ => R) (qkC o.dst (.tup []) (qfe l k) call n e H lo) (fun z => Bool.rec (motive := fun _ => R) (qkC o.dst (.tup []) (qfe l k) call n e H lo) ((qpP o.dst o.k (qfe l k)).run call n e H lo) (eqB z w)) r) = some x := h
      obtain ⟨r, hr, h⟩ := zw h
      have hw := qBz m w e
      rw [hr] at hw
      rw [← hg] at hw
      cases r with
      | none => exact skip hw h
      | some z =>
        have hw : wanted o.g e = some (z == w) := hw
        rw [← qz2] at hw
        have h : Bool.rec (motive := fun _ => R) (qkC o.dst (.tup []) (qfe l k) call n e H lo) ((qpP o.dst o.k (qfe l k)).run call n e H lo) (eqB z w) = some x := h
        cases hb : eqB z w with
        | false => rw [hb] at h hw; exact skip hw h
        | true => rw [hb] at h hw; exact key hw h
noncomputable def qez : K := .mk fun _ _ e H lo => some (.nrm, ⟨e, H, lo⟩)
noncomputable def frest (live : List Nat) (e : Env) (κ : Env → R) : R :=
  List.rec (motive := fun _ => (Env → R) → R) (fun κ => κ []) (fun n _ ih κ => quU (fget n e) fun v => ih fun r => κ ((n, v) :: r)) live κ
theorem qko (live : List Nat) (e : Env) (κ : Env → R) : frest live e κ = κ (restrict live e) := by
  induction live generalizing κ with
  | nil => rfl
  | cons n l ih =>
    show quU (fget n e) (fun v => frest l e fun r => κ ((n, v) :: r)) = _
    rw [quP, ih, yu]
    rfl
noncomputable def onX (r : R) (fn : Env → List Obj → Nat → R) (fx : Nat → Env → List Obj → Nat → R) : R :=
  Option.rec (motive := fun _ => R) none (fun p => Prod.rec (motive := fun _ => R) (fun ex st => St.rec (motive := fun _ => R) (fun e H lo => Ex.rec (motive := fun _ => R) (fn e H lo) (fun j => fx j e H lo) (some (.ret, ⟨e, H, lo⟩)) (fun v => some (.pan v, ⟨e, H, lo⟩)) ex) st) p) r
noncomputable def qxn (id : Nat) (live : List Nat) (k : K) (call : Call) (n : Nat) (r : R) : R :=
  onX r (fun e H lo => frest live e fun e => k.run call n e H lo) fun j e H lo => Bool.rec (motive := fun _ => R) (some (.exit j, ⟨e, H, lo⟩)) (frest live e fun e => k.run call n e H lo) (qCy j id)
noncomputable def qsm (live : List Nat) (a : K) (call : Call) (n : Nat) : Env → List Obj → Nat → R :=
  Nat.rec (motive := fun _ => Env → List Obj → Nat → R) (fun _ _ _ => none) (fun m ih e H lo => frest live e fun e => onX (a.run call m e H lo) ih fun j e H lo => some (.exit j, ⟨e, H, lo⟩)) n
noncomputable def qjL (c : C) : K → K :=
  C.rec (motive := fun _ => K → K) (fun k => k) (fun l k => qfe l k) (fun l k => .mk fun call n e H lo => match qu call l ⟨e, H, lo⟩ with
      | some (.nrm, ⟨e, H, lo⟩) => kI (fun p k => kQ p.2 fun v => k (p.1, v)) e fun e => qoi H fun H => k.run call n e H lo
      | r => r)
    (fun _ _ da db k => da (db k)) (fun o _ _ da db k => .mk fun call n e H lo => asB ((kW o).run e) ((da k).run call n e H lo) ((db k).run call n e H lo))
    (fun id live _ da k => .mk fun call n e H lo => qxn id live k call n ((da qez).run call n e H lo))
    (fun live _ da _ => .mk fun call n e H lo => qsm live (da qez) call n e H lo)
    (fun id _ => .mk fun _ _ e H lo => some (.exit id, ⟨e, H, lo⟩)) (fun _ => .mk fun _ _ e H lo => some (.ret, ⟨e, H, lo⟩)) (fun _ => .mk fun _ _ _ _ _ => none)
    (fun k l f p0 p1 live _ _ da db kk => .mk fun call n e H lo => match frd e f with
      | .fn k' [] [c] => Bool.rec (motive := fun _ => R) none (match qat c H lo with
        | some m => kI (fun p k => kQ p.2 fun v => k (p.1, v)) (jy live e) fun base => qq m fun m => match rounds (fun st => (da qez).run call n st.env st.H st.lo) (fun st => (db qez).run call n st.env st.H st.lo) l c p0 p1 base m H lo with
          | some (.nrm, ⟨e, H, lo⟩) => kk.run call n e H lo
          | r => r
        | none => none) (qCy k' k && c.ok)
      | _ => none)
    (fun k f live kk => .mk fun call n e H lo => match frd e f with
      | .fn k' [] cap => Bool.rec (motive := fun _ => R) none (match call k (.undef :: cap) H with
        | some r => Bool.rec (motive := fun _ => R) (frest live e fun e => qmv r.H fun H => qq (min lo r.lo) fun lo => kk.run call n e H lo) none r.pan
        | none => none) (qCy k' k && V.ok.oks cap)
      | _ => none) c
theorem qkQ {pg : Pg} {r : R} {call : Call} {n : Nat} {x : Ex × St} (h : qvc pg r qez call n x) : r = some x := by
  rcases h with ⟨s, h1, h2⟩ | ⟨h1, _⟩
  · have h2 : some (Ex.nrm, (⟨s.env, s.H, s.lo⟩ : St)) = some x := h2
    cases h2
    exact h1
  · exact h1
theorem qtx {pg : Pg} {live : List Nat} {a : C} {st : St} : exL pg (.loop live a) st = (match exL pg a { st with env := restrict live st.env } with | some (.nrm, st') => exL pg (.loop live a) st' | r => r) := by rw [z9]; rfl
theorem qmD {pg : Pg} {live : List Nat} {a : C} {da : K} {call : Call} (ih : ∀ (n : Nat) (e : Env) (H : List Obj) (lo : Nat) (x : Ex × St), da.run call n e H lo = some x → exL pg a ⟨e, H, lo⟩ = some x) :
    ∀ (n : Nat) {e : Env} {H : List Obj} {lo : Nat} {x : Ex × St}, qsm live da call n e H lo = some x → exL pg (.loop live a) ⟨e, H, lo⟩ = some x ∧ x.1 ≠ .nrm
  | 0, e, H, lo, x, h => by cases h
  | n + 1, e, H, lo, x, h => by
    have h : (frest live e fun e => onX (da.run call n e H lo) (qsm live da call n) fun j e H lo => some (.exit j, ⟨e, H, lo⟩)) = some x := h
    rw [qko] at h
    rw [qtx]
    cases hq : da.run call n (restrict live e) H lo with
    | none => rw [hq] at h; cases h
    | some y =>
      have hy := ih n _ _ _ _ hq
      obtain ⟨ex, st⟩ := y
      rw [hq] at h
      show (match exL pg a ⟨restrict live e, H, lo⟩ with | some (.nrm, st') => exL pg (.loop live a) st' | r => r) = some x ∧ _
      rw [hy]
      cases ex with
      | nrm => exact qmD ih n h
      | exit id => cases h; exact ⟨rfl, by simp⟩
      | ret => cases h; exact ⟨rfl, by simp⟩
      | pan v => cases h; exact ⟨rfl, by simp⟩
theorem jD {pg : Pg} {call : Call} (hc : qcq call (ql pg)) : ∀ (c : C) (k : K) (n : Nat) (e : Env) (H : List Obj) (lo : Nat) (x : Ex × St), (qjL c k).run call n e H lo = some x → qvc pg (exL pg c ⟨e, H, lo⟩) k call n x
  | .skip, k, n, e, H, lo, x, h => .inl ⟨⟨e, H, lo⟩, by rw [z9]; rfl, h⟩
  | .ops l, k, n, e, H, lo, x, h => by
    have := qim hc l h
    rwa [show exL pg (.ops l) ⟨e, H, lo⟩ = qp (ql pg) l ⟨e, H, lo⟩ by rw [z9]; rfl]
  | .opsD l, k, n, e, H, lo, x, h => by
    have h : (match qu call l ⟨e, H, lo⟩ with
      | some (.nrm, ⟨e, H, lo⟩) => kI (fun p k => kQ p.2 fun v => k (p.1, v)) e fun e => qoi H fun H => k.run call n e H lo
      | r => r) = some x := h
    rw [show exL pg (.opsD l) ⟨e, H, lo⟩ = qu (ql pg) l ⟨e, H, lo⟩ by rw [z9]; rfl]
    cases hq : qu call l ⟨e, H, lo⟩ with
    | none => rw [hq] at h; cases h
    | some y =>
      rw [qdZ hc l hq]
      rw [hq] at h
      obtain ⟨ex, e', H', lo'⟩ := y
      cases ex with
      | nrm =>
        have h : (kI (fun (p : Nat × V) k => kQ p.2 fun v => k (p.1, v)) e' fun e => qoi H' fun H => k.run call n e H lo') = some x := h
        rw [qH (fun p k => kn p.2 fun v => k (p.1, v)), qtC] at h
        exact .inl ⟨_, rfl, h⟩
      | exit id => cases h; exact .inr ⟨rfl, by simp⟩
      | ret => cases h; exact .inr ⟨rfl, by simp⟩
      | pan v => cases h; exact .inr ⟨rfl, by simp⟩
  | .seq a b, k, n, e, H, lo, x, h => by
    have ha := jD hc a (qjL b k) n e H lo x h
    rw [show exL pg (.seq a b) ⟨e, H, lo⟩ = (match exL pg a ⟨e, H, lo⟩ with | some (.nrm, st') => exL pg b st' | r => r) by rw [z9]; rfl]
    rcases ha with ⟨s, h1, h2⟩ | ⟨h1, h2⟩
    · rw [h1]
      exact jD hc b k n s.env s.H s.lo x h2
    · rw [h1]
      obtain ⟨ex, st⟩ := x
      cases ex with
      | nrm => exact absurd rfl h2
      | _ => exact .inr ⟨rfl, h2⟩
  | .cond o a b, k, n, e, H, lo, x, h => by
    have h : asB ((kW o).run e) ((qjL a k).run call n e H lo) ((qjL b k).run call n e H lo) = some x := h
    rw [show exL pg (.cond o a b) ⟨e, H, lo⟩ = (match rd e o with | .d (.b true) => exL pg a ⟨e, H, lo⟩ | .d (.b false) => exL pg b ⟨e, H, lo⟩ | _ => none) by rw [z9]; rfl]
    rcases qpE h with ⟨hx, h⟩ | ⟨hx, h⟩
    · have hx' : rd e o = .d (.b true) := (kM (by rw [hx]; trivial)).trans hx
      rw [hx']; exact jD hc a k n e H lo x h
    · have hx' : rd e o = .d (.b false) := (kM (by rw [hx]; trivial)).trans hx
      rw [hx']; exact jD hc b k n e H lo x h
  | .block id live a, k, n, e, H, lo, x, h => by
    have h : qxn id live k call n ((qjL a qez).run call n e H lo) = some x := h
    rw [show exL pg (.block id live a) ⟨e, H, lo⟩ = (match exL pg a ⟨e, H, lo⟩ with
      | some (.nrm, st') => some (.nrm, { st' with env := restrict live st'.env })
      | some (.exit j, st') => bif qCy j id then some (.nrm, { st' with env := restrict live st'.env }) else some (.exit j, st')
      | r => r) by rw [z9]; rfl]
    cases hq : (qjL a qez).run call n e H lo with
    | none => rw [hq] at h; cases h
    | some y =>
      have hy := qkQ (jD hc a qez n e H lo y hq)
      rw [hq] at h
      rw [hy]
      obtain ⟨ex, e', H', lo'⟩ := y
      cases ex with
      | nrm =>
        have h : (frest live e' fun e => k.run call n e H' lo') = some x := h
        rw [qko] at h
        exact .inl ⟨_, rfl, h⟩
      | exit j =>
        have h : Bool.rec (motive := fun _ => R) (some (.exit j, ⟨e', H', lo'⟩)) (frest live e' fun e => k.run call n e H' lo') (qCy j id) = some x := h
        cases hb : qCy j id with
        | true =>
          rw [hb] at h
          have h : (frest live e' fun e => k.run call n e H' lo') = some x := h
          rw [qko] at h
          exact .inl ⟨⟨restrict live e', H', lo'⟩, by simp only [hb, cond_true], h⟩
        | false =>
          rw [hb] at h
          have h : some (Ex.exit j, (⟨e', H', lo'⟩ : St)) = some x := h
          cases h
          exact .inr ⟨by simp only [hb, cond_false], by simp⟩
      | ret => cases h; exact .inr ⟨rfl, by simp⟩
      | pan v => cases h; exact .inr ⟨rfl, by simp⟩
  | .loop live a, k, n, e, H, lo, x, h => by
    have h : qsm live (qjL a qez) call n e H lo = some x := h
    exact .inr (qmD (fun n e H lo x h => qkQ (jD hc a qez n e H lo x h)) n h)
  | .exit id, k, n, e, H, lo, x, h => by
    have h : some (Ex.exit id, (⟨e, H, lo⟩ : St)) = some x := h
    cases h
    exact .inr ⟨by rw [z9]; rfl, by simp⟩
  | .ret, k, n, e, H, lo, x, h => by
    have h : some (Ex.ret, (⟨e, H, lo⟩ : St)) = some x := h
    cases h
    exact .inr ⟨by rw [z9]; rfl, by simp⟩
  | .stuck, k, n, e, H, lo, x, h => by
    have h : none = some x := h
    cases h
  | .rangeB k l f p0 p1 live a b, kk, n, e, H, lo, x, h => by
    have h : (match frd e f with
      | .fn k' [] [c] => Bool.rec (motive := fun _ => R) none (match qat c H lo with
        | some m => kI (fun (p : Nat × V) k => kQ p.2 fun v => k (p.1, v)) (jy live e) fun base => qq m fun m => match rounds (fun st => (qjL a qez).run call n st.env st.H st.lo) (fun st => (qjL b qez).run call n st.env st.H st.lo) l c p0 p1 base m H lo with
          | some (.nrm, ⟨e, H, lo⟩) => kk.run call n e H lo
          | r => r
        | none => none) (qCy k' k && c.ok)
      | _ => none) = some x := h
    rw [yK] at h
    rw [show exL pg (.rangeB k l f p0 p1 live a b) ⟨e, H, lo⟩ = (match rd e f with
      | .fn k' [] [c] => bif qCy k' k && c.ok then (match qat c H lo with
        | some n => rounds (exL pg a) (exL pg b) l c p0 p1 (jy live e) n H lo
        | none => none) else none
      | _ => none) by rw [z9]; rfl]
    split at h
    · rename_i k' c hf
      (try simp only [hf])
      cases hb : (qCy k' k && c.ok) with
      | false => rw [hb] at h; cases h
      | true =>
        rw [hb] at h
        (try simp only [cond_true, hb])
        split at h
        · rename_i m hm
          (try simp only [hm])
          rw [qH (fun p k => kn p.2 fun v => k (p.1, v)), qX] at h
          have le : ∀ y, rounds (fun st => (qjL a qez).run call n st.env st.H st.lo) (fun st => (qjL b qez).run call n st.env st.H st.lo) l c p0 p1 (jy live e) m H lo = some y → rounds (exL pg a) (exL pg b) l c p0 p1 (jy live e) m H lo = some y := fun y hy =>
            qiU (fun st z hz => qkQ (jD hc a qez n st.env st.H st.lo z hz)) (fun st z hz => qkQ (jD hc b qez n st.env st.H st.lo z hz)) m hy
          cases hq : rounds (fun st => (qjL a qez).run call n st.env st.H st.lo) (fun st => (qjL b qez).run call n st.env st.H st.lo) l c p0 p1 (jy live e) m H lo with
          | none => rw [hq] at h; cases h
          | some y =>
            rw [hq] at h
            rw [le y hq]
            obtain ⟨ex, e', H', lo'⟩ := y
            cases ex with
            | nrm => exact .inl ⟨_, rfl, h⟩
            | exit id => cases h; exact .inr ⟨rfl, by simp⟩
            | ret => cases h; exact .inr ⟨rfl, by simp⟩
            | pan v => cases h; exact .inr ⟨rfl, by simp⟩
        · cases h
    · cases h
  | .rangeZ k f live, kk, n, e, H, lo, x, h => by
    have h : (match frd e f with
      | .fn k' [] cap => Bool.rec (motive := fun _ => R) none (match call k (.undef :: cap) H with
        | some r => Bool.rec (motive := fun _ => R) (frest live e fun e => qmv r.H fun H => qq (min lo r.lo) fun lo => kk.run call n e H lo) none r.pan
        | none => none) (qCy k' k && V.ok.oks cap)
      | _ => none) = some x := h
    rw [yK] at h
    split at h
    · rename_i k' cap hf
      cases hb : (qCy k' k && V.ok.oks cap) with
      | false => rw [hb] at h; cases h
      | true =>
        rw [hb] at h
        split at h
        · rename_i r hr
          cases hp : r.pan with
          | true => rw [hp] at h; cases h
          | false =>
            rw [hp] at h
            have h : (frest live e fun e => qmv r.H fun H => qq (min lo r.lo) fun lo => kk.run call n e H lo) = some x := h
            rw [qko, qnR, qX] at h
            refine .inl ⟨⟨restrict live e, r.H, min lo r.lo⟩, ?_, h⟩
            rw [z9]
            have hr' := hc _ _ _ _ hr
            show step _ _ _ _ = _
            simp only [step, hf, hb, cond_true, hr', hp, cond_false]
        · cases h
    · cases h
noncomputable def qvC (own : Bool) (v : V) (κ : V → Option Cr) : Option Cr := V.rec (motive_1 := fun _ => Option Cr) (motive_2 := fun _ => Option Cr) (fun x => κ (.d x)) (fun xs => Bool.rec (motive := fun _ => Option Cr) (κ (.d (.sl xs))) (κ (.osl xs)) own) (fun xs => κ (.fsl xs)) (fun a b => κ (.ptr a b)) (fun a b => κ (.lp a b)) (fun _ _ => none) (fun x => κ (.cp x)) (fun a b c d => κ (.rs a b c d)) (fun a b c => κ (.row a b c)) (fun a => κ (.map a)) (fun f a b _ _ => κ (.fn f a b)) (fun t x _ => κ (.ifc t x)) (fun cs _ => Bool.rec (motive := fun _ => Option Cr) (qcx (qfm (cs.map z4)) κ) (κ (.agg cs)) own) (fun vs _ => κ (.tup vs)) (κ .undef) none (fun _ _ _ _ => none) v
theorem qwA (own : Bool) (v : V) (κ : V → Option Cr) : qvC own v κ = (match (match v with | .box _ => none | v => some (bif own then v else copy v)) with | some v => κ v | none => none) := by
  cases v with
  | agg cs => cases own with
    | true => rfl
    | false => exact qbP _ _
  | _ => cases own <;> rfl
inductive KX where
  | mk (f : Env → List Obj → Nat → (List V → Option Cr) → Option Cr)
noncomputable def KX.run (k : KX) : Env → List Obj → Nat → (List V → Option Cr) → Option Cr := KX.rec (motive := fun _ => Env → List Obj → Nat → (List V → Option Cr) → Option Cr) (fun f => f) k
noncomputable def qBV (own : Bool) (r : Rv) (ih : KX) : KX :=
  Rv.rec (motive := fun _ => KX) (fun n => .mk fun e H lo κ => qvC own (fget n e) fun v => ih.run e H lo fun vs => κ (v :: vs))
    (fun n l => .mk fun e H lo κ => match qaS own ⟨e, H, lo⟩ (.cell n l) with | some v => qcx v fun v => ih.run e H lo fun vs => κ (v :: vs) | none => none) r
noncomputable def qs8 (own : Bool) (l : List Rv) : KX := List.rec (motive := fun _ => KX) (.mk fun _ _ _ κ => κ []) (fun r _ ih => qBV own r ih) l
theorem qwV (own : Bool) (l : List Rv) (e : Env) (H : List Obj) (lo : Nat) (κ : List V → Option Cr) : (qs8 own l).run e H lo κ = (match qI own ⟨e, H, lo⟩ l with | some vs => κ vs | none => none) := by
  induction l generalizing κ with
  | nil => rfl
  | cons r l ih =>
    show (qBV own r (qs8 own l)).run e H lo κ = _
    simp only [qI]
    cases r with
    | t n =>
      show qvC own (fget n e) (fun v => (qs8 own l).run e H lo fun vs => κ (v :: vs)) = _
      rw [qwA, yu]
      simp only [ih, qaS]
      cases hv : get n e <;> first | rfl | (simp only []; cases qI own ⟨e, H, lo⟩ l <;> rfl)
    | cell n l' =>
      show (match qaS own ⟨e, H, lo⟩ (.cell n l') with | some v => qcx v fun v => (qs8 own l).run e H lo fun vs => κ (v :: vs) | none => none) = _
      cases qaS own ⟨e, H, lo⟩ (.cell n l') with
      | none => rfl
      | some v =>
        simp only [qbP, ih]
        cases qI own ⟨e, H, lo⟩ l <;> rfl
noncomputable def qAe (v : V) : Nat := V.rec (motive_1 := fun _ => Nat) (motive_2 := fun _ => Nat) (fun _ => 0) (fun _ => 0) (fun _ => 0) (fun a _ => Nat.succ a) (fun _ _ => 0) (fun cs _ => V.ref (.box cs)) (fun _ => 0) (fun a _ _ _ => Nat.succ a) (fun a _ _ => Nat.succ a) (fun a => Nat.succ a) (fun f a b _ _ => V.ref (.fn f a b)) (fun t x _ => V.ref (.ifc t x)) (fun cs _ => V.ref (.agg cs)) (fun vs _ => V.ref (.tup vs)) 0 0 (fun _ _ _ _ => 0) v
theorem qw8 (v : V) : qAe v = v.ref := by cases v <;> rfl
noncomputable def qBx (v : V) : Bool := V.rec (motive_1 := fun _ => Bool) (motive_2 := fun _ => Bool) (fun _ => false) (fun _ => false) (fun _ => false) (fun _ _ => false) (fun _ _ => false) (fun _ _ => false) (fun _ => false) (fun _ _ _ _ => true) (fun _ _ _ => false) (fun _ => false) (fun _ _ _ _ _ => false) (fun _ _ _ => false) (fun _ _ => false) (fun _ _ => false) false false (fun _ _ _ _ => false) v
noncomputable def qoR (H : List Obj) (v : V) (H' : List Obj) (lo : Nat) : Option Cr :=
  Bool.rec (motive := fun _ => Option Cr)
    (Bool.rec (motive := fun _ => Option Cr) none
      (Bool.rec (motive := fun _ => Option Cr) (some ⟨false, false, v, H', lo⟩) (Bool.rec (motive := fun _ => Option Cr) (some ⟨false, false, v, H', lo⟩) (some ⟨false, true, v, H, lo⟩) (Nat.ble (jF H) lo)) (Nat.ble (qAe v) (jF H))) (lvF v))
    (match leave H false v ⟨[], H', lo⟩ with | some ⟨pan, same, v, H, lo⟩ => qcx v fun v => some (Cr.mk pan same v H lo) | none => none) (qBx v)
theorem qti (H : List Obj) (pan : Bool) (v : V) (e e' : Env) (H' : List Obj) (lo : Nat) : leave H pan v ⟨e, H', lo⟩ = leave H pan v ⟨e', H', lo⟩ := rfl
theorem qsM (H : List Obj) (v : V) (e : Env) (H' : List Obj) (lo : Nat) : qoR H v H' lo = leave H false v ⟨e, H', lo⟩ := by
  unfold qoR
  cases hr : qBx v with
  | true =>
    show (match leave H false v ⟨[], H', lo⟩ with | some ⟨pan, same, v, H, lo⟩ => qcx v fun v => some (Cr.mk pan same v H lo) | none => none) = _
    rw [qti H false v [] e]
    cases leave H false v ⟨e, H', lo⟩ with
    | none => rfl
    | some r => obtain ⟨a, b, c, d, f⟩ := r; exact qbP _ _
  | false =>
    show Bool.rec (motive := fun _ => Option Cr) none (Bool.rec (motive := fun _ => Option Cr) (some ⟨false, false, v, H', lo⟩) (Bool.rec (motive := fun _ => Option Cr) (some ⟨false, false, v, H', lo⟩) (some ⟨false, true, v, H, lo⟩) (Nat.ble (jF H) lo)) (Nat.ble (qAe v) (jF H))) (lvF v) = _
    have hs : settle H.length H' v = v := by cases v <;> first | rfl | cases hr
    unfold leave
    simp only [hs, quL, qw8, kD]
    cases v.leaves with
    | false => rfl
    | true =>
      cases Nat.ble v.ref H.length with
      | false => rfl
      | true => cases Nat.ble H.length lo <;> rfl
noncomputable def qyu (vs : List V) (κ : V → Option Cr) : Option Cr := List.rec (motive := fun _ => Option Cr) (κ (.tup [])) (fun v t _ => List.rec (motive := fun _ => Option Cr) (κ v) (fun w u _ => κ (.tup (v :: w :: u))) t) vs
theorem qwj (vs : List V) (κ : V → Option Cr) : qyu vs κ = κ (qhO vs) := by
  cases vs with
  | nil => rfl
  | cons v t => cases t <;> rfl
noncomputable def qvq (fn : Fn) (H : List Obj) (st : St) : Option Cr := St.rec (motive := fun _ => Option Cr) (fun e H' lo => (qs8 fn.own fn.res).run e H' lo fun vs => qyu vs fun v => qoR H v H' lo) st
theorem qr4 (fn : Fn) (H : List Obj) (st : St) : qvq fn H st = zM fn H st := by
  obtain ⟨e, H', lo⟩ := st
  show ((qs8 fn.own fn.res).run e H' lo fun vs => qyu vs fun v => qoR H v H' lo) = _
  rw [qwV]
  unfold zM
  cases qI fn.own ⟨e, H', lo⟩ fn.res with
  | none => rfl
  | some vs => simp only [qwj]; exact qsM H _ e H' lo
noncomputable def qul (fn : Fn) : K := qjL fn.body qez
noncomputable def exJ (call : Call) (n : Nat) : C → St → Option (Ex × St) := fun c st => (qjL c qez).run call n st.env st.H st.lo
noncomputable def qwL (pg : Pg) (call : Call) (n : Nat) (H : List Obj) (fn : Fn) (r : R) : Option Cr :=
  Option.rec (motive := fun _ => Option Cr) none (fun p => Prod.rec (motive := fun _ => Option Cr) (fun ex st => Ex.rec (motive := fun _ => Option Cr)
    (Option.rec (motive := fun _ => Option Cr) (qvq fn H st) (fun q => deferred pg (exJ call n) fn H q.1 q.2 st) fn.dfr) (fun _ => none) (qvq fn H st) (fun v => leave H true v st) ex) p) r
def isNone {α : Type} : Option α → Bool
  | none => true
  | some _ => false
theorem qtg {α : Type} {o : Option α} (h : isNone o = true) : o = none := by cases o <;> first | rfl | cases h
noncomputable def qwb (vs : List V) : Nat → (Env → Option Cr) → Option Cr := List.rec (motive := fun _ => Nat → (Env → Option Cr) → Option Cr) (fun _ κ => κ []) (fun v _ ih m κ => ih (Nat.succ m) fun r => κ ((m, v) :: r)) vs
theorem qxc (vs : List V) (m : Nat) (κ : Env → Option Cr) : qwb vs m κ = κ (kh m vs) := by
  induction vs generalizing m κ with
  | nil => rfl
  | cons v vs ih => exact ih _ _
noncomputable def qfu (pg : Pg) (n : Nat) : Call :=
  Nat.rec (motive := fun _ => Call) (fun _ _ _ => none) (fun m ih f vs H => Option.rec (motive := fun _ => Option Cr) (pg.ext f vs H)
    (fun fn => Bool.rec (motive := fun _ => Option Cr) none (Bool.rec (motive := fun _ => Option Cr) none (qwb vs 0 fun e => qq (jF H) fun hl => qwL pg ih m H fn ((qul fn).run ih m e H hl)) (qCy fn.np (jF vs))) (isNone fn.rcv)) (pg.fn f)) n
theorem qzo {pg : Pg} {call : Call} (hc : qcq call (ql pg)) (n : Nat) : qoI (exJ call n) (exL pg) := fun c st x h => qkQ (jD hc c qez n st.env st.H st.lo x h)
theorem qns (pg : Pg) : ∀ n, qcq (qfu pg n) (ql pg)
  | 0 => fun i vs H r h => by cases h
  | n + 1 => fun i vs H r h => by
    have h : Option.rec (motive := fun _ => Option Cr) (pg.ext i vs H)
      (fun fn => Bool.rec (motive := fun _ => Option Cr) none (Bool.rec (motive := fun _ => Option Cr) none (qwb vs 0 fun e => qq (jF H) fun hl => qwL pg (qfu pg n) n H fn ((qul fn).run (qfu pg n) n e H hl)) (qCy fn.np (jF vs))) (isNone fn.rcv)) (pg.fn i) = some r := h
    rw [qmA]
    unfold qt
    cases hf : pg.fn i with
    | none => rw [hf] at h; exact h
    | some fn =>
      rw [hf] at h
      have h : Bool.rec (motive := fun _ => Option Cr) none (Bool.rec (motive := fun _ => Option Cr) none (qwb vs 0 fun e => qq (jF H) fun hl => qwL pg (qfu pg n) n H fn ((qul fn).run (qfu pg n) n e H hl)) (qCy fn.np (jF vs))) (isNone fn.rcv) = some r := h
      rw [qxc, qX, kD, kD] at h
      cases hb1 : isNone fn.rcv with
      | false => rw [hb1] at h; cases h
      | true =>
        rw [hb1] at h
        cases hb : qCy fn.np vs.length with
        | false => rw [hb] at h; cases h
        | true =>
          rw [hb] at h
          have h : qwL pg (qfu pg n) n H fn ((qul fn).run (qfu pg n) n (kh 0 vs) H H.length) = some r := h
          have hcond : fn.np = vs.length ∧ fn.rcv = none := ⟨qCD hb, qtg hb1⟩
          simp only [if_pos hcond]
          cases hq : (qul fn).run (qfu pg n) n (kh 0 vs) H H.length with
          | none => rw [hq] at h; cases h
          | some y =>
            have hy := qkQ (jD (qns pg n) fn.body qez n _ _ _ _ hq)
            rw [hq] at h
            rw [hy]
            obtain ⟨ex, st⟩ := y
            cases ex with
            | nrm =>
              have h : Option.rec (motive := fun _ => Option Cr) (qvq fn H st) (fun q => deferred pg (exJ (qfu pg n) n) fn H q.1 q.2 st) fn.dfr = some r := h
              show (match fn.dfr with
                | none => zM fn H st
                | some (t, rest) => deferred pg (exL pg) fn H t rest st) = some r
              cases hd : fn.dfr with
              | none => rw [hd, qr4] at h; exact h
              | some q =>
                obtain ⟨t, rest⟩ := q
                rw [hd] at h
                exact qh1 (qzo (qns pg n) n) h
            | exit id => cases h
            | ret =>
              have h : qvq fn H st = some r := h
              rw [qr4] at h; exact h
            | pan v => exact h
theorem qnJ {pg : Pg} {n f : Nat} {vs : List V} {H : List Obj} {r : Cr} (h : qfu pg n f vs H = some r) : ql pg f vs H = some r := qns pg n _ _ _ _ h
end W

/-
  What the kernel works out of a call on closed data, as a fact about the call.
-/
set_option linter.unusedSimpArgs false
set_option linter.unusedVariables false
namespace W
open Go (IntKind BinOp UnOp)
mutual
def eqD : D → D → Bool
  | .b x, .b y => x == y
  | .i k x, .i k' y => eqK k k' && eqI x y
  | .s x, .s y => eqT x y
  | .nil, .nil => true
  | .sl x, .sl y => qqU x y
  | .agg x, .agg y => qqU x y
  | .np, .np => true
  | .nf, .nf => true
  | .ni, .ni => true
  | .nm, .nm => true
  | _, _ => false
def qqU : List D → List D → Bool
  | [], [] => true
  | x :: l, y :: r => eqD x y && qqU l r
  | _, _ => false
end
theorem qxB {k k' : IntKind} (h : eqK k k' = true) : k = k' := by cases k <;> cases k' <;> first | rfl | cases h
theorem qyd {x y : Int} (h : eqI x y = true) : x = y := by
  cases x <;> cases y <;> first | (have := qCD h; subst this; rfl) | cases h
theorem qvW : ∀ {x y : List Nat}, eqT x y = true → x = y
  | [], [], _ => rfl
  | a :: x, b :: y, h => by
    simp only [eqT, qCz] at h
    rw [qCD h.1, qvW h.2]
  | [], _ :: _, h => by cases h
  | _ :: _, [], h => by cases h
mutual
theorem qrv : ∀ {x y : D}, eqD x y = true → x = y
  | .b x, y, h => by cases y <;> simp only [eqD] at h <;> first | cases h | skip; rw [eq_of_beq h]
  | .i k x, y, h => by
    cases y <;> simp only [eqD] at h <;> first | cases h | skip
    simp only [qCz] at h
    rw [qxB h.1, qyd h.2]
  | .s x, y, h => by cases y <;> simp only [eqD] at h <;> first | cases h | skip; rw [qvW h]
  | .nil, y, h => by cases y <;> simp only [eqD] at h <;> first | rfl | (cases h; done) | (cases h; rfl)
  | .sl x, y, h => by cases y <;> simp only [eqD] at h <;> first | cases h | skip; rw [qox h]
  | .agg x, y, h => by cases y <;> simp only [eqD] at h <;> first | cases h | skip; rw [qox h]
  | .np, y, h => by cases y <;> simp only [eqD] at h <;> first | rfl | (cases h; done) | (cases h; rfl)
  | .nf, y, h => by cases y <;> simp only [eqD] at h <;> first | rfl | (cases h; done) | (cases h; rfl)
  | .ni, y, h => by cases y <;> simp only [eqD] at h <;> first | rfl | (cases h; done) | (cases h; rfl)
  | .nm, y, h => by cases y <;> simp only [eqD] at h <;> first | rfl | (cases h; done) | (cases h; rfl)
theorem qox : ∀ {x y : List D}, qqU x y = true → x = y
  | [], [], _ => rfl
  | a :: x, b :: y, h => by
    simp only [qqU, qCz] at h
    rw [qrv h.1, qox h.2]
  | [], _ :: _, h => by simp [qqU] at h
  | _ :: _, [], h => by simp [qqU] at h
end
def qqE : List V → List D → Bool
  | [], [] => true
  | .d x :: l, y :: r => eqD x y && qqE l r
  | _, _ => false
theorem qoe : ∀ {l : List V} {r : List D}, qqE l r = true → l = r.map .d
  | [], [], _ => rfl
  | v :: l, y :: r, h => by
    cases v with
    | d x =>
      simp only [qqE, qCz] at h
      rw [qrv h.1, qoe h.2]; rfl
    | _ => cases h
  | [], _ :: _, h => by simp [qqE] at h
  | v :: _, [], h => by cases v <;> simp [qqE] at h
def isD (r : Option Cr) (x : D) : Bool := match r with
  | some ⟨false, true, .d y, _, _⟩ => eqD y x
  | _ => false
def qvh (r : Option Cr) (x : List D) : Bool := match r with
  | some ⟨false, true, .tup y, _, _⟩ => qqE y x
  | _ => false
theorem qoc {pg : Pg} (hx : qG pg.ext) {f : Nat} {vs : List V} {H H' : List Obj} {v : V} {lo : Nat} (h : ql pg f vs H = some ⟨false, true, v, H', lo⟩) : ql pg f vs H = some ⟨false, true, v, H, lo⟩ := by
  obtain ⟨n, hn⟩ := yC.1 h
  have hlo := (qay hx (qaR hx n) _ _ _ _ hn).2.2 rfl
  simp only at hlo
  rw [hlo] at h
  exact h
theorem qux {pg : Pg} (hx : qG pg.ext) {N f : Nat} {vs : List V} {H : List Obj} {x : D} (h : isD (qfu pg N f vs H) x = true) : ∃ lo, ql pg f vs H = some ⟨false, true, .d x, H, lo⟩ := by
  unfold isD at h
  split at h
  · rename_i y H' lo hr
    rw [qrv h] at hr
    exact ⟨lo, qoc hx (qnJ hr)⟩
  · cases h
theorem qqL {pg : Pg} (hx : qG pg.ext) {N f : Nat} {vs : List V} {H : List Obj} {x : List D} (h : qvh (qfu pg N f vs H) x = true) : ∃ lo, ql pg f vs H = some ⟨false, true, .tup (x.map .d), H, lo⟩ := by
  unfold qvh at h
  split at h
  · rename_i y H' lo hr
    rw [qoe h] at hr
    exact ⟨lo, qoc hx (qnJ hr)⟩
  · cases h
end W

namespace W
set_option maxRecDepth 100000
def ixN (c : Nat) : List Nat → Int
  | [] => -1
  | x :: l => bif qCy x c then 0 else match ixN c l with
    | .ofNat n => .ofNat (n + 1)
    | v => v
def ixX (vs : List V) (H : List Obj) : Option Cr :=
  match vs with
  | [.d (.s t), .d (.i .u8 (.ofNat c))] => some ⟨false, true, .d (.i .i64 (ixN (c % 256) t)), H, H.length⟩
  | _ => none
def pg : Pg := ⟨fun n => bif qCy n 306 then none else prog n, fun i vs H => bif qCy i 306 then ixX vs H else none⟩
theorem quQ : qG fun _ vs H => ixX vs H := fun i vs H r h => by
  simp only [ixX] at h
  split at h
  · cases h
    exact ⟨qCC _, fun _ _ _ => rfl, fun _ => rfl⟩
  · cases h
theorem kS : qG pg.ext := fun i vs H r h => by
  simp only [pg, qCA] at h
  split at h
  · exact quQ i vs H r h
  · cases h
end W

/- A call of no arguments whose result is data is the same beside whatever objects there are. -/
set_option linter.unusedSimpArgs false
set_option linter.unusedVariables false
namespace W
open Go (World Value Addr IntKind Program TypeId FuncId)
end W

/- Calls whose arguments and results are data, known beforehand (by the kernel), stand in for the functions' code. -/
set_option linter.unusedSimpArgs false
set_option linter.unusedVariables false
namespace W
open Go (World Value Addr IntKind Program TypeId FuncId)
inductive Out where
  | one (x : D)
  | tup (l : List D)
def Out.v : Out → V
  | .one x => .d x
  | .tup l => .tup (l.map .d)
structure Ent where
  f : Nat
  a : List D
  r : Out
def pick (i : Nat) (vs : List V) : List Ent → Option Ent
  | [] => none
  | e :: T => bif qCy e.f i && qqE vs e.a then some e else pick i vs T
def qpf (T : List Ent) (i : Nat) (vs : List V) (H : List Obj) : Option Cr := match pick i vs T with
  | some e => some ⟨false, true, e.r.v, H, H.length⟩
  | none => none
def Ent.is (r : Option Cr) : Out → Bool
  | .one x => isD r x
  | .tup l => qvh r l
def Ent.Ok (pg : Pg) (e : Ent) : Prop := ∃ lo, ql pg e.f (e.a.map .d) [] = some ⟨false, true, e.r.v, [], lo⟩
theorem qT {pg : Pg} (hx : qG pg.ext) {N f : Nat} {l : List D} {r : Out} (h : Ent.is (qfu pg N f (l.map .d) []) r = true) : Ent.Ok pg ⟨f, l, r⟩ := by
  cases r with
  | one x => exact qux hx h
  | tup l => exact qqL hx h
theorem qn3 {i : Nat} {vs : List V} {e : Ent} : ∀ {T : List Ent}, pick i vs T = some e → e ∈ T ∧ e.f = i ∧ vs = e.a.map .d
  | [], h => by cases h
  | q :: T, h => by
    unfold pick at h
    rw [qCA] at h
    split at h
    · rename_i hb
      cases h
      simp only [qCz] at hb
      exact ⟨.head _, qCD hb.1, qoe hb.2⟩
    · obtain ⟨h1, h2⟩ := qn3 h
      exact ⟨.tail _ h1, h2⟩
theorem qsB {T : List Ent} : qG (qpf T) := fun i vs H r h => by
  unfold qpf at h
  split at h
  · cases h
    exact ⟨qCC _, fun _ _ _ => rfl, fun _ => rfl⟩
  · cases h
theorem qxj {M : Maps} {g g' : Gh} {w w' : World} (e : g'.pub = g.pub) (ew : w' = w) : ∀ {l : List D} {vs : List Value}, RepSL M g w (l.map .d) vs → RepSL M g' w' (l.map .d) vs
  | [], _, h => by cases h; exact .nil
  | x :: l, _, h => by
    rw [List.map_cons] at h ⊢
    cases h with
    | cons _ _ _ _ h0 h =>
      refine .cons _ _ _ _ ?_ (qxj e ew h)
      cases h0 with
      | d _ _ hr => exact .d _ _ (by rw [e, ew]; exact hr)
theorem qwl {P : Program} {M : Maps} {pg : Pg} (hsim : ∀ n, qE P M (jn pg n)) {e : Ent} (h : e.Ok pg)
    {f' : FuncId} (hl : look M.fm f' = some e.f) {g : Gh} {w : World} {H : List Obj} (hH : RelH M g w H) {argv : List Value} (ha : ArgsRep M g w 0 (e.a.map .d) argv) : qpd P f' argv.toArray w (qB M g w ⟨false, true, e.r.v, H, H.length⟩) := by
  obtain ⟨lo, h⟩ := h
  obtain ⟨n, hn⟩ := yC.1 h
  refine qmN (hsim n) hn rfl (fun {g1 g2 w' c} ep hA => ?_) hl hH ha
  revert hA
  cases e.r with
  | one x =>
    intro hA
    cases hA with
    | s hA => cases hA with
      | d _ _ hr => exact .s (.d _ _ (by rw [ep]; exact hr))
  | tup l =>
    intro hA
    cases hA with
    | s hA => cases hA with
      | tup _ _ hr => exact .s (.tup _ _ (qxj ep rfl hr))
theorem qqf {P : Program} {M : Maps} {T : List Ent} (hT : ∀ e ∈ T, ∃ pg, (∀ n, qE P M (jn pg n)) ∧ e.Ok pg) : qE P M (qpf T) := by
  intro i vs H r h f' hl g w argv ha hH
  unfold qpf at h
  split at h
  · rename_i e he
    cases h
    obtain ⟨h1, rfl, rfl⟩ := qn3 he
    obtain ⟨pg, hsim, hok⟩ := hT e h1
    exact qwl hsim hok hl hH ha
  · cases h
end W

namespace W
set_option maxRecDepth 100000
def slC (l : List (Int × Int)) : D := .sl (l.map fun p => .agg [.i .i64 p.1, .i .i32 p.2])
def qCk : D := (.s [77, 79, 68, 85, 76, 69, 32, 77, 59, 32, 73, 77, 80, 79, 82, 84, 32, 79, 117, 116, 59, 32, 86, 65, 82, 32, 105, 58, 32, 73, 78, 84, 69, 71, 69, 82, 59, 32, 66, 69, 71, 73, 78, 32, 105, 32, 58, 61, 32, 50, 59, 32, 79, 117, 116, 46, 73, 110, 116, 40, 105, 32, 43, 32, 49, 41, 59, 32, 65, 83, 83, 69, 82, 84, 40, 105, 32, 61, 32, 49, 41, 32, 69, 78, 68, 32, 77, 46])
def qB0 : D := (.agg [(.s [77]), (.sl [(.s [79, 117, 116])]), .nil, .nil, .nil, (.sl [(.agg [(.s [105]), (.b false), (.i .i64 1), (.i .i64 0), (.s []), .nil])]), .nil, (.sl [(.agg [(.i .i64 0), (.sl [(.agg [(.i .i64 1), (.i .i64 1), (.i .i64 0), (.s []), .nil, (.i .i32 0), (.s [77, 46, 105]), .nil]), (.agg [(.i .i64 0), (.i .i64 1), (.i .i64 0), (.s []), .nil, (.i .i32 2), (.s []), .nil])]), .nil, .nil]), (.agg [(.i .i64 14), (.sl [(.agg [(.i .i64 9), (.i .i64 1), (.i .i64 0), (.s []), .nil, (.i .i32 0), (.s []), (.sl [(.agg [(.i .i64 1), (.i .i64 1), (.i .i64 0), (.s []), .nil, (.i .i32 0), (.s [77, 46, 105]), .nil]), (.agg [(.i .i64 0), (.i .i64 1), (.i .i64 0), (.s []), .nil, (.i .i32 1), (.s []), .nil])])])]), .nil, .nil]), (.agg [(.i .i64 12), (.sl [(.agg [(.i .i64 16), (.i .i64 3), (.i .i64 0), (.s []), .nil, (.i .i32 0), (.s []), (.sl [(.agg [(.i .i64 1), (.i .i64 1), (.i .i64 0), (.s []), .nil, (.i .i32 0), (.s [77, 46, 105]), .nil]), (.agg [(.i .i64 0), (.i .i64 1), (.i .i64 0), (.s []), .nil, (.i .i32 1), (.s []), .nil])])])]), .nil, .nil])])])
def qt8 : D := (.s [77, 79, 68, 85, 76, 69, 32, 77, 59, 32, 73, 77, 80, 79, 82, 84, 32, 79, 117, 116, 59, 32, 86, 65, 82, 32, 105, 58, 32, 73, 78, 84, 69, 71, 69, 82, 59, 32, 66, 69, 71, 73, 78, 32, 105, 32, 58, 61, 32, 49, 59, 32, 79, 117, 116, 46, 73, 110, 116, 40, 105, 32, 43, 32, 40, 105, 32, 43, 32, 40, 105, 32, 43, 32, 40, 105, 32, 43, 32, 40, 105, 32, 43, 32, 40, 105, 32, 43, 32, 40, 105, 32, 43, 32, 40, 105, 32, 43, 32, 40, 105, 32, 43, 32, 40, 105, 41, 41, 41, 41, 41, 41, 41, 41, 41, 41, 32, 69, 78, 68, 32, 77, 46])
def qgp : D := (.agg [(.s [77]), (.sl [(.s [79, 117, 116])]), .nil, .nil, .nil, (.sl [(.agg [(.s [105]), (.b false), (.i .i64 1), (.i .i64 0), (.s []), .nil])]), .nil, (.sl [(.agg [(.i .i64 0), (.sl [(.agg [(.i .i64 1), (.i .i64 1), (.i .i64 0), (.s []), .nil, (.i .i32 0), (.s [77, 46, 105]), .nil]), (.agg [(.i .i64 0), (.i .i64 1), (.i .i64 0), (.s []), .nil, (.i .i32 1), (.s []), .nil])]), .nil, .nil]), (.agg [(.i .i64 14), (.sl [(.agg [(.i .i64 9), (.i .i64 1), (.i .i64 0), (.s []), .nil, (.i .i32 0), (.s []), (.sl [(.agg [(.i .i64 1), (.i .i64 1), (.i .i64 0), (.s []), .nil, (.i .i32 0), (.s [77, 46, 105]), .nil]), (.agg [(.i .i64 9), (.i .i64 1), (.i .i64 0), (.s []), .nil, (.i .i32 0), (.s []), (.sl [(.agg [(.i .i64 1), (.i .i64 1), (.i .i64 0), (.s []), .nil, (.i .i32 0), (.s [77, 46, 105]), .nil]), (.agg [(.i .i64 9), (.i .i64 1), (.i .i64 0), (.s []), .nil, (.i .i32 0), (.s []), (.sl [(.agg [(.i .i64 1), (.i .i64 1), (.i .i64 0), (.s []), .nil, (.i .i32 0), (.s [77, 46, 105]), .nil]), (.agg [(.i .i64 9), (.i .i64 1), (.i .i64 0), (.s []), .nil, (.i .i32 0), (.s []), (.sl [(.agg [(.i .i64 1), (.i .i64 1), (.i .i64 0), (.s []), .nil, (.i .i32 0), (.s [77, 46, 105]), .nil]), (.agg [(.i .i64 9), (.i .i64 1), (.i .i64 0), (.s []), .nil, (.i .i32 0), (.s []), (.sl [(.agg [(.i .i64 1), (.i .i64 1), (.i .i64 0), (.s []), .nil, (.i .i32 0), (.s [77, 46, 105]), .nil]), (.agg [(.i .i64 9), (.i .i64 1), (.i .i64 0), (.s []), .nil, (.i .i32 0), (.s []), (.sl [(.agg [(.i .i64 1), (.i .i64 1), (.i .i64 0), (.s []), .nil, (.i .i32 0), (.s [77, 46, 105]), .nil]), (.agg [(.i .i64 9), (.i .i64 1), (.i .i64 0), (.s []), .nil, (.i .i32 0), (.s []), (.sl [(.agg [(.i .i64 1), (.i .i64 1), (.i .i64 0), (.s []), .nil, (.i .i32 0), (.s [77, 46, 105]), .nil]), (.agg [(.i .i64 9), (.i .i64 1), (.i .i64 0), (.s []), .nil, (.i .i32 0), (.s []), (.sl [(.agg [(.i .i64 1), (.i .i64 1), (.i .i64 0), (.s []), .nil, (.i .i32 0), (.s [77, 46, 105]), .nil]), (.agg [(.i .i64 9), (.i .i64 1), (.i .i64 0), (.s []), .nil, (.i .i32 0), (.s []), (.sl [(.agg [(.i .i64 1), (.i .i64 1), (.i .i64 0), (.s []), .nil, (.i .i32 0), (.s [77, 46, 105]), .nil]), (.agg [(.i .i64 1), (.i .i64 1), (.i .i64 0), (.s []), .nil, (.i .i32 0), (.s [77, 46, 105]), .nil])])])])])])])])])])])])])])])])])])])]), .nil, .nil])])])
def qub : D := (.s [77, 79, 68, 85, 76, 69, 32, 77, 59, 32, 73, 77, 80, 79, 82, 84, 32, 79, 117, 116, 59, 32, 86, 65, 82, 32, 105, 58, 32, 73, 78, 84, 69, 71, 69, 82, 59, 32, 66, 69, 71, 73, 78, 32, 105, 32, 58, 61, 32, 49, 59, 32, 79, 117, 116, 46, 73, 110, 116, 40, 105, 32, 43, 32, 40, 105, 32, 43, 32, 40, 105, 32, 43, 32, 40, 105, 32, 43, 32, 40, 105, 32, 43, 32, 40, 105, 32, 43, 32, 40, 105, 32, 43, 32, 40, 105, 32, 43, 32, 40, 105, 32, 43, 32, 40, 105, 32, 43, 32, 40, 105, 41, 41, 41, 41, 41, 41, 41, 41, 41, 41, 41, 32, 69, 78, 68, 32, 77, 46])
def qgo : D := (.agg [(.s [77]), (.sl [(.s [79, 117, 116])]), .nil, .nil, .nil, (.sl [(.agg [(.s [105]), (.b false), (.i .i64 1), (.i .i64 0), (.s []), .nil])]), .nil, (.sl [(.agg [(.i .i64 0), (.sl [(.agg [(.i .i64 1), (.i .i64 1), (.i .i64 0), (.s []), .nil, (.i .i32 0), (.s [77, 46, 105]), .nil]), (.agg [(.i .i64 0), (.i .i64 1), (.i .i64 0), (.s []), .nil, (.i .i32 1), (.s []), .nil])]), .nil, .nil]), (.agg [(.i .i64 14), (.sl [(.agg [(.i .i64 9), (.i .i64 1), (.i .i64 0), (.s []), .nil, (.i .i32 0), (.s []), (.sl [(.agg [(.i .i64 1), (.i .i64 1), (.i .i64 0), (.s []), .nil, (.i .i32 0), (.s [77, 46, 105]), .nil]), (.agg [(.i .i64 9), (.i .i64 1), (.i .i64 0), (.s []), .nil, (.i .i32 0), (.s []), (.sl [(.agg [(.i .i64 1), (.i .i64 1), (.i .i64 0), (.s []), .nil, (.i .i32 0), (.s [77, 46, 105]), .nil]), (.agg [(.i .i64 9), (.i .i64 1), (.i .i64 0), (.s []), .nil, (.i .i32 0), (.s []), (.sl [(.agg [(.i .i64 1), (.i .i64 1), (.i .i64 0), (.s []), .nil, (.i .i32 0), (.s [77, 46, 105]), .nil]), (.agg [(.i .i64 9), (.i .i64 1), (.i .i64 0), (.s []), .nil, (.i .i32 0), (.s []), (.sl [(.agg [(.i .i64 1), (.i .i64 1), (.i .i64 0), (.s []), .nil, (.i .i32 0), (.s [77, 46, 105]), .nil]), (.agg [(.i .i64 9), (.i .i64 1), (.i .i64 0), (.s []), .nil, (.i .i32 0), (.s []), (.sl [(.agg [(.i .i64 1), (.i .i64 1), (.i .i64 0), (.s []), .nil, (.i .i32 0), (.s [77, 46, 105]), .nil]), (.agg [(.i .i64 9), (.i .i64 1), (.i .i64 0), (.s []), .nil, (.i .i32 0), (.s []), (.sl [(.agg [(.i .i64 1), (.i .i64 1), (.i .i64 0), (.s []), .nil, (.i .i32 0), (.s [77, 46, 105]), .nil]), (.agg [(.i .i64 9), (.i .i64 1), (.i .i64 0), (.s []), .nil, (.i .i32 0), (.s []), (.sl [(.agg [(.i .i64 1), (.i .i64 1), (.i .i64 0), (.s []), .nil, (.i .i32 0), (.s [77, 46, 105]), .nil]), (.agg [(.i .i64 9), (.i .i64 1), (.i .i64 0), (.s []), .nil, (.i .i32 0), (.s []), (.sl [(.agg [(.i .i64 1), (.i .i64 1), (.i .i64 0), (.s []), .nil, (.i .i32 0), (.s [77, 46, 105]), .nil]), (.agg [(.i .i64 9), (.i .i64 1), (.i .i64 0), (.s []), .nil, (.i .i32 0), (.s []), (.sl [(.agg [(.i .i64 1), (.i .i64 1), (.i .i64 0), (.s []), .nil, (.i .i32 0), (.s [77, 46, 105]), .nil]), (.agg [(.i .i64 9), (.i .i64 1), (.i .i64 0), (.s []), .nil, (.i .i32 0), (.s []), (.sl [(.agg [(.i .i64 1), (.i .i64 1), (.i .i64 0), (.s []), .nil, (.i .i32 0), (.s [77, 46, 105]), .nil]), (.agg [(.i .i64 1), (.i .i64 1), (.i .i64 0), (.s []), .nil, (.i .i32 0), (.s [77, 46, 105]), .nil])])])])])])])])])])])])])])])])])])])])])]), .nil, .nil])])])
def qum : D := (.s [77, 79, 68, 85, 76, 69, 32, 77, 59, 32, 73, 77, 80, 79, 82, 84, 32, 79, 117, 116, 59, 32, 86, 65, 82, 32, 105, 58, 32, 73, 78, 84, 69, 71, 69, 82, 59, 32, 66, 69, 71, 73, 78, 32, 105, 32, 58, 61, 32, 49, 59, 32, 79, 117, 116, 46, 73, 110, 116, 40, 105, 32, 43, 32, 40, 105, 32, 43, 32, 40, 105, 32, 43, 32, 40, 105, 32, 43, 32, 40, 105, 32, 43, 32, 40, 105, 32, 43, 32, 40, 105, 32, 43, 32, 40, 105, 32, 43, 32, 40, 105, 32, 43, 32, 40, 105, 32, 43, 32, 40, 105, 32, 43, 32, 40, 105, 41, 41, 41, 41, 41, 41, 41, 41, 41, 41, 41, 41, 32, 69, 78, 68, 32, 77, 46])
def qgr : D := (.agg [(.s [77]), (.sl [(.s [79, 117, 116])]), .nil, .nil, .nil, (.sl [(.agg [(.s [105]), (.b false), (.i .i64 1), (.i .i64 0), (.s []), .nil])]), .nil, (.sl [(.agg [(.i .i64 0), (.sl [(.agg [(.i .i64 1), (.i .i64 1), (.i .i64 0), (.s []), .nil, (.i .i32 0), (.s [77, 46, 105]), .nil]), (.agg [(.i .i64 0), (.i .i64 1), (.i .i64 0), (.s []), .nil, (.i .i32 1), (.s []), .nil])]), .nil, .nil]), (.agg [(.i .i64 14), (.sl [(.agg [(.i .i64 9), (.i .i64 1), (.i .i64 0), (.s []), .nil, (.i .i32 0), (.s []), (.sl [(.agg [(.i .i64 1), (.i .i64 1), (.i .i64 0), (.s []), .nil, (.i .i32 0), (.s [77, 46, 105]), .nil]), (.agg [(.i .i64 9), (.i .i64 1), (.i .i64 0), (.s []), .nil, (.i .i32 0), (.s []), (.sl [(.agg [(.i .i64 1), (.i .i64 1), (.i .i64 0), (.s []), .nil, (.i .i32 0), (.s [77, 46, 105]), .nil]), (.agg [(.i .i64 9), (.i .i64 1), (.i .i64 0), (.s []), .nil, (.i .i32 0), (.s []), (.sl [(.agg [(.i .i64 1), (.i .i64 1), (.i .i64 0), (.s []), .nil, (.i .i32 0), (.s [77, 46, 105]), .nil]), (.agg [(.i .i64 9), (.i .i64 1), (.i .i64 0), (.s []), .nil, (.i .i32 0), (.s []), (.sl [(.agg [(.i .i64 1), (.i .i64 1), (.i .i64 0), (.s []), .nil, (.i .i32 0), (.s [77, 46, 105]), .nil]), (.agg [(.i .i64 9), (.i .i64 1), (.i .i64 0), (.s []), .nil, (.i .i32 0), (.s []), (.sl [(.agg [(.i .i64 1), (.i .i64 1), (.i .i64 0), (.s []), .nil, (.i .i32 0), (.s [77, 46, 105]), .nil]), (.agg [(.i .i64 9), (.i .i64 1), (.i .i64 0), (.s []), .nil, (.i .i32 0), (.s []), (.sl [(.agg [(.i .i64 1), (.i .i64 1), (.i .i64 0), (.s []), .nil, (.i .i32 0), (.s [77, 46, 105]), .nil]), (.agg [(.i .i64 9), (.i .i64 1), (.i .i64 0), (.s []), .nil, (.i .i32 0), (.s []), (.sl [(.agg [(.i .i64 1), (.i .i64 1), (.i .i64 0), (.s []), .nil, (.i .i32 0), (.s [77, 46, 105]), .nil]), (.agg [(.i .i64 9), (.i .i64 1), (.i .i64 0), (.s []), .nil, (.i .i32 0), (.s []), (.sl [(.agg [(.i .i64 1), (.i .i64 1), (.i .i64 0), (.s []), .nil, (.i .i32 0), (.s [77, 46, 105]), .nil]), (.agg [(.i .i64 9), (.i .i64 1), (.i .i64 0), (.s []), .nil, (.i .i32 0), (.s []), (.sl [(.agg [(.i .i64 1), (.i .i64 1), (.i .i64 0), (.s []), .nil, (.i .i32 0), (.s [77, 46, 105]), .nil]), (.agg [(.i .i64 9), (.i .i64 1), (.i .i64 0), (.s []), .nil, (.i .i32 0), (.s []), (.sl [(.agg [(.i .i64 1), (.i .i64 1), (.i .i64 0), (.s []), .nil, (.i .i32 0), (.s [77, 46, 105]), .nil]), (.agg [(.i .i64 9), (.i .i64 1), (.i .i64 0), (.s []), .nil, (.i .i32 0), (.s []), (.sl [(.agg [(.i .i64 1), (.i .i64 1), (.i .i64 0), (.s []), .nil, (.i .i32 0), (.s [77, 46, 105]), .nil]), (.agg [(.i .i64 1), (.i .i64 1), (.i .i64 0), (.s []), .nil, (.i .i32 0), (.s [77, 46, 105]), .nil])])])])])])])])])])])])])])])])])])])])])])])]), .nil, .nil])])])
def qAo : D := (.s [77, 79, 68, 85, 76, 69, 32, 77, 59, 32, 73, 77, 80, 79, 82, 84, 32, 79, 117, 116, 59, 32, 86, 65, 82, 32, 105, 58, 32, 73, 78, 84, 69, 71, 69, 82, 59, 32, 66, 69, 71, 73, 78, 32, 105, 32, 58, 61, 32, 49, 59, 32, 79, 117, 116, 46, 73, 110, 116, 40, 105, 32, 43, 32, 40, 105, 32, 43, 32, 40, 105, 32, 43, 32, 40, 105, 32, 43, 32, 40, 105, 32, 43, 32, 40, 105, 32, 43, 32, 40, 105, 32, 43, 32, 40, 105, 32, 43, 32, 40, 105, 32, 43, 32, 40, 105, 32, 43, 32, 40, 105, 32, 43, 32, 40, 105, 32, 43, 32, 40, 105, 41, 41, 41, 41, 41, 41, 41, 41, 41, 41, 41, 41, 41, 32, 69, 78, 68, 32, 77, 46])
def qvn : D := (.agg [(.s [77]), (.sl [(.s [79, 117, 116])]), .nil, .nil, .nil, (.sl [(.agg [(.s [105]), (.b false), (.i .i64 1), (.i .i64 0), (.s []), .nil])]), .nil, (.sl [(.agg [(.i .i64 0), (.sl [(.agg [(.i .i64 1), (.i .i64 1), (.i .i64 0), (.s []), .nil, (.i .i32 0), (.s [77, 46, 105]), .nil]), (.agg [(.i .i64 0), (.i .i64 1), (.i .i64 0), (.s []), .nil, (.i .i32 1), (.s []), .nil])]), .nil, .nil]), (.agg [(.i .i64 14), (.sl [(.agg [(.i .i64 9), (.i .i64 1), (.i .i64 0), (.s []), .nil, (.i .i32 0), (.s []), (.sl [(.agg [(.i .i64 1), (.i .i64 1), (.i .i64 0), (.s []), .nil, (.i .i32 0), (.s [77, 46, 105]), .nil]), (.agg [(.i .i64 9), (.i .i64 1), (.i .i64 0), (.s []), .nil, (.i .i32 0), (.s []), (.sl [(.agg [(.i .i64 1), (.i .i64 1), (.i .i64 0), (.s []), .nil, (.i .i32 0), (.s [77, 46, 105]), .nil]), (.agg [(.i .i64 9), (.i .i64 1), (.i .i64 0), (.s []), .nil, (.i .i32 0), (.s []), (.sl [(.agg [(.i .i64 1), (.i .i64 1), (.i .i64 0), (.s []), .nil, (.i .i32 0), (.s [77, 46, 105]), .nil]), (.agg [(.i .i64 9), (.i .i64 1), (.i .i64 0), (.s []), .nil, (.i .i32 0), (.s []), (.sl [(.agg [(.i .i64 1), (.i .i64 1), (.i .i64 0), (.s []), .nil, (.i .i32 0), (.s [77, 46, 105]), .nil]), (.agg [(.i .i64 9), (.i .i64 1), (.i .i64 0), (.s []), .nil, (.i .i32 0), (.s []), (.sl [(.agg [(.i .i64 1), (.i .i64 1), (.i .i64 0), (.s []), .nil, (.i .i32 0), (.s [77, 46, 105]), .nil]), (.agg [(.i .i64 9), (.i .i64 1), (.i .i64 0), (.s []), .nil, (.i .i32 0), (.s []), (.sl [(.agg [(.i .i64 1), (.i .i64 1), (.i .i64 0), (.s []), .nil, (.i .i32 0), (.s [77, 46, 105]), .nil]), (.agg [(.i .i64 9), (.i .i64 1), (.i .i64 0), (.s []), .nil, (.i .i32 0), (.s []), (.sl [(.agg [(.i .i64 1), (.i .i64 1), (.i .i64 0), (.s []), .nil, (.i .i32 0), (.s [77, 46, 105]), .nil]), (.agg [(.i .i64 9), (.i .i64 1), (.i .i64 0), (.s []), .nil, (.i .i32 0), (.s []), (.sl [(.agg [(.i .i64 1), (.i .i64 1), (.i .i64 0), (.s []), .nil, (.i .i32 0), (.s [77, 46, 105]), .nil]), (.agg [(.i .i64 9), (.i .i64 1), (.i .i64 0), (.s []), .nil, (.i .i32 0), (.s []), (.sl [(.agg [(.i .i64 1), (.i .i64 1), (.i .i64 0), (.s []), .nil, (.i .i32 0), (.s [77, 46, 105]), .nil]), (.agg [(.i .i64 9), (.i .i64 1), (.i .i64 0), (.s []), .nil, (.i .i32 0), (.s []), (.sl [(.agg [(.i .i64 1), (.i .i64 1), (.i .i64 0), (.s []), .nil, (.i .i32 0), (.s [77, 46, 105]), .nil]), (.agg [(.i .i64 9), (.i .i64 1), (.i .i64 0), (.s []), .nil, (.i .i32 0), (.s []), (.sl [(.agg [(.i .i64 1), (.i .i64 1), (.i .i64 0), (.s []), .nil, (.i .i32 0), (.s [77, 46, 105]), .nil]), (.agg [(.i .i64 9), (.i .i64 1), (.i .i64 0), (.s []), .nil, (.i .i32 0), (.s []), (.sl [(.agg [(.i .i64 1), (.i .i64 1), (.i .i64 0), (.s []), .nil, (.i .i32 0), (.s [77, 46, 105]), .nil]), (.agg [(.i .i64 1), (.i .i64 1), (.i .i64 0), (.s []), .nil, (.i .i32 0), (.s [77, 46, 105]), .nil])])])])])])])])])])])])])])])])])])])])])])])])])]), .nil, .nil])])])
def qAj : D := (.s [77, 79, 68, 85, 76, 69, 32, 77, 59, 32, 73, 77, 80, 79, 82, 84, 32, 79, 117, 116, 59, 32, 86, 65, 82, 32, 105, 58, 32, 73, 78, 84, 69, 71, 69, 82, 59, 32, 66, 69, 71, 73, 78, 32, 105, 32, 58, 61, 32, 49, 59, 32, 79, 117, 116, 46, 73, 110, 116, 40, 105, 32, 43, 32, 40, 105, 32, 43, 32, 40, 105, 32, 43, 32, 40, 105, 32, 43, 32, 40, 105, 32, 43, 32, 40, 105, 32, 43, 32, 40, 105, 32, 43, 32, 40, 105, 32, 43, 32, 40, 105, 32, 43, 32, 40, 105, 32, 43, 32, 40, 105, 32, 43, 32, 40, 105, 32, 43, 32, 40, 105, 32, 43, 32, 40, 105, 41, 41, 41, 41, 41, 41, 41, 41, 41, 41, 41, 41, 41, 41, 32, 69, 78, 68, 32, 77, 46])
def qvz : D := (.agg [(.s [77]), (.sl [(.s [79, 117, 116])]), .nil, .nil, .nil, (.sl [(.agg [(.s [105]), (.b false), (.i .i64 1), (.i .i64 0), (.s []), .nil])]), .nil, (.sl [(.agg [(.i .i64 0), (.sl [(.agg [(.i .i64 1), (.i .i64 1), (.i .i64 0), (.s []), .nil, (.i .i32 0), (.s [77, 46, 105]), .nil]), (.agg [(.i .i64 0), (.i .i64 1), (.i .i64 0), (.s []), .nil, (.i .i32 1), (.s []), .nil])]), .nil, .nil]), (.agg [(.i .i64 14), (.sl [(.agg [(.i .i64 9), (.i .i64 1), (.i .i64 0), (.s []), .nil, (.i .i32 0), (.s []), (.sl [(.agg [(.i .i64 1), (.i .i64 1), (.i .i64 0), (.s []), .nil, (.i .i32 0), (.s [77, 46, 105]), .nil]), (.agg [(.i .i64 9), (.i .i64 1), (.i .i64 0), (.s []), .nil, (.i .i32 0), (.s []), (.sl [(.agg [(.i .i64 1), (.i .i64 1), (.i .i64 0), (.s []), .nil, (.i .i32 0), (.s [77, 46, 105]), .nil]), (.agg [(.i .i64 9), (.i .i64 1), (.i .i64 0), (.s []), .nil, (.i .i32 0), (.s []), (.sl [(.agg [(.i .i64 1), (.i .i64 1), (.i .i64 0), (.s []), .nil, (.i .i32 0), (.s [77, 46, 105]), .nil]), (.agg [(.i .i64 9), (.i .i64 1), (.i .i64 0), (.s []), .nil, (.i .i32 0), (.s []), (.sl [(.agg [(.i .i64 1), (.i .i64 1), (.i .i64 0), (.s []), .nil, (.i .i32 0), (.s [77, 46, 105]), .nil]), (.agg [(.i .i64 9), (.i .i64 1), (.i .i64 0), (.s []), .nil, (.i .i32 0), (.s []), (.sl [(.agg [(.i .i64 1), (.i .i64 1), (.i .i64 0), (.s []), .nil, (.i .i32 0), (.s [77, 46, 105]), .nil]), (.agg [(.i .i64 9), (.i .i64 1), (.i .i64 0), (.s []), .nil, (.i .i32 0), (.s []), (.sl [(.agg [(.i .i64 1), (.i .i64 1), (.i .i64 0), (.s []), .nil, (.i .i32 0), (.s [77, 46, 105]), .nil]), (.agg [(.i .i64 9), (.i .i64 1), (.i .i64 0), (.s []), .nil, (.i .i32 0), (.s []), (.sl [(.agg [(.i .i64 1), (.i .i64 1), (.i .i64 0), (.s []), .nil, (.i .i32 0), (.s [77, 46, 105]), .nil]), (.agg [(.i .i64 9), (.i .i64 1), (.i .i64 0), (.s []), .nil, (.i .i32 0), (.s []), (.sl [(.agg [(.i .i64 1), (.i .i64 1), (.i .i64 0), (.s []), .nil, (.i .i32 0), (.s [77, 46, 105]), .nil]), (.agg [(.i .i64 9), (.i .i64 1), (.i .i64 0), (.s []), .nil, (.i .i32 0), (.s []), (.sl [(.agg [(.i .i64 1), (.i .i64 1), (.i .i64 0), (.s []), .nil, (.i .i32 0), (.s [77, 46, 105]), .nil]), (.agg [(.i .i64 9), (.i .i64 1), (.i .i64 0), (.s []), .nil, (.i .i32 0), (.s []), (.sl [(.agg [(.i .i64 1), (.i .i64 1), (.i .i64 0), (.s []), .nil, (.i .i32 0), (.s [77, 46, 105]), .nil]), (.agg [(.i .i64 9), (.i .i64 1), (.i .i64 0), (.s []), .nil, (.i .i32 0), (.s []), (.sl [(.agg [(.i .i64 1), (.i .i64 1), (.i .i64 0), (.s []), .nil, (.i .i32 0), (.s [77, 46, 105]), .nil]), (.agg [(.i .i64 9), (.i .i64 1), (.i .i64 0), (.s []), .nil, (.i .i32 0), (.s []), (.sl [(.agg [(.i .i64 1), (.i .i64 1), (.i .i64 0), (.s []), .nil, (.i .i32 0), (.s [77, 46, 105]), .nil]), (.agg [(.i .i64 9), (.i .i64 1), (.i .i64 0), (.s []), .nil, (.i .i32 0), (.s []), (.sl [(.agg [(.i .i64 1), (.i .i64 1), (.i .i64 0), (.s []), .nil, (.i .i32 0), (.s [77, 46, 105]), .nil]), (.agg [(.i .i64 1), (.i .i64 1), (.i .i64 0), (.s []), .nil, (.i .i32 0), (.s [77, 46, 105]), .nil])])])])])])])])])])])])])])])])])])])])])])])])])])])]), .nil, .nil])])])
def sl_ck : Ent := ⟨8, [qCk, .nil], .tup [qB0, (.i .i64 0)]⟩
def sl_gk : Ent := ⟨23, [(.i .i64 0), (.sl [qB0])], .tup [(slC [(1, 1), (1, 5), (7, 0), (1, 2), (1, 5), (7, 0), (28, 0), (1, 4), (1, 2), (7, 0), (1, 4), (6, 0), (1, 1), (9, 0), (27, 185), (1, 4), (6, 0), (1, 1), (22, 0), (26, 26), (0, 0), (30, 1), (30, 1), (30, 2), (30, 3), (30, 4), (30, 5), (30, 6), (30, 7), (30, 8), (30, 9), (28, 2), (5, 0), (4, 0), (7, 0), (5, 1), (4, 0), (7, 0), (5, 1), (6, 0), (5, 0), (6, 0), (23, 0), (26, 22), (1, 0), (5, 1), (6, 0), (24, 0), (26, 22), (5, 1), (6, 0), (29, 0), (28, 2), (5, 0), (4, 0), (7, 0), (5, 1), (4, 0), (7, 0), (5, 1), (6, 0), (26, 88), (5, 1), (6, 0), (6, 0), (5, 1), (4, 0), (7, 0), (5, 1), (6, 0), (26, 88), (5, 1), (6, 0), (5, 0), (6, 0), (22, 0), (26, 79), (1, 1), (29, 0), (5, 1), (6, 0), (1, 3), (9, 0), (6, 0), (5, 1), (4, 0), (7, 0), (25, 68), (1, 0), (29, 0), (28, 2), (5, 0), (4, 0), (7, 0), (5, 1), (4, 0), (7, 0), (1, 1), (6, 0), (5, 1), (6, 0), (9, 0), (1, 2), (6, 0), (23, 0), (26, 29), (1, 1), (6, 0), (2, 0), (5, 0), (6, 0), (7, 0), (1, 1), (1, 1), (6, 0), (5, 1), (6, 0), (9, 0), (1, 1), (9, 0), (7, 0), (29, 0), (28, 2), (5, 0), (4, 0), (7, 0), (5, 1), (4, 0), (7, 0), (5, 1), (6, 0), (1, (-32)), (15, 0), (1, 0), (22, 0), (26, 144), (5, 0), (6, 0), (5, 1), (6, 0), (20, 0), (1, 1), (15, 0), (29, 0), (1, 0), (29, 0), (28, 2), (5, 0), (4, 0), (7, 0), (5, 1), (4, 0), (7, 0), (5, 0), (6, 0), (1, (-32)), (15, 0), (1, 0), (22, 0), (26, 27), (5, 1), (6, 0), (1, (-32)), (15, 0), (1, 0), (22, 0), (26, 27), (5, 1), (6, 0), (5, 0), (6, 0), (24, 0), (26, 183), (1, 2), (5, 0), (6, 0), (19, 0), (1, 1), (5, 1), (6, 0), (19, 0), (10, 0), (29, 0), (1, 0), (29, 0), (28, 13), (5, 0), (4, 0), (7, 0), (5, 0), (6, 0), (1, 0), (23, 0), (26, 228), (1, 45), (33, 0), (5, 0), (6, 0), (14, 0), (5, 0), (4, 0), (7, 0), (5, 0), (6, 0), (1, 0), (23, 0), (26, 228), (1, 50), (33, 0), (1, 49), (33, 0), (1, 52), (33, 0), (1, 55), (33, 0), (1, 52), (33, 0), (1, 56), (33, 0), (1, 51), (33, 0), (1, 54), (33, 0), (1, 52), (33, 0), (1, 56), (33, 0), (29, 0), (5, 2), (5, 1), (6, 0), (9, 0), (5, 0), (6, 0), (1, 10), (13, 0), (1, 48), (9, 0), (7, 0), (5, 1), (6, 0), (1, 1), (9, 0), (5, 1), (4, 0), (7, 0), (5, 0), (6, 0), (1, 10), (12, 0), (5, 0), (4, 0), (7, 0), (5, 0), (6, 0), (26, 257), (25, 228), (5, 1), (6, 0), (26, 274), (5, 1), (6, 0), (1, (-1)), (9, 0), (5, 1), (4, 0), (7, 0), (5, 2), (5, 1), (6, 0), (9, 0), (6, 0), (33, 0), (25, 257), (29, 0), (28, 2), (5, 0), (4, 0), (7, 0), (5, 1), (4, 0), (7, 0), (5, 0), (6, 0), (26, 307), (5, 1), (6, 0), (6, 0), (2, 0), (26, 306), (33, 0), (5, 1), (6, 0), (1, 1), (9, 0), (5, 1), (4, 0), (7, 0), (5, 0), (6, 0), (1, (-1)), (9, 0), (5, 0), (4, 0), (7, 0), (25, 282), (3, 0), (29, 0)]), (.i .i64 21), (.i .i64 5), (.i .i64 0)]⟩
def sl_c0 : Ent := ⟨8, [qt8, .nil], .tup [qgp, (.i .i64 0)]⟩
def sl_g0 : Ent := ⟨23, [(.i .i64 0), (.sl [qgp])], .tup [(slC [(1, 1), (1, 5), (7, 0), (1, 2), (1, 5), (7, 0), (28, 0), (1, 4), (1, 1), (7, 0), (1, 4), (6, 0), (1, 4), (6, 0), (1, 4), (6, 0), (1, 4), (6, 0), (1, 4), (6, 0), (1, 4), (6, 0), (1, 4), (6, 0), (1, 4), (6, 0), (1, 4), (6, 0), (1, 4), (6, 0), (9, 0), (9, 0), (9, 0), (9, 0), (9, 0), (9, 0), (9, 0), (9, 0), (9, 0), (27, 205), (0, 0), (30, 1), (30, 1), (30, 2), (30, 3), (30, 4), (30, 5), (30, 6), (30, 7), (30, 8), (30, 9), (28, 2), (5, 0), (4, 0), (7, 0), (5, 1), (4, 0), (7, 0), (5, 1), (6, 0), (5, 0), (6, 0), (23, 0), (26, 42), (1, 0), (5, 1), (6, 0), (24, 0), (26, 42), (5, 1), (6, 0), (29, 0), (28, 2), (5, 0), (4, 0), (7, 0), (5, 1), (4, 0), (7, 0), (5, 1), (6, 0), (26, 108), (5, 1), (6, 0), (6, 0), (5, 1), (4, 0), (7, 0), (5, 1), (6, 0), (26, 108), (5, 1), (6, 0), (5, 0), (6, 0), (22, 0), (26, 99), (1, 1), (29, 0), (5, 1), (6, 0), (1, 3), (9, 0), (6, 0), (5, 1), (4, 0), (7, 0), (25, 88), (1, 0), (29, 0), (28, 2), (5, 0), (4, 0), (7, 0), (5, 1), (4, 0), (7, 0), (1, 1), (6, 0), (5, 1), (6, 0), (9, 0), (1, 2), (6, 0), (23, 0), (26, 49), (1, 1), (6, 0), (2, 0), (5, 0), (6, 0), (7, 0), (1, 1), (1, 1), (6, 0), (5, 1), (6, 0), (9, 0), (1, 1), (9, 0), (7, 0), (29, 0), (28, 2), (5, 0), (4, 0), (7, 0), (5, 1), (4, 0), (7, 0), (5, 1), (6, 0), (1, (-32)), (15, 0), (1, 0), (22, 0), (26, 164), (5, 0), (6, 0), (5, 1), (6, 0), (20, 0), (1, 1), (15, 0), (29, 0), (1, 0), (29, 0), (28, 2), (5, 0), (4, 0), (7, 0), (5, 1), (4, 0), (7, 0), (5, 0), (6, 0), (1, (-32)), (15, 0), (1, 0), (22, 0), (26, 47), (5, 1), (6, 0), (1, (-32)), (15, 0), (1, 0), (22, 0), (26, 47), (5, 1), (6, 0), (5, 0), (6, 0), (24, 0), (26, 203), (1, 2), (5, 0), (6, 0), (19, 0), (1, 1), (5, 1), (6, 0), (19, 0), (10, 0), (29, 0), (1, 0), (29, 0), (28, 13), (5, 0), (4, 0), (7, 0), (5, 0), (6, 0), (1, 0), (23, 0), (26, 248), (1, 45), (33, 0), (5, 0), (6, 0), (14, 0), (5, 0), (4, 0), (7, 0), (5, 0), (6, 0), (1, 0), (23, 0), (26, 248), (1, 50), (33, 0), (1, 49), (33, 0), (1, 52), (33, 0), (1, 55), (33, 0), (1, 52), (33, 0), (1, 56), (33, 0), (1, 51), (33, 0), (1, 54), (33, 0), (1, 52), (33, 0), (1, 56), (33, 0), (29, 0), (5, 2), (5, 1), (6, 0), (9, 0), (5, 0), (6, 0), (1, 10), (13, 0), (1, 48), (9, 0), (7, 0), (5, 1), (6, 0), (1, 1), (9, 0), (5, 1), (4, 0), (7, 0), (5, 0), (6, 0), (1, 10), (12, 0), (5, 0), (4, 0), (7, 0), (5, 0), (6, 0), (26, 277), (25, 248), (5, 1), (6, 0), (26, 294), (5, 1), (6, 0), (1, (-1)), (9, 0), (5, 1), (4, 0), (7, 0), (5, 2), (5, 1), (6, 0), (9, 0), (6, 0), (33, 0), (25, 277), (29, 0), (28, 2), (5, 0), (4, 0), (7, 0), (5, 1), (4, 0), (7, 0), (5, 0), (6, 0), (26, 327), (5, 1), (6, 0), (6, 0), (2, 0), (26, 326), (33, 0), (5, 1), (6, 0), (1, 1), (9, 0), (5, 1), (4, 0), (7, 0), (5, 0), (6, 0), (1, (-1)), (9, 0), (5, 0), (4, 0), (7, 0), (25, 302), (3, 0), (29, 0)]), (.i .i64 21), (.i .i64 5), (.i .i64 0)]⟩
def sl_c1 : Ent := ⟨8, [qub, .nil], .tup [qgo, (.i .i64 0)]⟩
def sl_g1 : Ent := ⟨23, [(.i .i64 0), (.sl [qgo])], .tup [(slC [(1, 1), (1, 5), (7, 0), (1, 2), (1, 5), (7, 0), (28, 0), (1, 4), (1, 1), (7, 0), (1, 4), (6, 0), (1, 4), (6, 0), (1, 4), (6, 0), (1, 4), (6, 0), (1, 4), (6, 0), (1, 4), (6, 0), (1, 4), (6, 0), (1, 4), (6, 0), (1, 4), (6, 0), (1, 4), (6, 0), (1, 4), (6, 0), (9, 0), (9, 0), (9, 0), (9, 0), (9, 0), (9, 0), (9, 0), (9, 0), (9, 0), (9, 0), (27, 208), (0, 0), (30, 1), (30, 1), (30, 2), (30, 3), (30, 4), (30, 5), (30, 6), (30, 7), (30, 8), (30, 9), (28, 2), (5, 0), (4, 0), (7, 0), (5, 1), (4, 0), (7, 0), (5, 1), (6, 0), (5, 0), (6, 0), (23, 0), (26, 45), (1, 0), (5, 1), (6, 0), (24, 0), (26, 45), (5, 1), (6, 0), (29, 0), (28, 2), (5, 0), (4, 0), (7, 0), (5, 1), (4, 0), (7, 0), (5, 1), (6, 0), (26, 111), (5, 1), (6, 0), (6, 0), (5, 1), (4, 0), (7, 0), (5, 1), (6, 0), (26, 111), (5, 1), (6, 0), (5, 0), (6, 0), (22, 0), (26, 102), (1, 1), (29, 0), (5, 1), (6, 0), (1, 3), (9, 0), (6, 0), (5, 1), (4, 0), (7, 0), (25, 91), (1, 0), (29, 0), (28, 2), (5, 0), (4, 0), (7, 0), (5, 1), (4, 0), (7, 0), (1, 1), (6, 0), (5, 1), (6, 0), (9, 0), (1, 2), (6, 0), (23, 0), (26, 52), (1, 1), (6, 0), (2, 0), (5, 0), (6, 0), (7, 0), (1, 1), (1, 1), (6, 0), (5, 1), (6, 0), (9, 0), (1, 1), (9, 0), (7, 0), (29, 0), (28, 2), (5, 0), (4, 0), (7, 0), (5, 1), (4, 0), (7, 0), (5, 1), (6, 0), (1, (-32)), (15, 0), (1, 0), (22, 0), (26, 167), (5, 0), (6, 0), (5, 1), (6, 0), (20, 0), (1, 1), (15, 0), (29, 0), (1, 0), (29, 0), (28, 2), (5, 0), (4, 0), (7, 0), (5, 1), (4, 0), (7, 0), (5, 0), (6, 0), (1, (-32)), (15, 0), (1, 0), (22, 0), (26, 50), (5, 1), (6, 0), (1, (-32)), (15, 0), (1, 0), (22, 0), (26, 50), (5, 1), (6, 0), (5, 0), (6, 0), (24, 0), (26, 206), (1, 2), (5, 0), (6, 0), (19, 0), (1, 1), (5, 1), (6, 0), (19, 0), (10, 0), (29, 0), (1, 0), (29, 0), (28, 13), (5, 0), (4, 0), (7, 0), (5, 0), (6, 0), (1, 0), (23, 0), (26, 251), (1, 45), (33, 0), (5, 0), (6, 0), (14, 0), (5, 0), (4, 0), (7, 0), (5, 0), (6, 0), (1, 0), (23, 0), (26, 251), (1, 50), (33, 0), (1, 49), (33, 0), (1, 52), (33, 0), (1, 55), (33, 0), (1, 52), (33, 0), (1, 56), (33, 0), (1, 51), (33, 0), (1, 54), (33, 0), (1, 52), (33, 0), (1, 56), (33, 0), (29, 0), (5, 2), (5, 1), (6, 0), (9, 0), (5, 0), (6, 0), (1, 10), (13, 0), (1, 48), (9, 0), (7, 0), (5, 1), (6, 0), (1, 1), (9, 0), (5, 1), (4, 0), (7, 0), (5, 0), (6, 0), (1, 10), (12, 0), (5, 0), (4, 0), (7, 0), (5, 0), (6, 0), (26, 280), (25, 251), (5, 1), (6, 0), (26, 297), (5, 1), (6, 0), (1, (-1)), (9, 0), (5, 1), (4, 0), (7, 0), (5, 2), (5, 1), (6, 0), (9, 0), (6, 0), (33, 0), (25, 280), (29, 0), (28, 2), (5, 0), (4, 0), (7, 0), (5, 1), (4, 0), (7, 0), (5, 0), (6, 0), (26, 330), (5, 1), (6, 0), (6, 0), (2, 0), (26, 329), (33, 0), (5, 1), (6, 0), (1, 1), (9, 0), (5, 1), (4, 0), (7, 0), (5, 0), (6, 0), (1, (-1)), (9, 0), (5, 0), (4, 0), (7, 0), (25, 305), (3, 0), (29, 0)]), (.i .i64 21), (.i .i64 5), (.i .i64 0)]⟩
def sl_c2 : Ent := ⟨8, [qum, .nil], .tup [qgr, (.i .i64 0)]⟩
def sl_g2 : Ent := ⟨23, [(.i .i64 0), (.sl [qgr])], .tup [(slC [(1, 1), (1, 5), (7, 0), (1, 2), (1, 5), (7, 0), (28, 0), (1, 4), (1, 1), (7, 0), (1, 4), (6, 0), (1, 4), (6, 0), (1, 4), (6, 0), (1, 4), (6, 0), (1, 4), (6, 0), (1, 4), (6, 0), (1, 4), (6, 0), (1, 4), (6, 0), (1, 4), (6, 0), (1, 4), (6, 0), (1, 4), (6, 0), (1, 4), (6, 0), (9, 0), (9, 0), (9, 0), (9, 0), (9, 0), (9, 0), (9, 0), (9, 0), (9, 0), (9, 0), (9, 0), (27, 211), (0, 0), (30, 1), (30, 1), (30, 2), (30, 3), (30, 4), (30, 5), (30, 6), (30, 7), (30, 8), (30, 9), (28, 2), (5, 0), (4, 0), (7, 0), (5, 1), (4, 0), (7, 0), (5, 1), (6, 0), (5, 0), (6, 0), (23, 0), (26, 48), (1, 0), (5, 1), (6, 0), (24, 0), (26, 48), (5, 1), (6, 0), (29, 0), (28, 2), (5, 0), (4, 0), (7, 0), (5, 1), (4, 0), (7, 0), (5, 1), (6, 0), (26, 114), (5, 1), (6, 0), (6, 0), (5, 1), (4, 0), (7, 0), (5, 1), (6, 0), (26, 114), (5, 1), (6, 0), (5, 0), (6, 0), (22, 0), (26, 105), (1, 1), (29, 0), (5, 1), (6, 0), (1, 3), (9, 0), (6, 0), (5, 1), (4, 0), (7, 0), (25, 94), (1, 0), (29, 0), (28, 2), (5, 0), (4, 0), (7, 0), (5, 1), (4, 0), (7, 0), (1, 1), (6, 0), (5, 1), (6, 0), (9, 0), (1, 2), (6, 0), (23, 0), (26, 55), (1, 1), (6, 0), (2, 0), (5, 0), (6, 0), (7, 0), (1, 1), (1, 1), (6, 0), (5, 1), (6, 0), (9, 0), (1, 1), (9, 0), (7, 0), (29, 0), (28, 2), (5, 0), (4, 0), (7, 0), (5, 1), (4, 0), (7, 0), (5, 1), (6, 0), (1, (-32)), (15, 0), (1, 0), (22, 0), (26, 170), (5, 0), (6, 0), (5, 1), (6, 0), (20, 0), (1, 1), (15, 0), (29, 0), (1, 0), (29, 0), (28, 2), (5, 0), (4, 0), (7, 0), (5, 1), (4, 0), (7, 0), (5, 0), (6, 0), (1, (-32)), (15, 0), (1, 0), (22, 0), (26, 53), (5, 1), (6, 0), (1, (-32)), (15, 0), (1, 0), (22, 0), (26, 53), (5, 1), (6, 0), (5, 0), (6, 0), (24, 0), (26, 209), (1, 2), (5, 0), (6, 0), (19, 0), (1, 1), (5, 1), (6, 0), (19, 0), (10, 0), (29, 0), (1, 0), (29, 0), (28, 13), (5, 0), (4, 0), (7, 0), (5, 0), (6, 0), (1, 0), (23, 0), (26, 254), (1, 45), (33, 0), (5, 0), (6, 0), (14, 0), (5, 0), (4, 0), (7, 0), (5, 0), (6, 0), (1, 0), (23, 0), (26, 254), (1, 50), (33, 0), (1, 49), (33, 0), (1, 52), (33, 0), (1, 55), (33, 0), (1, 52), (33, 0), (1, 56), (33, 0), (1, 51), (33, 0), (1, 54), (33, 0), (1, 52), (33, 0), (1, 56), (33, 0), (29, 0), (5, 2), (5, 1), (6, 0), (9, 0), (5, 0), (6, 0), (1, 10), (13, 0), (1, 48), (9, 0), (7, 0), (5, 1), (6, 0), (1, 1), (9, 0), (5, 1), (4, 0), (7, 0), (5, 0), (6, 0), (1, 10), (12, 0), (5, 0), (4, 0), (7, 0), (5, 0), (6, 0), (26, 283), (25, 254), (5, 1), (6, 0), (26, 300), (5, 1), (6, 0), (1, (-1)), (9, 0), (5, 1), (4, 0), (7, 0), (5, 2), (5, 1), (6, 0), (9, 0), (6, 0), (33, 0), (25, 283), (29, 0), (28, 2), (5, 0), (4, 0), (7, 0), (5, 1), (4, 0), (7, 0), (5, 0), (6, 0), (26, 333), (5, 1), (6, 0), (6, 0), (2, 0), (26, 332), (33, 0), (5, 1), (6, 0), (1, 1), (9, 0), (5, 1), (4, 0), (7, 0), (5, 0), (6, 0), (1, (-1)), (9, 0), (5, 0), (4, 0), (7, 0), (25, 308), (3, 0), (29, 0)]), (.i .i64 21), (.i .i64 5), (.i .i64 0)]⟩
def sl_c3 : Ent := ⟨8, [qAo, .nil], .tup [qvn, (.i .i64 0)]⟩
def sl_c4 : Ent := ⟨8, [qAj, .nil], .tup [qvz, (.i .i64 0)]⟩
def sl_k : Ent := ⟨7, [], .one (.b true)⟩
def sl_h0_0 : Ent := ⟨11, [(.sl [qgp]), (.i .i64 0)], .one (.i .i64 0)⟩
def sl_h0_65535 : Ent := ⟨11, [(.sl [qgp]), (.i .i64 65535)], .one (.i .i64 0)⟩
def sl_r0 : Ent := ⟨12, [(.sl [qgp]), .nil, (.i .i64 0), (.i .i64 0), (.i .i64 4)], .tup [(.agg [(.sl [(.i .u8 49), (.i .u8 48)]), (.i .i64 1), (.i .i64 0)]), (.b true)]⟩
def sl_d10 : Ent := ⟨13, [(.i .i64 10)], .one (.s [49, 48])⟩
def sl_h0_65536 : Ent := ⟨11, [(.sl [qgp]), (.i .i64 65536)], .one (.i .i64 0)⟩
def sl_h0_65537 : Ent := ⟨11, [(.sl [qgp]), (.i .i64 65537)], .one (.i .i64 45)⟩
def sl_h1_0 : Ent := ⟨11, [(.sl [qgo]), (.i .i64 0)], .one (.i .i64 0)⟩
def sl_h1_65535 : Ent := ⟨11, [(.sl [qgo]), (.i .i64 65535)], .one (.i .i64 0)⟩
def sl_r1 : Ent := ⟨12, [(.sl [qgo]), .nil, (.i .i64 0), (.i .i64 0), (.i .i64 4)], .tup [(.agg [(.sl [(.i .u8 49), (.i .u8 49)]), (.i .i64 1), (.i .i64 0)]), (.b true)]⟩
def sl_d11 : Ent := ⟨13, [(.i .i64 11)], .one (.s [49, 49])⟩
def sl_h1_65536 : Ent := ⟨11, [(.sl [qgo]), (.i .i64 65536)], .one (.i .i64 0)⟩
def sl_h1_65537 : Ent := ⟨11, [(.sl [qgo]), (.i .i64 65537)], .one (.i .i64 45)⟩
def sl_h2_0 : Ent := ⟨11, [(.sl [qgr]), (.i .i64 0)], .one (.i .i64 0)⟩
def sl_h2_65535 : Ent := ⟨11, [(.sl [qgr]), (.i .i64 65535)], .one (.i .i64 0)⟩
def sl_r2 : Ent := ⟨12, [(.sl [qgr]), .nil, (.i .i64 0), (.i .i64 0), (.i .i64 4)], .tup [(.agg [(.sl [(.i .u8 49), (.i .u8 50)]), (.i .i64 1), (.i .i64 0)]), (.b true)]⟩
def sl_d12 : Ent := ⟨13, [(.i .i64 12)], .one (.s [49, 50])⟩
def sl_h2_65536 : Ent := ⟨11, [(.sl [qgr]), (.i .i64 65536)], .one (.i .i64 0)⟩
def sl_h2_65537 : Ent := ⟨11, [(.sl [qgr]), (.i .i64 65537)], .one (.i .i64 45)⟩
def sl_h3_0 : Ent := ⟨11, [(.sl [qvn]), (.i .i64 0)], .one (.i .i64 44)⟩
def sl_h4_0 : Ent := ⟨11, [(.sl [qvz]), (.i .i64 0)], .one (.i .i64 44)⟩
def qAa : List Ent := [sl_ck, sl_gk, sl_g0, sl_g1, sl_g2]
def pg2 : Pg := ⟨fun n => bif qCy n 8 then none else bif qCy n 23 then none else pg.fn n, fun i vs H => bif qCy i 306 then ixX vs H else qpf qAa i vs H⟩
theorem qeL : qG pg2.ext := fun i vs H r h => by
  simp only [pg2, qCA] at h
  split at h
  · exact quQ i vs H r h
  · exact qsB i vs H r h
def slT : List Ent := [sl_c0, sl_c1, sl_c2, sl_c3, sl_c4, sl_k, sl_h0_0, sl_h0_65535, sl_r0, sl_d10, sl_h0_65536, sl_h0_65537, sl_h1_0, sl_h1_65535, sl_r1, sl_d11, sl_h1_65536, sl_h1_65537, sl_h2_0, sl_h2_65535, sl_r2, sl_d12, sl_h2_65536, sl_h2_65537, sl_h3_0, sl_h4_0]
end W

/-
  More equations: nil slices, shifts, bits, bytes.
-/
set_option linter.unusedSimpArgs false
set_option linter.unusedVariables false
namespace W
open Go (IntKind BinOp UnOp)
theorem qhE {n : Nat} : isC (.t n) = false := (rfl)
theorem qiK {x : D} : isC (.c x) = true := (rfl)
def qn8 (s : Nat) (v : V) : V := match v with | .lp t o => bif qCy t s then .undef else .lp t o | v => v
theorem k9 {s : Nat} : qbL s [] = [] := (rfl)
theorem kP {s n : Nat} {v : V} {e : Env} : qbL s ((n, v) :: e) = (n, qn8 s v) :: qbL s e := (rfl)
theorem qaY {s : Nat} {x : D} : qn8 s (.d x) = .d x := (rfl)
theorem yB {s : Nat} {x : List D} : qn8 s (.osl x) = .osl x := (rfl)
theorem yE {s : Nat} {x : List V} : qn8 s (.box x) = .box x := (rfl)
theorem zY {s : Nat} {x : List V} : qn8 s (.tup x) = .tup x := (rfl)
theorem zF {s : Nat} : qn8 s .undef = .undef := (rfl)
theorem q9 {cs vs : List V} (h : (vs.length = cs.length) = True) : ko cs 0 vs = some vs := by
  have h : vs.length = cs.length := by rw [h]; trivial
  simp [ko, h]
def lpD (r : Bool) (n m o : Nat) (st : St) : Option St := bif r then none else some { st with env := (n, .lp m o) :: st.env }
theorem qdf {bx : Bool} {no : List Nat} {n m o : Nat} {st : St} : qja bx no (some n) (.lp m o) st = lpD (qcD m no) n m o st := (rfl)
theorem qkE {n m o : Nat} {st : St} : lpD false n m o st = some ⟨(n, .lp m o) :: st.env, st.H, st.lo⟩ := (rfl)
theorem jq {n : Nat} : qcD n [] = false := (rfl)
def e8 (n : Nat) : D := .i .u8 (n : Int)
end W

/- Walking on: interfaces, panics, function values, deferred closures. -/
set_option linter.unusedSimpArgs false
set_option linter.unusedVariables false
namespace W
open Go (IntKind BinOp UnOp)
variable {pg : Pg} {st : St} {call : Call}
end W

/-
  Walking of rows that may be written.
-/
set_option linter.unusedSimpArgs false
set_option linter.unusedVariables false
namespace W
open Go (IntKind BinOp UnOp)
section
variable {call : Call} {st : St}
end
end W

/- StackLimits, by its five lengths and three heaps. -/
set_option linter.unusedSimpArgs false
set_option linter.unusedVariables false
namespace W
open Go (IntKind BinOp UnOp)
set_option maxRecDepth 20000
theorem qmx {n : Int} (h1 : (-9223372036854775808 ≤ n) = True) (h2 : (n ≤ 9223372036854775807) = True) : wr .i64 n = n := qzN (by rw [h1]; trivial) (by rw [h2]; trivial)
def pgL : Pg := ⟨fun n => bif qCy n 4 then some qa else none, fun i vs H => qpf slT i vs H⟩
theorem qwe : qG pgL.ext := fun i vs H r h => qsB i vs H r h
theorem qz {f : Nat} {vs : List V} {H : List Obj} {e : Ent} (h0 : qCy f 4 = false) (h : pick f vs slT = some e) : ql pgL f vs H = some ⟨false, true, e.r.v, H, H.length⟩ := by
  rw [qmA]
  have : pgL.fn f = none := by simp only [pgL, h0, cond_false]
  simp only [qt, this]
  show qpf slT f vs H = _
  simp only [qpf, h]
theorem zQ {H : List Obj} : ql pgL 7 [] H = some ⟨false, true, .d (.b true), H, H.length⟩ := qz (e := sl_k) rfl (by kernel_rfl)
theorem qyq {H : List Obj} : ql pgL 8 [.d qt8, .d .nil] H = some ⟨false, true, .tup [.d qgp, .d (.i .i64 0)], H, H.length⟩ := qz (e := sl_c0) rfl (by kernel_rfl)
theorem qqA {H : List Obj} : ql pgL 11 [.d (.sl [qgp]), .d (.i .i64 0)] H = some ⟨false, true, .d (.i .i64 0), H, H.length⟩ := qz (e := sl_h0_0) rfl (by kernel_rfl)
theorem qqC {H : List Obj} : ql pgL 11 [.d (.sl [qgp]), .d (.i .i64 65535)] H = some ⟨false, true, .d (.i .i64 0), H, H.length⟩ := qz (e := sl_h0_65535) rfl (by kernel_rfl)
theorem qrH {H : List Obj} : ql pgL 11 [.d (.sl [qgp]), .d (.i .i64 65536)] H = some ⟨false, true, .d (.i .i64 0), H, H.length⟩ := qz (e := sl_h0_65536) rfl (by kernel_rfl)
theorem qrE {H : List Obj} : ql pgL 11 [.d (.sl [qgp]), .d (.i .i64 65537)] H = some ⟨false, true, .d (.i .i64 45), H, H.length⟩ := qz (e := sl_h0_65537) rfl (by kernel_rfl)
theorem qy1 {H : List Obj} : ql pgL 12 [.d (.sl [qgp]), .d .nil, .d (.i .i64 0), .d (.i .i64 0), .d (.i .i64 4)] H = some ⟨false, true, .tup [.d (.agg [.sl [.i .u8 49, .i .u8 48], .i .i64 1, .i .i64 0]), .d (.b true)], H, H.length⟩ := qz (e := sl_r0) rfl (by kernel_rfl)
theorem qza : kC [.i .u8 49, .i .u8 48] = some [49, 48] := (rfl)
theorem qAE {H : List Obj} : ql pgL 13 [.d (.i .i64 10)] H = some ⟨false, true, .d (.s [49, 48]), H, H.length⟩ := qz (e := sl_d10) rfl (by kernel_rfl)
theorem qys {H : List Obj} : ql pgL 8 [.d qub, .d .nil] H = some ⟨false, true, .tup [.d qgo, .d (.i .i64 0)], H, H.length⟩ := qz (e := sl_c1) rfl (by kernel_rfl)
theorem qrR {H : List Obj} : ql pgL 11 [.d (.sl [qgo]), .d (.i .i64 0)] H = some ⟨false, true, .d (.i .i64 0), H, H.length⟩ := qz (e := sl_h1_0) rfl (by kernel_rfl)
theorem qrh {H : List Obj} : ql pgL 11 [.d (.sl [qgo]), .d (.i .i64 65535)] H = some ⟨false, true, .d (.i .i64 0), H, H.length⟩ := qz (e := sl_h1_65535) rfl (by kernel_rfl)
theorem qre {H : List Obj} : ql pgL 11 [.d (.sl [qgo]), .d (.i .i64 65536)] H = some ⟨false, true, .d (.i .i64 0), H, H.length⟩ := qz (e := sl_h1_65536) rfl (by kernel_rfl)
theorem qrN {H : List Obj} : ql pgL 11 [.d (.sl [qgo]), .d (.i .i64 65537)] H = some ⟨false, true, .d (.i .i64 45), H, H.length⟩ := qz (e := sl_h1_65537) rfl (by kernel_rfl)
theorem qx2 {H : List Obj} : ql pgL 12 [.d (.sl [qgo]), .d .nil, .d (.i .i64 0), .d (.i .i64 0), .d (.i .i64 4)] H = some ⟨false, true, .tup [.d (.agg [.sl [.i .u8 49, .i .u8 49], .i .i64 1, .i .i64 0]), .d (.b true)], H, H.length⟩ := qz (e := sl_r1) rfl (by kernel_rfl)
theorem qz3 : kC [.i .u8 49, .i .u8 49] = some [49, 49] := (rfl)
theorem qAA {H : List Obj} : ql pgL 13 [.d (.i .i64 11)] H = some ⟨false, true, .d (.s [49, 49]), H, H.length⟩ := qz (e := sl_d11) rfl (by kernel_rfl)
theorem qyx {H : List Obj} : ql pgL 8 [.d qum, .d .nil] H = some ⟨false, true, .tup [.d qgr, .d (.i .i64 0)], H, H.length⟩ := qz (e := sl_c2) rfl (by kernel_rfl)
theorem qrK {H : List Obj} : ql pgL 11 [.d (.sl [qgr]), .d (.i .i64 0)] H = some ⟨false, true, .d (.i .i64 0), H, H.length⟩ := qz (e := sl_h2_0) rfl (by kernel_rfl)
theorem qqS {H : List Obj} : ql pgL 11 [.d (.sl [qgr]), .d (.i .i64 65535)] H = some ⟨false, true, .d (.i .i64 0), H, H.length⟩ := qz (e := sl_h2_65535) rfl (by kernel_rfl)
theorem qrT {H : List Obj} : ql pgL 11 [.d (.sl [qgr]), .d (.i .i64 65536)] H = some ⟨false, true, .d (.i .i64 0), H, H.length⟩ := qz (e := sl_h2_65536) rfl (by kernel_rfl)
theorem qrQ {H : List Obj} : ql pgL 11 [.d (.sl [qgr]), .d (.i .i64 65537)] H = some ⟨false, true, .d (.i .i64 45), H, H.length⟩ := qz (e := sl_h2_65537) rfl (by kernel_rfl)
theorem qzq {H : List Obj} : ql pgL 12 [.d (.sl [qgr]), .d .nil, .d (.i .i64 0), .d (.i .i64 0), .d (.i .i64 4)] H = some ⟨false, true, .tup [.d (.agg [.sl [.i .u8 49, .i .u8 50], .i .i64 1, .i .i64 0]), .d (.b true)], H, H.length⟩ := qz (e := sl_r2) rfl (by kernel_rfl)
theorem qyM : kC [.i .u8 49, .i .u8 50] = some [49, 50] := (rfl)
theorem qyr {H : List Obj} : ql pgL 13 [.d (.i .i64 12)] H = some ⟨false, true, .d (.s [49, 50]), H, H.length⟩ := qz (e := sl_d12) rfl (by kernel_rfl)
theorem qCt {H : List Obj} : ql pgL 8 [.d qAo, .d .nil] H = some ⟨false, true, .tup [.d qvn, .d (.i .i64 0)], H, H.length⟩ := qz (e := sl_c3) rfl (by kernel_rfl)
theorem qAl {H : List Obj} : ql pgL 11 [.d (.sl [qvn]), .d (.i .i64 0)] H = some ⟨false, true, .d (.i .i64 44), H, H.length⟩ := qz (e := sl_h3_0) rfl (by kernel_rfl)
theorem qCg {H : List Obj} : ql pgL 8 [.d qAj, .d .nil] H = some ⟨false, true, .tup [.d qvz, .d (.i .i64 0)], H, H.length⟩ := qz (e := sl_c4) rfl (by kernel_rfl)
theorem qyJ {H : List Obj} : ql pgL 11 [.d (.sl [qvz]), .d (.i .i64 0)] H = some ⟨false, true, .d (.i .i64 44), H, H.length⟩ := qz (e := sl_h4_0) rfl (by kernel_rfl)
theorem qwo {n w : Nat} (hn : Int.tmod (n : Nat) 5 = (0 : Nat)) (hw : Int.tmod (w : Nat) 3 = (0 : Nat)) : ∃ lo, ql pgL 4 [.d (.i .u8 (n : Nat)), .d (.i .u8 (w : Nat))] [] = some ⟨false, true, .d (.b true), [], lo⟩ := by
  have hc := @qyq
  have h0 := @qqA
  simp only [qt8, qgp] at hc h0
  have h1 := @qqC
  have hr := @qy1
  simp only [qgp] at h1 hr
  rw [jY (fn := qa) rfl rfl]
  simp only [qa, qh, qf, qg, kJ, Nat.zero_add, Nat.reduceAdd, zu, List.length_nil, qaQ, qa8, j0, z7, ql8, qbt, qdC, qit, zn, jd, zg, List.map_nil, qZ, qa6, zQ, zl, ki, Nat.min_self, jT, qmR, qeg, qbb, qdz, Bool.not_true, qCH, jX, jS, qaO, qCG, ↓reduceIte, yk, reduceCtorEq, qdT, qaJ, zZ, qhE, qiK, Bool.or_true, Int.reduceEq, qbe, hn, Int.cast_ofNat_Int, zp, Int.reduceNeg, Int.reduceLE, qmx, qbh, Int.reduceSub, zW, ym, qO, Nat.reduceEqDiff, qbr, ke, Bool.or_false, qaP, Int.reduceAdd, Bool.or_self, qaK, Int.reduceLT, decide_true, List.length_cons, Nat.reduceLeDiff, ya, List.cons_append, List.nil_append, zo, decide_false, yh, zm, kG, List.map_cons, qM, yl, Bool.and_self, hc, qQ, qbi, jc, qP, qdR, qdW, qdI, kg, qa9, kP, qaY, zY, k9, kL, zU, z8, zV, z5, qd6, qir, qdv, qbl, yb, zc, q9, kH, yp, qbq, za, yg, qdX, List.drop_zero, List.take_succ_cons, List.take_zero, qbm, j7, qdP, yn, zx, zR, qy, zk, List.reduceReplicate, Nat.reduceLT, zr, List.set_cons_zero, zP, j8, qdJ, zq, z3, qbc, jZ, qaZ, zT, h0, qiH, qaH, jW, qbd, hw, h1, hr, yB, zF, yE, qkx, qbf, yr, zG, qf5, yx, qa3, yy, qaX, qbn, yq, qdc, qbg, beq_self_eq_true, jr, qcU, qbp, qi4, qR, qgl, qdf, jq, qkE, qbx, qgg, List.getElem?_cons_succ, List.getElem?_cons_zero, Nat.add_zero, jt, qby, qza, zE, qAE, qbu, zD, qbo, yi, qN, z0, qdD, kp, zt, ye]
  all_goals exact ⟨_, rfl⟩
theorem qxd {n w : Nat} (hn : Int.tmod (n : Nat) 5 = (0 : Nat)) (hw : Int.tmod (w : Nat) 3 = (1 : Nat)) : ∃ lo, ql pgL 4 [.d (.i .u8 (n : Nat)), .d (.i .u8 (w : Nat))] [] = some ⟨false, true, .d (.b true), [], lo⟩ := by
  have hc := @qyq
  have h0 := @qqA
  simp only [qt8, qgp] at hc h0
  have h1 := @qrH
  have hr := @qy1
  simp only [qgp] at h1 hr
  rw [jY (fn := qa) rfl rfl]
  simp only [qa, qh, qf, qg, kJ, Nat.zero_add, Nat.reduceAdd, zu, List.length_nil, qaQ, qa8, j0, z7, ql8, qbt, qdC, qit, zn, jd, zg, List.map_nil, qZ, qa6, zQ, zl, ki, Nat.min_self, jT, qmR, qeg, qbb, qdz, Bool.not_true, qCH, jX, jS, qaO, qCG, ↓reduceIte, yk, reduceCtorEq, qdT, qaJ, zZ, qhE, qiK, Bool.or_true, Int.reduceEq, qbe, hn, Int.cast_ofNat_Int, zp, Int.reduceNeg, Int.reduceLE, qmx, qbh, Int.reduceSub, zW, ym, qO, Nat.reduceEqDiff, qbr, ke, Bool.or_false, qaP, Int.reduceAdd, Bool.or_self, qaK, Int.reduceLT, decide_true, List.length_cons, Nat.reduceLeDiff, ya, List.cons_append, List.nil_append, zo, decide_false, yh, zm, kG, List.map_cons, qM, yl, Bool.and_self, hc, qQ, qbi, jc, qP, qdR, qdW, qdI, kg, qa9, kP, qaY, zY, k9, kL, zU, z8, zV, z5, qd6, qir, qdv, qbl, yb, zc, q9, kH, yp, qbq, za, yg, qdX, List.drop_zero, List.take_succ_cons, List.take_zero, qbm, j7, qdP, yn, zx, zR, qy, zk, List.reduceReplicate, Nat.reduceLT, zr, List.set_cons_zero, zP, j8, qdJ, zq, z3, qbc, jZ, qaZ, zT, h0, qiH, qaH, jW, qbd, hw, h1, hr, yB, zF, yE, qkx, qbf, yr, zG, qf5, yx, qa3, yy, qaX, qbn, yq, qdc, qbg, beq_self_eq_true, jr, qcU, qbp, qi4, qR, qgl, qdf, jq, qkE, qbx, qgg, List.getElem?_cons_succ, List.getElem?_cons_zero, Nat.add_zero, jt, qby, qza, zE, qAE, qbu, zD, qbo, yi, qN, z0, qdD, kp, zt, ye]
  all_goals exact ⟨_, rfl⟩
theorem qw6 {n w : Nat} (hn : Int.tmod (n : Nat) 5 = (0 : Nat)) (hw : Int.tmod (w : Nat) 3 = (2 : Nat)) : ∃ lo, ql pgL 4 [.d (.i .u8 (n : Nat)), .d (.i .u8 (w : Nat))] [] = some ⟨false, true, .d (.b true), [], lo⟩ := by
  have hc := @qyq
  have h0 := @qqA
  simp only [qt8, qgp] at hc h0
  have h1 := @qrE
  have hr := @qy1
  simp only [qgp] at h1 hr
  rw [jY (fn := qa) rfl rfl]
  simp only [qa, qh, qf, qg, kJ, Nat.zero_add, Nat.reduceAdd, zu, List.length_nil, qaQ, qa8, j0, z7, ql8, qbt, qdC, qit, zn, jd, zg, List.map_nil, qZ, qa6, zQ, zl, ki, Nat.min_self, jT, qmR, qeg, qbb, qdz, Bool.not_true, qCH, jX, jS, qaO, qCG, ↓reduceIte, yk, reduceCtorEq, qdT, qaJ, zZ, qhE, qiK, Bool.or_true, Int.reduceEq, qbe, hn, Int.cast_ofNat_Int, zp, Int.reduceNeg, Int.reduceLE, qmx, qbh, Int.reduceSub, zW, ym, qO, Nat.reduceEqDiff, qbr, ke, Bool.or_false, qaP, Int.reduceAdd, Bool.or_self, qaK, Int.reduceLT, decide_true, List.length_cons, Nat.reduceLeDiff, ya, List.cons_append, List.nil_append, zo, decide_false, yh, zm, kG, List.map_cons, qM, yl, Bool.and_self, hc, qQ, qbi, jc, qP, qdR, qdW, qdI, kg, qa9, kP, qaY, zY, k9, kL, zU, z8, zV, z5, qd6, qir, qdv, qbl, yb, zc, q9, kH, yp, qbq, za, yg, qdX, List.drop_zero, List.take_succ_cons, List.take_zero, qbm, j7, qdP, yn, zx, zR, qy, zk, List.reduceReplicate, Nat.reduceLT, zr, List.set_cons_zero, zP, j8, qdJ, zq, z3, qbc, jZ, qaZ, zT, h0, qiH, qaH, jW, qbd, hw, h1, hr, yB, zF, yE, qkx, qbf, yr, zG, qf5, yx, qa3, yy, qaX, qbn, yq, qdc, qbg, beq_self_eq_true, jr, qcU, qbp, Bool.not_false, qR, qgl, qdf, jq, qkE, qbx, qgg, List.getElem?_cons_succ, List.getElem?_cons_zero, Nat.add_zero, jt, qby, qza, zE, qAE, qbu, zD, qbo, yi, qN, z0, qdD, kp, zt, ye]
  all_goals exact ⟨_, rfl⟩
theorem qwN {n w : Nat} (hn : Int.tmod (n : Nat) 5 = (1 : Nat)) (hw : Int.tmod (w : Nat) 3 = (0 : Nat)) : ∃ lo, ql pgL 4 [.d (.i .u8 (n : Nat)), .d (.i .u8 (w : Nat))] [] = some ⟨false, true, .d (.b true), [], lo⟩ := by
  have hc := @qys
  have h0 := @qrR
  simp only [qub, qgo] at hc h0
  have h1 := @qrh
  have hr := @qx2
  simp only [qgo] at h1 hr
  rw [jY (fn := qa) rfl rfl]
  simp only [qa, qh, qf, qg, kJ, Nat.zero_add, Nat.reduceAdd, zu, List.length_nil, qaQ, qa8, j0, z7, ql8, qbt, qdC, qit, zn, jd, zg, List.map_nil, qZ, qa6, zQ, zl, ki, Nat.min_self, jT, qmR, qeg, qbb, qdz, Bool.not_true, qCH, jX, jS, qaO, qCG, ↓reduceIte, yk, reduceCtorEq, qdT, qaJ, zZ, qhE, qiK, Bool.or_true, Int.reduceEq, qbe, hn, Int.cast_ofNat_Int, zp, Int.reduceNeg, Int.reduceLE, qmx, qbh, Int.reduceSub, zW, ym, qO, Nat.reduceEqDiff, qbr, ke, Bool.or_false, qaP, Int.reduceAdd, Bool.or_self, qaK, Int.reduceLT, decide_true, List.length_cons, Nat.reduceLeDiff, ya, List.cons_append, List.nil_append, zo, decide_false, yh, zm, kG, List.map_cons, qM, yl, Bool.and_self, hc, qQ, qbi, jc, qP, qdR, qdW, qdI, kg, qa9, kP, qaY, zY, k9, kL, zU, z8, zV, z5, qd6, qir, qdv, qbl, yb, zc, q9, kH, yp, qbq, za, yg, qdX, List.drop_zero, List.take_succ_cons, List.take_zero, qbm, j7, qdP, yn, zx, zR, qy, zk, List.reduceReplicate, Nat.reduceLT, zr, List.set_cons_zero, zP, j8, qdJ, zq, z3, qbc, jZ, qaZ, zT, h0, qiH, qaH, jW, qbd, hw, h1, hr, yB, zF, yE, qkx, qbf, yr, zG, qf5, yx, qa3, yy, qaX, qbn, yq, qdc, qbg, beq_self_eq_true, jr, qcU, qbp, qi4, qR, qgl, qdf, jq, qkE, qbx, qgg, List.getElem?_cons_succ, List.getElem?_cons_zero, Nat.add_zero, jt, qby, qz3, zE, qAA, qbu, zD, qbo, yi, qN, z0, qdD, kp, zt, ye]
  all_goals exact ⟨_, rfl⟩
theorem qxe {n w : Nat} (hn : Int.tmod (n : Nat) 5 = (1 : Nat)) (hw : Int.tmod (w : Nat) 3 = (1 : Nat)) : ∃ lo, ql pgL 4 [.d (.i .u8 (n : Nat)), .d (.i .u8 (w : Nat))] [] = some ⟨false, true, .d (.b true), [], lo⟩ := by
  have hc := @qys
  have h0 := @qrR
  simp only [qub, qgo] at hc h0
  have h1 := @qre
  have hr := @qx2
  simp only [qgo] at h1 hr
  rw [jY (fn := qa) rfl rfl]
  simp only [qa, qh, qf, qg, kJ, Nat.zero_add, Nat.reduceAdd, zu, List.length_nil, qaQ, qa8, j0, z7, ql8, qbt, qdC, qit, zn, jd, zg, List.map_nil, qZ, qa6, zQ, zl, ki, Nat.min_self, jT, qmR, qeg, qbb, qdz, Bool.not_true, qCH, jX, jS, qaO, qCG, ↓reduceIte, yk, reduceCtorEq, qdT, qaJ, zZ, qhE, qiK, Bool.or_true, Int.reduceEq, qbe, hn, Int.cast_ofNat_Int, zp, Int.reduceNeg, Int.reduceLE, qmx, qbh, Int.reduceSub, zW, ym, qO, Nat.reduceEqDiff, qbr, ke, Bool.or_false, qaP, Int.reduceAdd, Bool.or_self, qaK, Int.reduceLT, decide_true, List.length_cons, Nat.reduceLeDiff, ya, List.cons_append, List.nil_append, zo, decide_false, yh, zm, kG, List.map_cons, qM, yl, Bool.and_self, hc, qQ, qbi, jc, qP, qdR, qdW, qdI, kg, qa9, kP, qaY, zY, k9, kL, zU, z8, zV, z5, qd6, qir, qdv, qbl, yb, zc, q9, kH, yp, qbq, za, yg, qdX, List.drop_zero, List.take_succ_cons, List.take_zero, qbm, j7, qdP, yn, zx, zR, qy, zk, List.reduceReplicate, Nat.reduceLT, zr, List.set_cons_zero, zP, j8, qdJ, zq, z3, qbc, jZ, qaZ, zT, h0, qiH, qaH, jW, qbd, hw, h1, hr, yB, zF, yE, qkx, qbf, yr, zG, qf5, yx, qa3, yy, qaX, qbn, yq, qdc, qbg, beq_self_eq_true, jr, qcU, qbp, qi4, qR, qgl, qdf, jq, qkE, qbx, qgg, List.getElem?_cons_succ, List.getElem?_cons_zero, Nat.add_zero, jt, qby, qz3, zE, qAA, qbu, zD, qbo, yi, qN, z0, qdD, kp, zt, ye]
  all_goals exact ⟨_, rfl⟩
theorem qwY {n w : Nat} (hn : Int.tmod (n : Nat) 5 = (1 : Nat)) (hw : Int.tmod (w : Nat) 3 = (2 : Nat)) : ∃ lo, ql pgL 4 [.d (.i .u8 (n : Nat)), .d (.i .u8 (w : Nat))] [] = some ⟨false, true, .d (.b true), [], lo⟩ := by
  have hc := @qys
  have h0 := @qrR
  simp only [qub, qgo] at hc h0
  have h1 := @qrN
  have hr := @qx2
  simp only [qgo] at h1 hr
  rw [jY (fn := qa) rfl rfl]
  simp only [qa, qh, qf, qg, kJ, Nat.zero_add, Nat.reduceAdd, zu, List.length_nil, qaQ, qa8, j0, z7, ql8, qbt, qdC, qit, zn, jd, zg, List.map_nil, qZ, qa6, zQ, zl, ki, Nat.min_self, jT, qmR, qeg, qbb, qdz, Bool.not_true, qCH, jX, jS, qaO, qCG, ↓reduceIte, yk, reduceCtorEq, qdT, qaJ, zZ, qhE, qiK, Bool.or_true, Int.reduceEq, qbe, hn, Int.cast_ofNat_Int, zp, Int.reduceNeg, Int.reduceLE, qmx, qbh, Int.reduceSub, zW, ym, qO, Nat.reduceEqDiff, qbr, ke, Bool.or_false, qaP, Int.reduceAdd, Bool.or_self, qaK, Int.reduceLT, decide_true, List.length_cons, Nat.reduceLeDiff, ya, List.cons_append, List.nil_append, zo, decide_false, yh, zm, kG, List.map_cons, qM, yl, Bool.and_self, hc, qQ, qbi, jc, qP, qdR, qdW, qdI, kg, qa9, kP, qaY, zY, k9, kL, zU, z8, zV, z5, qd6, qir, qdv, qbl, yb, zc, q9, kH, yp, qbq, za, yg, qdX, List.drop_zero, List.take_succ_cons, List.take_zero, qbm, j7, qdP, yn, zx, zR, qy, zk, List.reduceReplicate, Nat.reduceLT, zr, List.set_cons_zero, zP, j8, qdJ, zq, z3, qbc, jZ, qaZ, zT, h0, qiH, qaH, jW, qbd, hw, h1, hr, yB, zF, yE, qkx, qbf, yr, zG, qf5, yx, qa3, yy, qaX, qbn, yq, qdc, qbg, beq_self_eq_true, jr, qcU, qbp, Bool.not_false, qR, qgl, qdf, jq, qkE, qbx, qgg, List.getElem?_cons_succ, List.getElem?_cons_zero, Nat.add_zero, jt, qby, qz3, zE, qAA, qbu, zD, qbo, yi, qN, z0, qdD, kp, zt, ye]
  all_goals exact ⟨_, rfl⟩
theorem qwv {n w : Nat} (hn : Int.tmod (n : Nat) 5 = (2 : Nat)) (hw : Int.tmod (w : Nat) 3 = (0 : Nat)) : ∃ lo, ql pgL 4 [.d (.i .u8 (n : Nat)), .d (.i .u8 (w : Nat))] [] = some ⟨false, true, .d (.b true), [], lo⟩ := by
  have hc := @qyx
  have h0 := @qrK
  simp only [qum, qgr] at hc h0
  have h1 := @qqS
  have hr := @qzq
  simp only [qgr] at h1 hr
  rw [jY (fn := qa) rfl rfl]
  simp only [qa, qh, qf, qg, kJ, Nat.zero_add, Nat.reduceAdd, zu, List.length_nil, qaQ, qa8, j0, z7, ql8, qbt, qdC, qit, zn, jd, zg, List.map_nil, qZ, qa6, zQ, zl, ki, Nat.min_self, jT, qmR, qeg, qbb, qdz, Bool.not_true, qCH, jX, jS, qaO, qCG, ↓reduceIte, yk, reduceCtorEq, qdT, qaJ, zZ, qhE, qiK, Bool.or_true, Int.reduceEq, qbe, hn, Int.cast_ofNat_Int, zp, Int.reduceNeg, Int.reduceLE, qmx, qbh, Int.reduceSub, zW, ym, qO, Nat.reduceEqDiff, qbr, ke, Bool.or_false, qaP, Int.reduceAdd, Bool.or_self, qaK, Int.reduceLT, decide_true, List.length_cons, Nat.reduceLeDiff, ya, List.cons_append, List.nil_append, zo, decide_false, yh, zm, kG, List.map_cons, qM, yl, Bool.and_self, hc, qQ, qbi, jc, qP, qdR, qdW, qdI, kg, qa9, kP, qaY, zY, k9, kL, zU, z8, zV, z5, qd6, qir, qdv, qbl, yb, zc, q9, kH, yp, qbq, za, yg, qdX, List.drop_zero, List.take_succ_cons, List.take_zero, qbm, j7, qdP, yn, zx, zR, qy, zk, List.reduceReplicate, Nat.reduceLT, zr, List.set_cons_zero, zP, j8, qdJ, zq, z3, qbc, jZ, qaZ, zT, h0, qiH, qaH, jW, qbd, hw, h1, hr, yB, zF, yE, qkx, qbf, yr, zG, qf5, yx, qa3, yy, qaX, qbn, yq, qdc, qbg, beq_self_eq_true, jr, qcU, qbp, qi4, qR, qgl, qdf, jq, qkE, qbx, qgg, List.getElem?_cons_succ, List.getElem?_cons_zero, Nat.add_zero, jt, qby, qyM, zE, qyr, qbu, zD, qbo, yi, qN, z0, qdD, kp, zt, ye]
  all_goals exact ⟨_, rfl⟩
theorem qwS {n w : Nat} (hn : Int.tmod (n : Nat) 5 = (2 : Nat)) (hw : Int.tmod (w : Nat) 3 = (1 : Nat)) : ∃ lo, ql pgL 4 [.d (.i .u8 (n : Nat)), .d (.i .u8 (w : Nat))] [] = some ⟨false, true, .d (.b true), [], lo⟩ := by
  have hc := @qyx
  have h0 := @qrK
  simp only [qum, qgr] at hc h0
  have h1 := @qrT
  have hr := @qzq
  simp only [qgr] at h1 hr
  rw [jY (fn := qa) rfl rfl]
  simp only [qa, qh, qf, qg, kJ, Nat.zero_add, Nat.reduceAdd, zu, List.length_nil, qaQ, qa8, j0, z7, ql8, qbt, qdC, qit, zn, jd, zg, List.map_nil, qZ, qa6, zQ, zl, ki, Nat.min_self, jT, qmR, qeg, qbb, qdz, Bool.not_true, qCH, jX, jS, qaO, qCG, ↓reduceIte, yk, reduceCtorEq, qdT, qaJ, zZ, qhE, qiK, Bool.or_true, Int.reduceEq, qbe, hn, Int.cast_ofNat_Int, zp, Int.reduceNeg, Int.reduceLE, qmx, qbh, Int.reduceSub, zW, ym, qO, Nat.reduceEqDiff, qbr, ke, Bool.or_false, qaP, Int.reduceAdd, Bool.or_self, qaK, Int.reduceLT, decide_true, List.length_cons, Nat.reduceLeDiff, ya, List.cons_append, List.nil_append, zo, decide_false, yh, zm, kG, List.map_cons, qM, yl, Bool.and_self, hc, qQ, qbi, jc, qP, qdR, qdW, qdI, kg, qa9, kP, qaY, zY, k9, kL, zU, z8, zV, z5, qd6, qir, qdv, qbl, yb, zc, q9, kH, yp, qbq, za, yg, qdX, List.drop_zero, List.take_succ_cons, List.take_zero, qbm, j7, qdP, yn, zx, zR, qy, zk, List.reduceReplicate, Nat.reduceLT, zr, List.set_cons_zero, zP, j8, qdJ, zq, z3, qbc, jZ, qaZ, zT, h0, qiH, qaH, jW, qbd, hw, h1, hr, yB, zF, yE, qkx, qbf, yr, zG, qf5, yx, qa3, yy, qaX, qbn, yq, qdc, qbg, beq_self_eq_true, jr, qcU, qbp, qi4, qR, qgl, qdf, jq, qkE, qbx, qgg, List.getElem?_cons_succ, List.getElem?_cons_zero, Nat.add_zero, jt, qby, qyM, zE, qyr, qbu, zD, qbo, yi, qN, z0, qdD, kp, zt, ye]
  all_goals exact ⟨_, rfl⟩
theorem qw9 {n w : Nat} (hn : Int.tmod (n : Nat) 5 = (2 : Nat)) (hw : Int.tmod (w : Nat) 3 = (2 : Nat)) : ∃ lo, ql pgL 4 [.d (.i .u8 (n : Nat)), .d (.i .u8 (w : Nat))] [] = some ⟨false, true, .d (.b true), [], lo⟩ := by
  have hc := @qyx
  have h0 := @qrK
  simp only [qum, qgr] at hc h0
  have h1 := @qrQ
  have hr := @qzq
  simp only [qgr] at h1 hr
  rw [jY (fn := qa) rfl rfl]
  simp only [qa, qh, qf, qg, kJ, Nat.zero_add, Nat.reduceAdd, zu, List.length_nil, qaQ, qa8, j0, z7, ql8, qbt, qdC, qit, zn, jd, zg, List.map_nil, qZ, qa6, zQ, zl, ki, Nat.min_self, jT, qmR, qeg, qbb, qdz, Bool.not_true, qCH, jX, jS, qaO, qCG, ↓reduceIte, yk, reduceCtorEq, qdT, qaJ, zZ, qhE, qiK, Bool.or_true, Int.reduceEq, qbe, hn, Int.cast_ofNat_Int, zp, Int.reduceNeg, Int.reduceLE, qmx, qbh, Int.reduceSub, zW, ym, qO, Nat.reduceEqDiff, qbr, ke, Bool.or_false, qaP, Int.reduceAdd, Bool.or_self, qaK, Int.reduceLT, decide_true, List.length_cons, Nat.reduceLeDiff, ya, List.cons_append, List.nil_append, zo, decide_false, yh, zm, kG, List.map_cons, qM, yl, Bool.and_self, hc, qQ, qbi, jc, qP, qdR, qdW, qdI, kg, qa9, kP, qaY, zY, k9, kL, zU, z8, zV, z5, qd6, qir, qdv, qbl, yb, zc, q9, kH, yp, qbq, za, yg, qdX, List.drop_zero, List.take_succ_cons, List.take_zero, qbm, j7, qdP, yn, zx, zR, qy, zk, List.reduceReplicate, Nat.reduceLT, zr, List.set_cons_zero, zP, j8, qdJ, zq, z3, qbc, jZ, qaZ, zT, h0, qiH, qaH, jW, qbd, hw, h1, hr, yB, zF, yE, qkx, qbf, yr, zG, qf5, yx, qa3, yy, qaX, qbn, yq, qdc, qbg, beq_self_eq_true, jr, qcU, qbp, Bool.not_false, qR, qgl, qdf, jq, qkE, qbx, qgg, List.getElem?_cons_succ, List.getElem?_cons_zero, Nat.add_zero, jt, qby, qyM, zE, qyr, qbu, zD, qbo, yi, qN, z0, qdD, kp, zt, ye]
  all_goals exact ⟨_, rfl⟩
theorem qBi {n w : Nat} (hn : Int.tmod (n : Nat) 5 = (3 : Nat)) : ∃ lo, ql pgL 4 [.d (.i .u8 (n : Nat)), .d (.i .u8 (w : Nat))] [] = some ⟨false, true, .d (.b true), [], lo⟩ := by
  have hc := @qCt
  have h0 := @qAl
  simp only [qAo, qvn] at hc h0
  rw [jY (fn := qa) rfl rfl]
  simp only [qa, qh, qf, qg, kJ, Nat.zero_add, Nat.reduceAdd, zu, List.length_nil, qaQ, qa8, j0, z7, ql8, qbt, qdC, qit, zn, jd, zg, List.map_nil, qZ, qa6, zQ, zl, ki, Nat.min_self, jT, qmR, qeg, qbb, qdz, Bool.not_true, qCH, jX, jS, qaO, qCG, ↓reduceIte, yk, reduceCtorEq, qdT, qaJ, zZ, qhE, qiK, Bool.or_true, Int.reduceEq, qbe, hn, Int.cast_ofNat_Int, zp, Int.reduceNeg, Int.reduceLE, qmx, qbh, Int.reduceSub, zW, ym, qO, Nat.reduceEqDiff, qbr, ke, Bool.or_false, qaP, Int.reduceAdd, Bool.or_self, qaK, Int.reduceLT, decide_true, List.length_cons, Nat.reduceLeDiff, ya, List.cons_append, List.nil_append, zo, decide_false, yh, zm, kG, List.map_cons, qM, yl, Bool.and_self, hc, qQ, qbi, jc, qP, qdR, qdW, qdI, kg, qa9, kP, qaY, zY, k9, kL, zU, z8, zV, z5, qd6, qir, qdv, qbl, yb, zc, q9, kH, yp, qbq, za, yg, qdX, List.drop_zero, List.take_succ_cons, List.take_zero, qbm, j7, qdP, yn, zx, zR, qy, zk, List.reduceReplicate, Nat.reduceLT, zr, List.set_cons_zero, zP, j8, qdJ, zq, z3, qbc, jZ, qaZ, zT, h0, qiH, qaH, jW, qbd, qa3, qbo, qnY, yi, qN, z0, qdD, kp, zt, ye]
  all_goals exact ⟨_, rfl⟩
theorem qAI {n w : Nat} (hn : Int.tmod (n : Nat) 5 = (4 : Nat)) : ∃ lo, ql pgL 4 [.d (.i .u8 (n : Nat)), .d (.i .u8 (w : Nat))] [] = some ⟨false, true, .d (.b true), [], lo⟩ := by
  have hc := @qCg
  have h0 := @qyJ
  simp only [qAj, qvz] at hc h0
  rw [jY (fn := qa) rfl rfl]
  simp only [qa, qh, qf, qg, kJ, Nat.zero_add, Nat.reduceAdd, zu, List.length_nil, qaQ, qa8, j0, z7, ql8, qbt, qdC, qit, zn, jd, zg, List.map_nil, qZ, qa6, zQ, zl, ki, Nat.min_self, jT, qmR, qeg, qbb, qdz, Bool.not_true, qCH, jX, jS, qaO, qCG, ↓reduceIte, yk, reduceCtorEq, qdT, qaJ, zZ, qhE, qiK, Bool.or_true, Int.reduceEq, qbe, hn, Int.cast_ofNat_Int, zp, Int.reduceNeg, Int.reduceLE, qmx, qbh, Int.reduceSub, zW, ym, qO, Nat.reduceEqDiff, qbr, ke, Bool.or_false, qaP, Int.reduceAdd, Bool.or_self, qaK, Int.reduceLT, decide_true, List.length_cons, Nat.reduceLeDiff, ya, List.cons_append, List.nil_append, zo, decide_false, yh, zm, kG, List.map_cons, qM, yl, Bool.and_self, hc, qQ, qbi, jc, qP, qdR, qdW, qdI, kg, qa9, kP, qaY, zY, k9, kL, zU, z8, zV, z5, qd6, qir, qdv, qbl, yb, zc, q9, kH, yp, qbq, za, yg, qdX, List.drop_zero, List.take_succ_cons, List.take_zero, qbm, j7, qdP, yn, zx, zR, qy, zk, List.reduceReplicate, Nat.reduceLT, zr, List.set_cons_zero, zP, j8, qdJ, zq, z3, qbc, jZ, qaZ, zT, h0, qiH, qaH, jW, qbd, qa3, qbo, qnY, yi, qN, z0, qdD, kp, zt, ye]
  all_goals exact ⟨_, rfl⟩
theorem qwi {n w : Nat} : ∃ lo, ql pgL 4 [.d (.i .u8 (n : Nat)), .d (.i .u8 (w : Nat))] [] = some ⟨false, true, .d (.b true), [], lo⟩ := by
  have hn : Int.tmod (n : Nat) 5 = ((n % 5 : Nat) : Int) := rfl
  have hw : Int.tmod (w : Nat) 3 = ((w % 3 : Nat) : Int) := rfl
  have h5 : n % 5 = 0 ∨ n % 5 = 1 ∨ n % 5 = 2 ∨ n % 5 = 3 ∨ n % 5 = 4 := by omega
  have h3 : w % 3 = 0 ∨ w % 3 = 1 ∨ w % 3 = 2 := by omega
  rcases h5 with h | h | h | h | h
  · rw [h] at hn; rcases h3 with h' | h' | h' <;> rw [h'] at hw
    · exact qwo hn hw
    · exact qxd hn hw
    · exact qw6 hn hw
  · rw [h] at hn; rcases h3 with h' | h' | h' <;> rw [h'] at hw
    · exact qwN hn hw
    · exact qxe hn hw
    · exact qwY hn hw
  · rw [h] at hn; rcases h3 with h' | h' | h' <;> rw [h'] at hw
    · exact qwv hn hw
    · exact qwS hn hw
    · exact qw9 hn hw
  · rw [h] at hn; exact qBi hn
  · rw [h] at hn; exact qAI hn
end W

